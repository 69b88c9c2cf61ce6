-- written by a program of this session (wip/tools/mprint.sh) for this seat
import Derived.Test.YtnbiddloiiljjaaMPx0
import Derived.Test.YtnbiddloiiljjaaMPx2
namespace Go.Proofs.Ytnbiddloiiljjaa.MP
open Go.RowKit Go.Proofs.YtnbiddloiiljjaaW.PrintWords Go.Proofs.YtnbiddloiiljjaaW.PrintLast Go.Proofs.YtnbiddloiiljjaaW.PrintMore
open Option (bind_eq_some_iff some.injEq)
open _root_.Go.Proofs.Try
open List (setIfInBounds_toArray set_cons_zero set_cons_succ map_toArray map_cons map_nil length_drop length_take)
attribute [local go_sem] max2_int min2_int max_two min_two max_three min_three max_four min_four
set_option linter.unusedVariables false
set_option linter.unusedSimpArgs false
def sub_Leaves.f (k : Nat) (a0 : Int) (a1_0 : Int) (a1_1 : Int) : Option ((List (S69)) × Int) := (sub_both.f k a0 a1_0 a1_1).bind fun bt156 => (if bt156.2.2.2.2 = 0 then (if a1_1 = 0 then (some ((([(⟨bt156.1, bt156.2.1⟩ : S69)] : List (S69))), 0)) else (if bt156.1 < bt156.2.2.1 then (if ([] : List (S69)).length < 8796093022208 then ((some (([] : List (S69)) ++ [(⟨bt156.1, IntKind.u64.wrap (bt156.2.2.1 - 1)⟩ : S69)] : List (S69))).bind fun y166 => (if bt156.2.2.2.1 < bt156.2.1 then (if y166.length < 8796093022208 then (some ((y166 ++ [(⟨IntKind.u64.wrap (bt156.2.2.2.1 + 1), bt156.2.1⟩ : S69)]), 0)) else (none)) else (some (y166, 0)))) else (none)) else (if bt156.2.2.2.1 < bt156.2.1 then (if ([] : List (S69)).length < 8796093022208 then (some ((([] : List (S69)) ++ [(⟨IntKind.u64.wrap (bt156.2.2.2.1 + 1), bt156.2.1⟩ : S69)]), 0)) else (none)) else (some (([] : List (S69)), 0))))) else (some (([] : List (S69)), bt156.2.2.2.2)))
theorem sub_Leaves.mono : ∀ a0 a1 a2 k, LeO (sub_Leaves.f k a0 a1 a2) (sub_Leaves.f (k + 1) a0 a1 a2) := by
  intro a0 a1 a2 k
  unfold sub_Leaves.f
  repeat' first
    | (with_reducible exact sub_both.mono _ _ _ _)
    | (with_reducible exact LeO.refl _)
    | (with_reducible exact LeO.none _)
    | (with_reducible refine LeO.ite ?_ ?_)
    | (with_reducible refine LeO.bind ?_ (fun _ => ?_))
    | exact sub_both.mono _ _ _ _
    | exact LeO.none _
    | refine LeO.ite ?_ ?_
    | refine LeO.bind ?_ (fun _ => ?_)
set_option maxHeartbeats 8000000 in
set_option maxRecDepth 100000 in
theorem sub_Leaves.calls (k : Nat) (a0 : Int) (a1_0 : Int) (a1_1 : Int) (r1 : List (S69)) (r2 : Int) (w : World) (h : sub_Leaves.f k a0 a1_0 a1_1 = some (r1, r2)) :
   Calls Try.prog 11 #[.int .i64 a0, .agg #[.int .u64 a1_0, .int .u64 a1_1]] w fun e w' => ∃ v0_ : Value, e = .returned (.tuple #[v0_, .int .i64 r2]) ∧ Kd.R k69 69 w' w.heap.size (fun _ => True) v0_ r1 ∧ Below w.heap.size w w' := by
  have hu24 := underlying24
  have hu69 := underlying69
  have HB := ak_ (Below.refl w.heap.size w)
  have H : ((sub_both.f k a0 a1_0 a1_1).bind fun bt156 => (if bt156.2.2.2.2 = 0 then (if a1_1 = 0 then (some ((([(⟨bt156.1, bt156.2.1⟩ : S69)] : List (S69))), 0)) else (if bt156.1 < bt156.2.2.1 then (if ([] : List (S69)).length < 8796093022208 then ((some (([] : List (S69)) ++ [(⟨bt156.1, IntKind.u64.wrap (bt156.2.2.1 - 1)⟩ : S69)] : List (S69))).bind fun y166 => (if bt156.2.2.2.1 < bt156.2.1 then (if y166.length < 8796093022208 then (some ((y166 ++ [(⟨IntKind.u64.wrap (bt156.2.2.2.1 + 1), bt156.2.1⟩ : S69)]), 0)) else (none)) else (some (y166, 0)))) else (none)) else (if bt156.2.2.2.1 < bt156.2.1 then (if ([] : List (S69)).length < 8796093022208 then (some ((([] : List (S69)) ++ [(⟨IntKind.u64.wrap (bt156.2.2.2.1 + 1), bt156.2.1⟩ : S69)]), 0)) else (none)) else (some (([] : List (S69)), 0))))) else (some (([] : List (S69)), bt156.2.2.2.2)))) = some (r1, r2) := h
  clear h
  replace H := bind_eq_some_iff.mp H
  obtain ⟨⟨t156, t157, t158, t159, t160⟩, A30, H⟩ := H
  replace H : (if t160 = 0 then (if a1_1 = 0 then (some ((([(⟨t156, t157⟩ : S69)] : List (S69))), 0)) else (if t156 < t158 then (if ([] : List (S69)).length < 8796093022208 then ((some (([] : List (S69)) ++ [(⟨t156, IntKind.u64.wrap (t158 - 1)⟩ : S69)] : List (S69))).bind fun y166 => (if t159 < t157 then (if y166.length < 8796093022208 then (some ((y166 ++ [(⟨IntKind.u64.wrap (t159 + 1), t157⟩ : S69)]), 0)) else (none)) else (some (y166, 0)))) else (none)) else (if t159 < t157 then (if ([] : List (S69)).length < 8796093022208 then (some ((([] : List (S69)) ++ [(⟨IntKind.u64.wrap (t159 + 1), t157⟩ : S69)]), 0)) else (none)) else (some (([] : List (S69)), 0))))) else (some (([] : List (S69)), t160))) = some (r1, r2) := H
  have A3 := ak_ A30
  clear A30
  by_cases c4 : t160 = 0
  ·rw [if_pos c4] at H
   have c4b0 : (t160 == 0) = true := beq_iff_eq.mpr c4
   have c4b1 : (t160 != 0) = false := bne_eq_false_iff_eq.mpr c4
   clear c4
   by_cases c5 : a1_1 = 0
   ·rw [if_pos c5] at H
    have c5b0 : (a1_1 == 0) = true := beq_iff_eq.mpr c5
    have c5b1 : (a1_1 != 0) = false := bne_eq_false_iff_eq.mpr c5
    clear c5
    obtain ⟨y163, hy163⟩ : ∃ y_ : List (S69), y_ = (([(⟨t156, t157⟩ : S69)] : List (S69))) := ⟨_, rfl⟩
    replace H : (some (y163, 0)) = some (r1, r2) := by first | (rw [hy163]; with_reducible exact H) | (have H2_ := (Option.bind_some _ _).symm.trans H; rw [hy163]; with_reducible exact H2_) | (have H2_ := (Option.bind_some _ _).symm.trans H; with_reducible exact H2_) | with_reducible exact H | (rw [hy163]; exact H) | exact H
    have Ny163 := ak_ hy163
    clear hy163
    simp only [some.injEq, Prod.mk.injEq] at H
    obtain ⟨rfl, rfl⟩ := H
    go_enter func11, ntmps11
    go_wp2_with (first | ((with_reducible refine gate_dst (N := 3) rfl ?_); refine box_event ?hg (N := 3) ?hd (cs := #[.int .u64 a1_0, .int .u64 a1_1]) (t := 24) ?hr ?_; (case hd => rfl); (case hg => rfl); (case hr => first | (go_simp; done) | (go_simp; rfl)); intro gb155 hg w6 hbox hb; have n0_ := ak_ (bt_ (bl_ HB) hb); have n1_ := ak_ (hbox); have n2_ := ak_ ((gs_ hg HB)); have n3_ := ak_ ((gs_ hg HB)); clear HB; have HB := n0_; have BK155 := n1_; have GW155 := n2_; have GE155 := n3_; clear n0_ n1_ n2_ n3_; clear hb hbox hg; have hcz7_0 : w6.cell? ⟨gb155, 0, none⟩ = some (.int .u64 a1_0) := (kc_ BK155.out 0).trans rfl; have hcz7_1 : w6.cell? ⟨gb155, 1, none⟩ = some (.int .u64 a1_1) := (kc_ BK155.out 1).trans rfl; have hfz7_0 := kf_ BK155.out 0; have hfz7_1 := kf_ BK155.out 1) | ((with_reducible refine gate_callee (f := 32) rfl ?_); refine goesL_ (some 11) rfl rfl func32 (by kernel_rfl) rfl #[.int .i64 a0, .agg #[.int .u64 a1_0, .int .u64 a1_1]] rfl (by (try simp only [map_toArray, map_cons, map_nil]); first | done | rfl) ?_; (with_reducible refine (sub_both.calls k a0 a1_0 a1_1 t156 t157 t158 t159 t160 _ A3.out).mono ?_); rintro e w8 ⟨rfl, hb⟩; refine ⟨_, rfl, ?_⟩; have n0_ := ak_ (kb_ (g := gb155) (o := .cells #[.int .u64 a1_0, .int .u64 a1_1] 24 (0, 0)) (kl_ BK155) hb); have n1_ := ak_ (bt_ (by repeat (first | (with_reducible first | exact HB.out | apply ba_ | apply bn_ | apply bd_ | refine below_set ?_ GE155.out) | exact HB.out)) hb); clear BK155; clear HB; have BK155 := n0_; have HB := n1_; clear n0_ n1_; (try clear hb); (try clear hk)) | ((with_reducible refine gate_dst (N := 6) rfl ?_); refine box_event ?hg (N := 6) ?hd (cs := #[.int .u64 0, .int .u64 0]) (t := 69) ?hr ?_; (case hd => rfl); (case hg => rfl); (case hr => first | (go_simp; done) | (go_simp; rfl)); intro gb161 hg w9 hbox hb; have n0_ := ak_ (kb_ (g := gb155) (o := .cells #[.int .u64 a1_0, .int .u64 a1_1] 24 (0, 0)) (kl_ BK155) hb); have n1_ := ak_ (bt_ (by repeat (first | (with_reducible first | exact HB.out | apply ba_ | apply bn_ | apply bd_ | refine below_set ?_ GE155.out) | exact HB.out)) hb); have n2_ := ak_ (hbox); have n3_ := ak_ ((by rw [hg]; exact (bz_ (by repeat (first | (with_reducible first | exact HB.out | apply ba_ | apply bn_ | apply bd_ | refine below_set ?_ GE155.out) | exact HB.out))) : w.heap.size ≤ gb161)); have n4_ := ak_ ((by rw [hg]; exact (bz_ (by repeat (first | (with_reducible first | exact HB.out | apply ba_ | apply bn_ | apply bd_ | refine below_set ?_ GE155.out) | exact HB.out))) : w.heap.size ≤ gb161)); have n5_ := ak_ ((by rw [hg]; exact Nat.ne_of_lt (blk_lt (g := gb155) (o := .cells #[.int .u64 a1_0, .int .u64 a1_1] 24 (0, 0)) (kl_ BK155)) : gb155 ≠ gb161)); have n6_ := ak_ ((by rw [hg]; exact Nat.ne_of_gt (blk_lt (g := gb155) (o := .cells #[.int .u64 a1_0, .int .u64 a1_1] 24 (0, 0)) (kl_ BK155)) : gb161 ≠ gb155)); clear BK155; clear HB; have BK155 := n0_; have HB := n1_; have BK161 := n2_; have GW161 := n3_; have GE161 := n4_; have NB155_161 := n5_; have NB161_155 := n6_; clear n0_ n1_ n2_ n3_ n4_ n5_ n6_; clear hb hbox hg) | ((with_reducible refine gate_dst (N := 7) rfl ?_); refine box_event ?hg (N := 7) ?hd (cs := #[.int .u64 0, .int .u64 0]) (t := 69) ?hr ?_; (case hd => rfl); (case hg => rfl); (case hr => first | (go_simp; done) | (go_simp; rfl)); intro gb162 hg w10 hbox hb; have n0_ := ak_ (kb_ (g := gb155) (o := .cells #[.int .u64 a1_0, .int .u64 a1_1] 24 (0, 0)) (kl_ BK155) hb); have n1_ := ak_ (kb_ (g := gb161) (o := .cells #[.int .u64 0, .int .u64 0] 69 (0, 0)) (kl_ BK161) hb); have n2_ := ak_ (bt_ (by repeat (first | (with_reducible first | exact HB.out | apply ba_ | apply bn_ | apply bd_ | refine below_set ?_ GE155.out | refine below_set ?_ GE161.out) | exact HB.out)) hb); have n3_ := ak_ (hbox); have n4_ := ak_ ((by rw [hg]; exact (bz_ (by repeat (first | (with_reducible first | exact HB.out | apply ba_ | apply bn_ | apply bd_ | refine below_set ?_ GE155.out | refine below_set ?_ GE161.out) | exact HB.out))) : w.heap.size ≤ gb162)); have n5_ := ak_ ((by rw [hg]; exact (bz_ (by repeat (first | (with_reducible first | exact HB.out | apply ba_ | apply bn_ | apply bd_ | refine below_set ?_ GE155.out | refine below_set ?_ GE161.out) | exact HB.out))) : w.heap.size ≤ gb162)); have n6_ := ak_ ((by rw [hg]; exact Nat.ne_of_lt (blk_lt (g := gb155) (o := .cells #[.int .u64 a1_0, .int .u64 a1_1] 24 (0, 0)) (kl_ BK155)) : gb155 ≠ gb162)); have n7_ := ak_ ((by rw [hg]; exact Nat.ne_of_gt (blk_lt (g := gb155) (o := .cells #[.int .u64 a1_0, .int .u64 a1_1] 24 (0, 0)) (kl_ BK155)) : gb162 ≠ gb155)); have n8_ := ak_ ((by rw [hg]; exact Nat.ne_of_lt (blk_lt (g := gb161) (o := .cells #[.int .u64 0, .int .u64 0] 69 (0, 0)) (kl_ BK161)) : gb161 ≠ gb162)); have n9_ := ak_ ((by rw [hg]; exact Nat.ne_of_gt (blk_lt (g := gb161) (o := .cells #[.int .u64 0, .int .u64 0] 69 (0, 0)) (kl_ BK161)) : gb162 ≠ gb161)); clear BK155; clear BK161; clear HB; have BK155 := n0_; have BK161 := n1_; have HB := n2_; have BK162 := n3_; have GW162 := n4_; have GE162 := n5_; have NB155_162 := n6_; have NB162_155 := n7_; have NB161_162 := n8_; have NB162_161 := n9_; clear n0_ n1_ n2_ n3_ n4_ n5_ n6_ n7_ n8_ n9_; clear hb hbox hg; have hnb11 := NB161_155.out; have hnc11 := NB155_161.out; have hnb12 := NB161_162.out; have hnc12 := NB162_161.out; have hcz13_0 : w10.cell? ⟨gb161, 0, none⟩ = some (.int .u64 0) := (kc_ BK161.out 0).trans rfl; have hcz13_1 : w10.cell? ⟨gb161, 1, none⟩ = some (.int .u64 0) := (kc_ BK161.out 1).trans rfl; have hfz13_0 := kf_ BK161.out 0; have hfz13_1 := kf_ BK161.out 1; have hnb14 := NB162_155.out; have hnc14 := NB155_162.out; have hcz15_0 : w10.cell? ⟨gb162, 0, none⟩ = some (.int .u64 0) := (kc_ BK162.out 0).trans rfl; have hcz15_1 : w10.cell? ⟨gb162, 1, none⟩ = some (.int .u64 0) := (kc_ BK162.out 1).trans rfl; have hfz15_0 := kf_ BK162.out 0; have hfz15_1 := kf_ BK162.out 1; have hcz16_0 : w10.cell? ⟨gb155, 0, none⟩ = some (.int .u64 a1_0) := (kc_ BK155.out 0).trans rfl; have hcz16_1 : w10.cell? ⟨gb155, 1, none⟩ = some (.int .u64 a1_1) := (kc_ BK155.out 1).trans rfl; have hfz16_0 := kf_ BK155.out 0; have hfz16_1 := kf_ BK155.out 1) | ((with_reducible refine gate_dst (N := 24) rfl ?_); refine Kd.R_lit k69 _ 69 ?hg (N := 24) ?hd (xs := ([(⟨t156, t157⟩ : S69)] : List (S69))) (inner := [.int .u64 t156, .int .u64 t157]) (ok := fun _ => True) (okp := fun _ => True) ?hr ?hp (fun _ hk => hk) trivial (Below.refl _ _) (Nat.le_refl _) (by simp) ?_; (case hd => rfl); (case hg => rfl); (case hr => first | (go_simp; done) | (go_simp; rfl)); (case hp => exact (Reps.c2 (show Kd.M k69 _ _ _ (⟨t156, t157⟩ : S69) [.int .u64 t156, .int .u64 t157] from (k69_mkM _ _ _ (⟨t156, t157⟩ : S69) )) (Reps.none _ _))); intro v164 w17 ho18 hb hg_ hnew_; clear hg_ hnew_; (first | rw [← Ny163.out] at ho18 | (simp only [Int.reduceToNat] at ho18; rw [← Ny163.out] at ho18)); have n0_ := ak_ (Kd.R_lower (Kd.R_newB (Kd.R_newB ho18 (g := gb161) (o := .cells #[.int .u64 t156, .int .u64 t157] 69 (0, 0)) (by (with_reducible repeat (first | refine kn_ ?_ _ | refine kd_ ?_ | refine ka_ ?_ _)); refine blk_far ?_ NB161_162.out _; (with_reducible repeat (first | refine kn_ ?_ _ | refine kd_ ?_ | refine ka_ ?_ _)); refine blk_far ?_ NB161_162.out _; (with_reducible repeat (first | refine kn_ ?_ _ | refine kd_ ?_ | refine ka_ ?_ _)); refine blk_put (cs := #[.int .u64 t156, .int .u64 0]) ?_ 1 _ rfl; (with_reducible repeat (first | refine kn_ ?_ _ | refine kd_ ?_ | refine ka_ ?_ _)); refine blk_put (cs := #[.int .u64 0, .int .u64 0]) ?_ 0 _ rfl; (with_reducible repeat (first | refine kn_ ?_ _ | refine kd_ ?_ | refine ka_ ?_ _)); exact BK161.out)) (g := gb162) (o := .cells #[.int .u64 t158, .int .u64 t159] 69 (0, 0)) (by (with_reducible repeat (first | refine kn_ ?_ _ | refine kd_ ?_ | refine ka_ ?_ _)); refine blk_put (cs := #[.int .u64 t158, .int .u64 0]) ?_ 1 _ rfl; (with_reducible repeat (first | refine kn_ ?_ _ | refine kd_ ?_ | refine ka_ ?_ _)); refine blk_put (cs := #[.int .u64 0, .int .u64 0]) ?_ 0 _ rfl; (with_reducible repeat (first | refine kn_ ?_ _ | refine kd_ ?_ | refine ka_ ?_ _)); refine blk_far ?_ NB162_161.out _; (with_reducible repeat (first | refine kn_ ?_ _ | refine kd_ ?_ | refine ka_ ?_ _)); refine blk_far ?_ NB162_161.out _; (with_reducible repeat (first | refine kn_ ?_ _ | refine kd_ ?_ | refine ka_ ?_ _)); exact BK162.out)) (bz_ (by repeat (first | (with_reducible first | exact HB.out | apply ba_ | apply bn_ | apply bd_ | refine below_set ?_ GE155.out | refine below_set ?_ GE161.out | refine below_set ?_ GE162.out) | exact HB.out)))); have n1_ := ak_ (kb_ (g := gb155) (o := .cells #[.int .u64 a1_0, .int .u64 a1_1] 24 (0, 0)) (by (with_reducible repeat (first | refine kn_ ?_ _ | refine kd_ ?_ | refine ka_ ?_ _)); refine blk_far ?_ NB155_162.out _; (with_reducible repeat (first | refine kn_ ?_ _ | refine kd_ ?_ | refine ka_ ?_ _)); refine blk_far ?_ NB155_162.out _; (with_reducible repeat (first | refine kn_ ?_ _ | refine kd_ ?_ | refine ka_ ?_ _)); refine blk_far ?_ NB155_161.out _; (with_reducible repeat (first | refine kn_ ?_ _ | refine kd_ ?_ | refine ka_ ?_ _)); refine blk_far ?_ NB155_161.out _; (with_reducible repeat (first | refine kn_ ?_ _ | refine kd_ ?_ | refine ka_ ?_ _)); exact BK155.out) hb); have n2_ := ak_ (kb_ (g := gb161) (o := .cells #[.int .u64 t156, .int .u64 t157] 69 (0, 0)) (by (with_reducible repeat (first | refine kn_ ?_ _ | refine kd_ ?_ | refine ka_ ?_ _)); refine blk_far ?_ NB161_162.out _; (with_reducible repeat (first | refine kn_ ?_ _ | refine kd_ ?_ | refine ka_ ?_ _)); refine blk_far ?_ NB161_162.out _; (with_reducible repeat (first | refine kn_ ?_ _ | refine kd_ ?_ | refine ka_ ?_ _)); refine blk_put (cs := #[.int .u64 t156, .int .u64 0]) ?_ 1 _ rfl; (with_reducible repeat (first | refine kn_ ?_ _ | refine kd_ ?_ | refine ka_ ?_ _)); refine blk_put (cs := #[.int .u64 0, .int .u64 0]) ?_ 0 _ rfl; (with_reducible repeat (first | refine kn_ ?_ _ | refine kd_ ?_ | refine ka_ ?_ _)); exact BK161.out) hb); have n3_ := ak_ (kb_ (g := gb162) (o := .cells #[.int .u64 t158, .int .u64 t159] 69 (0, 0)) (by (with_reducible repeat (first | refine kn_ ?_ _ | refine kd_ ?_ | refine ka_ ?_ _)); refine blk_put (cs := #[.int .u64 t158, .int .u64 0]) ?_ 1 _ rfl; (with_reducible repeat (first | refine kn_ ?_ _ | refine kd_ ?_ | refine ka_ ?_ _)); refine blk_put (cs := #[.int .u64 0, .int .u64 0]) ?_ 0 _ rfl; (with_reducible repeat (first | refine kn_ ?_ _ | refine kd_ ?_ | refine ka_ ?_ _)); refine blk_far ?_ NB162_161.out _; (with_reducible repeat (first | refine kn_ ?_ _ | refine kd_ ?_ | refine ka_ ?_ _)); refine blk_far ?_ NB162_161.out _; (with_reducible repeat (first | refine kn_ ?_ _ | refine kd_ ?_ | refine ka_ ?_ _)); exact BK162.out) hb); have n4_ := ak_ (bt_ (by repeat (first | (with_reducible first | exact HB.out | apply ba_ | apply bn_ | apply bd_ | refine below_set ?_ GE155.out | refine below_set ?_ GE161.out | refine below_set ?_ GE162.out) | exact HB.out)) hb); clear BK155; clear BK161; clear BK162; clear HB; have HO165 := n0_; have BK155 := n1_; have BK161 := n2_; have BK162 := n3_; have HB := n4_; clear n0_ n1_ n2_ n3_ n4_; clear hb ho18))
    go_ret2
    exact ⟨_, by first | rfl | (simp <;> rfl) | (simp [*] <;> rfl), by (with_reducible repeat (first | apply Kd.R_alloc | apply Kd.R_drewN | apply Kd.R_drew)); exact Kd.R_mono HO165.out (fun _ hk => trivial), by repeat (first | (with_reducible first | exact HB.out | apply ba_ | apply bn_ | apply bd_ | refine below_set ?_ GE155.out | refine below_set ?_ GE161.out | refine below_set ?_ GE162.out) | exact HB.out)⟩
   ·rw [if_neg c5] at H
    have c5b0 : (a1_1 == 0) = false := beq_eq_false_iff_ne.mpr c5
    have c5b1 : (a1_1 != 0) = true := bne_iff_ne.mpr c5
    by_cases c19 : t156 < t158
    ·rw [if_pos c19] at H
     have c19b0 := decide_eq_true c19
     clear c19
     by_cases c20 : ([] : List (S69)).length < 8796093022208
     ·rw [if_pos c20] at H
      have LMc20 := ak_ c20
      clear c20
      obtain ⟨y166, hy166⟩ : ∃ y_ : List (S69), y_ = (([] : List (S69)) ++ [(⟨t156, IntKind.u64.wrap (t158 - 1)⟩ : S69)]) := ⟨_, rfl⟩
      replace H : (if t159 < t157 then (if y166.length < 8796093022208 then (some ((y166 ++ [(⟨IntKind.u64.wrap (t159 + 1), t157⟩ : S69)]), 0)) else (none)) else (some (y166, 0))) = some (r1, r2) := by first | (rw [hy166]; with_reducible exact H) | (have H2_ := (Option.bind_some _ _).symm.trans H; rw [hy166]; with_reducible exact H2_) | (have H2_ := (Option.bind_some _ _).symm.trans H; with_reducible exact H2_) | with_reducible exact H | (rw [hy166]; exact H) | exact H
      have Ny166 := ak_ hy166
      clear hy166
      by_cases c21 : t159 < t157
      ·rw [if_pos c21] at H
       have c21b0 := decide_eq_true c21
       clear c21
       by_cases c22 : y166.length < 8796093022208
       ·rw [if_pos c22] at H
        have LMc22 := ak_ c22
        clear c22
        obtain ⟨y169, hy169⟩ : ∃ y_ : List (S69), y_ = (y166 ++ [(⟨IntKind.u64.wrap (t159 + 1), t157⟩ : S69)]) := ⟨_, rfl⟩
        replace H : (some (y169, 0)) = some (r1, r2) := by first | (rw [hy169]; with_reducible exact H) | (have H2_ := (Option.bind_some _ _).symm.trans H; rw [hy169]; with_reducible exact H2_) | (have H2_ := (Option.bind_some _ _).symm.trans H; with_reducible exact H2_) | with_reducible exact H | (rw [hy169]; exact H) | exact H
        have Ny169 := ak_ hy169
        clear hy169
        simp only [some.injEq, Prod.mk.injEq] at H
        obtain ⟨rfl, rfl⟩ := H
        go_enter func11, ntmps11
        go_wp2_with (first | ((with_reducible refine gate_dst (N := 3) rfl ?_); refine box_event ?hg (N := 3) ?hd (cs := #[.int .u64 a1_0, .int .u64 a1_1]) (t := 24) ?hr ?_; (case hd => rfl); (case hg => rfl); (case hr => first | (go_simp; done) | (go_simp; rfl)); intro gb155 hg w23 hbox hb; have n0_ := ak_ (bt_ (bl_ HB) hb); have n1_ := ak_ (hbox); have n2_ := ak_ ((gs_ hg HB)); have n3_ := ak_ ((gs_ hg HB)); clear HB; have HB := n0_; have BK155 := n1_; have GW155 := n2_; have GE155 := n3_; clear n0_ n1_ n2_ n3_; clear hb hbox hg; have hcz24_0 : w23.cell? ⟨gb155, 0, none⟩ = some (.int .u64 a1_0) := (kc_ BK155.out 0).trans rfl; have hcz24_1 : w23.cell? ⟨gb155, 1, none⟩ = some (.int .u64 a1_1) := (kc_ BK155.out 1).trans rfl; have hfz24_0 := kf_ BK155.out 0; have hfz24_1 := kf_ BK155.out 1) | ((with_reducible refine gate_callee (f := 32) rfl ?_); refine goesL_ (some 11) rfl rfl func32 (by kernel_rfl) rfl #[.int .i64 a0, .agg #[.int .u64 a1_0, .int .u64 a1_1]] rfl (by (try simp only [map_toArray, map_cons, map_nil]); first | done | rfl) ?_; (with_reducible refine (sub_both.calls k a0 a1_0 a1_1 t156 t157 t158 t159 t160 _ A3.out).mono ?_); rintro e w25 ⟨rfl, hb⟩; refine ⟨_, rfl, ?_⟩; have n0_ := ak_ (kb_ (g := gb155) (o := .cells #[.int .u64 a1_0, .int .u64 a1_1] 24 (0, 0)) (kl_ BK155) hb); have n1_ := ak_ (bt_ (by repeat (first | (with_reducible first | exact HB.out | apply ba_ | apply bn_ | apply bd_ | refine below_set ?_ GE155.out) | exact HB.out)) hb); clear BK155; clear HB; have BK155 := n0_; have HB := n1_; clear n0_ n1_; (try clear hb); (try clear hk)) | ((with_reducible refine gate_dst (N := 6) rfl ?_); refine box_event ?hg (N := 6) ?hd (cs := #[.int .u64 0, .int .u64 0]) (t := 69) ?hr ?_; (case hd => rfl); (case hg => rfl); (case hr => first | (go_simp; done) | (go_simp; rfl)); intro gb161 hg w26 hbox hb; have n0_ := ak_ (kb_ (g := gb155) (o := .cells #[.int .u64 a1_0, .int .u64 a1_1] 24 (0, 0)) (kl_ BK155) hb); have n1_ := ak_ (bt_ (by repeat (first | (with_reducible first | exact HB.out | apply ba_ | apply bn_ | apply bd_ | refine below_set ?_ GE155.out) | exact HB.out)) hb); have n2_ := ak_ (hbox); have n3_ := ak_ ((by rw [hg]; exact (bz_ (by repeat (first | (with_reducible first | exact HB.out | apply ba_ | apply bn_ | apply bd_ | refine below_set ?_ GE155.out) | exact HB.out))) : w.heap.size ≤ gb161)); have n4_ := ak_ ((by rw [hg]; exact (bz_ (by repeat (first | (with_reducible first | exact HB.out | apply ba_ | apply bn_ | apply bd_ | refine below_set ?_ GE155.out) | exact HB.out))) : w.heap.size ≤ gb161)); have n5_ := ak_ ((by rw [hg]; exact Nat.ne_of_lt (blk_lt (g := gb155) (o := .cells #[.int .u64 a1_0, .int .u64 a1_1] 24 (0, 0)) (kl_ BK155)) : gb155 ≠ gb161)); have n6_ := ak_ ((by rw [hg]; exact Nat.ne_of_gt (blk_lt (g := gb155) (o := .cells #[.int .u64 a1_0, .int .u64 a1_1] 24 (0, 0)) (kl_ BK155)) : gb161 ≠ gb155)); clear BK155; clear HB; have BK155 := n0_; have HB := n1_; have BK161 := n2_; have GW161 := n3_; have GE161 := n4_; have NB155_161 := n5_; have NB161_155 := n6_; clear n0_ n1_ n2_ n3_ n4_ n5_ n6_; clear hb hbox hg) | ((with_reducible refine gate_dst (N := 7) rfl ?_); refine box_event ?hg (N := 7) ?hd (cs := #[.int .u64 0, .int .u64 0]) (t := 69) ?hr ?_; (case hd => rfl); (case hg => rfl); (case hr => first | (go_simp; done) | (go_simp; rfl)); intro gb162 hg w27 hbox hb; have n0_ := ak_ (kb_ (g := gb155) (o := .cells #[.int .u64 a1_0, .int .u64 a1_1] 24 (0, 0)) (kl_ BK155) hb); have n1_ := ak_ (kb_ (g := gb161) (o := .cells #[.int .u64 0, .int .u64 0] 69 (0, 0)) (kl_ BK161) hb); have n2_ := ak_ (bt_ (by repeat (first | (with_reducible first | exact HB.out | apply ba_ | apply bn_ | apply bd_ | refine below_set ?_ GE155.out | refine below_set ?_ GE161.out) | exact HB.out)) hb); have n3_ := ak_ (hbox); have n4_ := ak_ ((by rw [hg]; exact (bz_ (by repeat (first | (with_reducible first | exact HB.out | apply ba_ | apply bn_ | apply bd_ | refine below_set ?_ GE155.out | refine below_set ?_ GE161.out) | exact HB.out))) : w.heap.size ≤ gb162)); have n5_ := ak_ ((by rw [hg]; exact (bz_ (by repeat (first | (with_reducible first | exact HB.out | apply ba_ | apply bn_ | apply bd_ | refine below_set ?_ GE155.out | refine below_set ?_ GE161.out) | exact HB.out))) : w.heap.size ≤ gb162)); have n6_ := ak_ ((by rw [hg]; exact Nat.ne_of_lt (blk_lt (g := gb155) (o := .cells #[.int .u64 a1_0, .int .u64 a1_1] 24 (0, 0)) (kl_ BK155)) : gb155 ≠ gb162)); have n7_ := ak_ ((by rw [hg]; exact Nat.ne_of_gt (blk_lt (g := gb155) (o := .cells #[.int .u64 a1_0, .int .u64 a1_1] 24 (0, 0)) (kl_ BK155)) : gb162 ≠ gb155)); have n8_ := ak_ ((by rw [hg]; exact Nat.ne_of_lt (blk_lt (g := gb161) (o := .cells #[.int .u64 0, .int .u64 0] 69 (0, 0)) (kl_ BK161)) : gb161 ≠ gb162)); have n9_ := ak_ ((by rw [hg]; exact Nat.ne_of_gt (blk_lt (g := gb161) (o := .cells #[.int .u64 0, .int .u64 0] 69 (0, 0)) (kl_ BK161)) : gb162 ≠ gb161)); clear BK155; clear BK161; clear HB; have BK155 := n0_; have BK161 := n1_; have HB := n2_; have BK162 := n3_; have GW162 := n4_; have GE162 := n5_; have NB155_162 := n6_; have NB162_155 := n7_; have NB161_162 := n8_; have NB162_161 := n9_; clear n0_ n1_ n2_ n3_ n4_ n5_ n6_ n7_ n8_ n9_; clear hb hbox hg; have hnb28 := NB161_155.out; have hnc28 := NB155_161.out; have hnb29 := NB161_162.out; have hnc29 := NB162_161.out; have hcz30_0 : w27.cell? ⟨gb161, 0, none⟩ = some (.int .u64 0) := (kc_ BK161.out 0).trans rfl; have hcz30_1 : w27.cell? ⟨gb161, 1, none⟩ = some (.int .u64 0) := (kc_ BK161.out 1).trans rfl; have hfz30_0 := kf_ BK161.out 0; have hfz30_1 := kf_ BK161.out 1; have hnb31 := NB162_155.out; have hnc31 := NB155_162.out; have hcz32_0 : w27.cell? ⟨gb162, 0, none⟩ = some (.int .u64 0) := (kc_ BK162.out 0).trans rfl; have hcz32_1 : w27.cell? ⟨gb162, 1, none⟩ = some (.int .u64 0) := (kc_ BK162.out 1).trans rfl; have hfz32_0 := kf_ BK162.out 0; have hfz32_1 := kf_ BK162.out 1; have hcz33_0 : w27.cell? ⟨gb155, 0, none⟩ = some (.int .u64 a1_0) := (kc_ BK155.out 0).trans rfl; have hcz33_1 : w27.cell? ⟨gb155, 1, none⟩ = some (.int .u64 a1_1) := (kc_ BK155.out 1).trans rfl; have hfz33_0 := kf_ BK155.out 0; have hfz33_1 := kf_ BK155.out 1) | ((with_reducible refine gate_builtin (b := .append) (xs := #[.tmp 30, .tmp 37]) rfl ?_); at_builtin; refine Kd.R_append k69 (w0 := w) w.heap.size rfl (.tmp 30) (.tmp 37) 30 69 (.agg #[(.int .u64 0), (.int .u64 0)]) 16 rfl underlying30 info69 rfl (by decide) (by omega) (.slice none 0 0) ([] : List (S69)) (⟨t156, IntKind.u64.wrap (t158 - 1)⟩ : S69) [.int .u64 t156, .int .u64 (IntKind.u64.wrap (t158 - 1))] (fun k_ => k_ ≠ gb161 ∧ k_ ≠ gb162) (fun _ => False) rfl (by first | (go_simp; done) | (go_simp; rfl)) ?aP (fun _ hk => hk.elim) ?aF ?aO ?aB ?aS ?aL ?_; (case aP => exact k69_mkM _ _ _ (⟨t156, IntKind.u64.wrap (t158 - 1)⟩ : S69)); (case aB => exact (by repeat (first | (with_reducible first | exact HB.out | apply ba_ | apply bn_ | apply bd_ | refine below_set ?_ GE155.out | refine below_set ?_ GE161.out | refine below_set ?_ GE162.out) | exact HB.out))); (case aF => exact (fun k_ hk => ⟨Kd.freshB (g := gb161) (o := .cells #[.int .u64 t156, .int .u64 t157] 69 (0, 0)) (by (with_reducible repeat (first | refine kn_ ?_ _ | refine kd_ ?_ | refine ka_ ?_ _)); refine blk_far ?_ NB161_162.out _; (with_reducible repeat (first | refine kn_ ?_ _ | refine kd_ ?_ | refine ka_ ?_ _)); refine blk_far ?_ NB161_162.out _; (with_reducible repeat (first | refine kn_ ?_ _ | refine kd_ ?_ | refine ka_ ?_ _)); refine blk_put (cs := #[.int .u64 t156, .int .u64 0]) ?_ 1 _ rfl; (with_reducible repeat (first | refine kn_ ?_ _ | refine kd_ ?_ | refine ka_ ?_ _)); refine blk_put (cs := #[.int .u64 0, .int .u64 0]) ?_ 0 _ rfl; (with_reducible repeat (first | refine kn_ ?_ _ | refine kd_ ?_ | refine ka_ ?_ _)); exact BK161.out) k_ hk, Kd.freshB (g := gb162) (o := .cells #[.int .u64 t158, .int .u64 t159] 69 (0, 0)) (by (with_reducible repeat (first | refine kn_ ?_ _ | refine kd_ ?_ | refine ka_ ?_ _)); refine blk_put (cs := #[.int .u64 t158, .int .u64 0]) ?_ 1 _ rfl; (with_reducible repeat (first | refine kn_ ?_ _ | refine kd_ ?_ | refine ka_ ?_ _)); refine blk_put (cs := #[.int .u64 0, .int .u64 0]) ?_ 0 _ rfl; (with_reducible repeat (first | refine kn_ ?_ _ | refine kd_ ?_ | refine ka_ ?_ _)); refine blk_far ?_ NB162_161.out _; (with_reducible repeat (first | refine kn_ ?_ _ | refine kd_ ?_ | refine ka_ ?_ _)); refine blk_far ?_ NB162_161.out _; (with_reducible repeat (first | refine kn_ ?_ _ | refine kd_ ?_ | refine ka_ ?_ _)); exact BK162.out) k_ hk⟩)); (case aO => exact ((Kd.R_nil _ _ _ _ (fun k_ => k_ ≠ gb161 ∧ k_ ≠ gb162)))); (case aS => exact (bz_ (by repeat (first | (with_reducible first | exact HB.out | apply ba_ | apply bn_ | apply bd_ | refine below_set ?_ GE155.out | refine below_set ?_ GE161.out | refine below_set ?_ GE162.out) | exact HB.out)))); (case aL => have := LMc20.out; omega); intro v167 w34 ho hb hg hat; rw [← Ny166.out] at ho; have n0_ := ak_ (blk_grown (g := gb155) (o := .cells #[.int .u64 a1_0, .int .u64 a1_1] 24 (0, 0)) (by (with_reducible repeat (first | refine kn_ ?_ _ | refine kd_ ?_ | refine ka_ ?_ _)); refine blk_far ?_ NB155_162.out _; (with_reducible repeat (first | refine kn_ ?_ _ | refine kd_ ?_ | refine ka_ ?_ _)); refine blk_far ?_ NB155_162.out _; (with_reducible repeat (first | refine kn_ ?_ _ | refine kd_ ?_ | refine ka_ ?_ _)); refine blk_far ?_ NB155_161.out _; (with_reducible repeat (first | refine kn_ ?_ _ | refine kd_ ?_ | refine ka_ ?_ _)); refine blk_far ?_ NB155_161.out _; (with_reducible repeat (first | refine kn_ ?_ _ | refine kd_ ?_ | refine ka_ ?_ _)); exact BK155.out) hg (by simp [Value.ownBlock])); have n1_ := ak_ (blk_grown (g := gb161) (o := .cells #[.int .u64 t156, .int .u64 t157] 69 (0, 0)) (by (with_reducible repeat (first | refine kn_ ?_ _ | refine kd_ ?_ | refine ka_ ?_ _)); refine blk_far ?_ NB161_162.out _; (with_reducible repeat (first | refine kn_ ?_ _ | refine kd_ ?_ | refine ka_ ?_ _)); refine blk_far ?_ NB161_162.out _; (with_reducible repeat (first | refine kn_ ?_ _ | refine kd_ ?_ | refine ka_ ?_ _)); refine blk_put (cs := #[.int .u64 t156, .int .u64 0]) ?_ 1 _ rfl; (with_reducible repeat (first | refine kn_ ?_ _ | refine kd_ ?_ | refine ka_ ?_ _)); refine blk_put (cs := #[.int .u64 0, .int .u64 0]) ?_ 0 _ rfl; (with_reducible repeat (first | refine kn_ ?_ _ | refine kd_ ?_ | refine ka_ ?_ _)); exact BK161.out) hg (by simp [Value.ownBlock])); have n2_ := ak_ (blk_grown (g := gb162) (o := .cells #[.int .u64 t158, .int .u64 t159] 69 (0, 0)) (by (with_reducible repeat (first | refine kn_ ?_ _ | refine kd_ ?_ | refine ka_ ?_ _)); refine blk_put (cs := #[.int .u64 t158, .int .u64 0]) ?_ 1 _ rfl; (with_reducible repeat (first | refine kn_ ?_ _ | refine kd_ ?_ | refine ka_ ?_ _)); refine blk_put (cs := #[.int .u64 0, .int .u64 0]) ?_ 0 _ rfl; (with_reducible repeat (first | refine kn_ ?_ _ | refine kd_ ?_ | refine ka_ ?_ _)); refine blk_far ?_ NB162_161.out _; (with_reducible repeat (first | refine kn_ ?_ _ | refine kd_ ?_ | refine ka_ ?_ _)); refine blk_far ?_ NB162_161.out _; (with_reducible repeat (first | refine kn_ ?_ _ | refine kd_ ?_ | refine ka_ ?_ _)); exact BK162.out) hg (by simp [Value.ownBlock])); have n3_ := ak_ (hb); have n4_ := ak_ (ho); clear BK155; clear BK161; clear BK162; clear HB; have BK155 := n0_; have BK161 := n1_; have BK162 := n2_; have HB := n3_; have HO168 := n4_; clear n0_ n1_ n2_ n3_ n4_; clear ho hb hg hat; have hcz35_0 : w34.cell? ⟨gb162, 0, none⟩ = some (.int .u64 t158) := (kc_ BK162.out 0).trans rfl; have hcz35_1 : w34.cell? ⟨gb162, 1, none⟩ = some (.int .u64 t159) := (kc_ BK162.out 1).trans rfl; have hfz35_0 := kf_ BK162.out 0; have hfz35_1 := kf_ BK162.out 1; have hcz36_0 : w34.cell? ⟨gb161, 0, none⟩ = some (.int .u64 t156) := (kc_ BK161.out 0).trans rfl; have hcz36_1 : w34.cell? ⟨gb161, 1, none⟩ = some (.int .u64 t157) := (kc_ BK161.out 1).trans rfl; have hfz36_0 := kf_ BK161.out 0; have hfz36_1 := kf_ BK161.out 1) | ((with_reducible refine gate_builtin (b := .append) (xs := #[.tmp 44, .tmp 51]) rfl ?_); at_builtin; refine Kd.R_append k69 (w0 := w) w.heap.size rfl (.tmp 44) (.tmp 51) 30 69 (.agg #[(.int .u64 0), (.int .u64 0)]) 16 rfl underlying30 info69 rfl (by decide) (by omega) v167 y166 (⟨IntKind.u64.wrap (t159 + 1), t157⟩ : S69) [.int .u64 (IntKind.u64.wrap (t159 + 1)), .int .u64 t157] (fun k_ => k_ ≠ gb161 ∧ k_ ≠ gb162) (fun _ => False) rfl rfl ?aP (fun _ hk => hk.elim) ?aF ?aO ?aB ?aS ?aL ?_; (case aP => exact k69_mkM _ _ _ (⟨IntKind.u64.wrap (t159 + 1), t157⟩ : S69)); (case aB => exact (by repeat (first | (with_reducible first | exact HB.out | apply ba_ | apply bn_ | apply bd_ | refine below_set ?_ GE155.out | refine below_set ?_ GE161.out | refine below_set ?_ GE162.out) | exact HB.out))); (case aF => exact (fun k_ hk => ⟨Kd.freshB (g := gb161) (o := .cells #[.int .u64 t156, .int .u64 t157] 69 (0, 0)) (kl_ BK161) k_ hk, Kd.freshB (g := gb162) (o := .cells #[.int .u64 t158, .int .u64 t159] 69 (0, 0)) (kl_ BK162) k_ hk⟩)); (case aO => exact (rl_ HO168)); (case aS => exact (bz_ (by repeat (first | (with_reducible first | exact HB.out | apply ba_ | apply bn_ | apply bd_ | refine below_set ?_ GE155.out | refine below_set ?_ GE161.out | refine below_set ?_ GE162.out) | exact HB.out)))); (case aL => have := LMc22.out; omega); intro v170 w37 ho hb hg hat; rw [← Ny169.out] at ho; have n0_ := ak_ (blk_grown (g := gb155) (o := .cells #[.int .u64 a1_0, .int .u64 a1_1] 24 (0, 0)) (kl_ BK155) hg (Kd.R_ne HO168.out BK155.out (by decide))); have n1_ := ak_ (blk_grown (g := gb161) (o := .cells #[.int .u64 t156, .int .u64 t157] 69 (0, 0)) (kl_ BK161) hg (Kd.R_away HO168.out (fun _ hk => hk.1))); have n2_ := ak_ (blk_grown (g := gb162) (o := .cells #[.int .u64 t158, .int .u64 t159] 69 (0, 0)) (kl_ BK162) hg (Kd.R_away HO168.out (fun _ hk => hk.2))); have n3_ := ak_ (hb); have n4_ := ak_ (ho); clear BK155; clear BK161; clear BK162; clear HB; clear HO168; have BK155 := n0_; have BK161 := n1_; have BK162 := n2_; have HB := n3_; have HO171 := n4_; clear n0_ n1_ n2_ n3_ n4_; clear ho hb hg hat))
        go_ret2
        exact ⟨_, by first | rfl | (simp <;> rfl) | (simp [*] <;> rfl), by (with_reducible repeat (first | apply Kd.R_alloc | apply Kd.R_drewN | apply Kd.R_drew)); exact Kd.R_mono HO171.out (fun _ hk => trivial), by repeat (first | (with_reducible first | exact HB.out | apply ba_ | apply bn_ | apply bd_ | refine below_set ?_ GE155.out | refine below_set ?_ GE161.out | refine below_set ?_ GE162.out) | exact HB.out)⟩
       ·rw [if_neg c22] at H
        exact absurd H (by simp)
      ·rw [if_neg c21] at H
       have c21b0 := decide_eq_false c21
       clear c21
       simp only [some.injEq, Prod.mk.injEq] at H
       obtain ⟨rfl, rfl⟩ := H
       go_enter func11, ntmps11
       go_wp2_with (first | ((with_reducible refine gate_dst (N := 3) rfl ?_); refine box_event ?hg (N := 3) ?hd (cs := #[.int .u64 a1_0, .int .u64 a1_1]) (t := 24) ?hr ?_; (case hd => rfl); (case hg => rfl); (case hr => first | (go_simp; done) | (go_simp; rfl)); intro gb155 hg w38 hbox hb; have n0_ := ak_ (bt_ (bl_ HB) hb); have n1_ := ak_ (hbox); have n2_ := ak_ ((gs_ hg HB)); have n3_ := ak_ ((gs_ hg HB)); clear HB; have HB := n0_; have BK155 := n1_; have GW155 := n2_; have GE155 := n3_; clear n0_ n1_ n2_ n3_; clear hb hbox hg; have hcz39_0 : w38.cell? ⟨gb155, 0, none⟩ = some (.int .u64 a1_0) := (kc_ BK155.out 0).trans rfl; have hcz39_1 : w38.cell? ⟨gb155, 1, none⟩ = some (.int .u64 a1_1) := (kc_ BK155.out 1).trans rfl; have hfz39_0 := kf_ BK155.out 0; have hfz39_1 := kf_ BK155.out 1) | ((with_reducible refine gate_callee (f := 32) rfl ?_); refine goesL_ (some 11) rfl rfl func32 (by kernel_rfl) rfl #[.int .i64 a0, .agg #[.int .u64 a1_0, .int .u64 a1_1]] rfl (by (try simp only [map_toArray, map_cons, map_nil]); first | done | rfl) ?_; (with_reducible refine (sub_both.calls k a0 a1_0 a1_1 t156 t157 t158 t159 t160 _ A3.out).mono ?_); rintro e w40 ⟨rfl, hb⟩; refine ⟨_, rfl, ?_⟩; have n0_ := ak_ (kb_ (g := gb155) (o := .cells #[.int .u64 a1_0, .int .u64 a1_1] 24 (0, 0)) (kl_ BK155) hb); have n1_ := ak_ (bt_ (by repeat (first | (with_reducible first | exact HB.out | apply ba_ | apply bn_ | apply bd_ | refine below_set ?_ GE155.out) | exact HB.out)) hb); clear BK155; clear HB; have BK155 := n0_; have HB := n1_; clear n0_ n1_; (try clear hb); (try clear hk)) | ((with_reducible refine gate_dst (N := 6) rfl ?_); refine box_event ?hg (N := 6) ?hd (cs := #[.int .u64 0, .int .u64 0]) (t := 69) ?hr ?_; (case hd => rfl); (case hg => rfl); (case hr => first | (go_simp; done) | (go_simp; rfl)); intro gb161 hg w41 hbox hb; have n0_ := ak_ (kb_ (g := gb155) (o := .cells #[.int .u64 a1_0, .int .u64 a1_1] 24 (0, 0)) (kl_ BK155) hb); have n1_ := ak_ (bt_ (by repeat (first | (with_reducible first | exact HB.out | apply ba_ | apply bn_ | apply bd_ | refine below_set ?_ GE155.out) | exact HB.out)) hb); have n2_ := ak_ (hbox); have n3_ := ak_ ((by rw [hg]; exact (bz_ (by repeat (first | (with_reducible first | exact HB.out | apply ba_ | apply bn_ | apply bd_ | refine below_set ?_ GE155.out) | exact HB.out))) : w.heap.size ≤ gb161)); have n4_ := ak_ ((by rw [hg]; exact (bz_ (by repeat (first | (with_reducible first | exact HB.out | apply ba_ | apply bn_ | apply bd_ | refine below_set ?_ GE155.out) | exact HB.out))) : w.heap.size ≤ gb161)); have n5_ := ak_ ((by rw [hg]; exact Nat.ne_of_lt (blk_lt (g := gb155) (o := .cells #[.int .u64 a1_0, .int .u64 a1_1] 24 (0, 0)) (kl_ BK155)) : gb155 ≠ gb161)); have n6_ := ak_ ((by rw [hg]; exact Nat.ne_of_gt (blk_lt (g := gb155) (o := .cells #[.int .u64 a1_0, .int .u64 a1_1] 24 (0, 0)) (kl_ BK155)) : gb161 ≠ gb155)); clear BK155; clear HB; have BK155 := n0_; have HB := n1_; have BK161 := n2_; have GW161 := n3_; have GE161 := n4_; have NB155_161 := n5_; have NB161_155 := n6_; clear n0_ n1_ n2_ n3_ n4_ n5_ n6_; clear hb hbox hg) | ((with_reducible refine gate_dst (N := 7) rfl ?_); refine box_event ?hg (N := 7) ?hd (cs := #[.int .u64 0, .int .u64 0]) (t := 69) ?hr ?_; (case hd => rfl); (case hg => rfl); (case hr => first | (go_simp; done) | (go_simp; rfl)); intro gb162 hg w42 hbox hb; have n0_ := ak_ (kb_ (g := gb155) (o := .cells #[.int .u64 a1_0, .int .u64 a1_1] 24 (0, 0)) (kl_ BK155) hb); have n1_ := ak_ (kb_ (g := gb161) (o := .cells #[.int .u64 0, .int .u64 0] 69 (0, 0)) (kl_ BK161) hb); have n2_ := ak_ (bt_ (by repeat (first | (with_reducible first | exact HB.out | apply ba_ | apply bn_ | apply bd_ | refine below_set ?_ GE155.out | refine below_set ?_ GE161.out) | exact HB.out)) hb); have n3_ := ak_ (hbox); have n4_ := ak_ ((by rw [hg]; exact (bz_ (by repeat (first | (with_reducible first | exact HB.out | apply ba_ | apply bn_ | apply bd_ | refine below_set ?_ GE155.out | refine below_set ?_ GE161.out) | exact HB.out))) : w.heap.size ≤ gb162)); have n5_ := ak_ ((by rw [hg]; exact (bz_ (by repeat (first | (with_reducible first | exact HB.out | apply ba_ | apply bn_ | apply bd_ | refine below_set ?_ GE155.out | refine below_set ?_ GE161.out) | exact HB.out))) : w.heap.size ≤ gb162)); have n6_ := ak_ ((by rw [hg]; exact Nat.ne_of_lt (blk_lt (g := gb155) (o := .cells #[.int .u64 a1_0, .int .u64 a1_1] 24 (0, 0)) (kl_ BK155)) : gb155 ≠ gb162)); have n7_ := ak_ ((by rw [hg]; exact Nat.ne_of_gt (blk_lt (g := gb155) (o := .cells #[.int .u64 a1_0, .int .u64 a1_1] 24 (0, 0)) (kl_ BK155)) : gb162 ≠ gb155)); have n8_ := ak_ ((by rw [hg]; exact Nat.ne_of_lt (blk_lt (g := gb161) (o := .cells #[.int .u64 0, .int .u64 0] 69 (0, 0)) (kl_ BK161)) : gb161 ≠ gb162)); have n9_ := ak_ ((by rw [hg]; exact Nat.ne_of_gt (blk_lt (g := gb161) (o := .cells #[.int .u64 0, .int .u64 0] 69 (0, 0)) (kl_ BK161)) : gb162 ≠ gb161)); clear BK155; clear BK161; clear HB; have BK155 := n0_; have BK161 := n1_; have HB := n2_; have BK162 := n3_; have GW162 := n4_; have GE162 := n5_; have NB155_162 := n6_; have NB162_155 := n7_; have NB161_162 := n8_; have NB162_161 := n9_; clear n0_ n1_ n2_ n3_ n4_ n5_ n6_ n7_ n8_ n9_; clear hb hbox hg; have hnb43 := NB161_155.out; have hnc43 := NB155_161.out; have hnb44 := NB161_162.out; have hnc44 := NB162_161.out; have hcz45_0 : w42.cell? ⟨gb161, 0, none⟩ = some (.int .u64 0) := (kc_ BK161.out 0).trans rfl; have hcz45_1 : w42.cell? ⟨gb161, 1, none⟩ = some (.int .u64 0) := (kc_ BK161.out 1).trans rfl; have hfz45_0 := kf_ BK161.out 0; have hfz45_1 := kf_ BK161.out 1; have hnb46 := NB162_155.out; have hnc46 := NB155_162.out; have hcz47_0 : w42.cell? ⟨gb162, 0, none⟩ = some (.int .u64 0) := (kc_ BK162.out 0).trans rfl; have hcz47_1 : w42.cell? ⟨gb162, 1, none⟩ = some (.int .u64 0) := (kc_ BK162.out 1).trans rfl; have hfz47_0 := kf_ BK162.out 0; have hfz47_1 := kf_ BK162.out 1; have hcz48_0 : w42.cell? ⟨gb155, 0, none⟩ = some (.int .u64 a1_0) := (kc_ BK155.out 0).trans rfl; have hcz48_1 : w42.cell? ⟨gb155, 1, none⟩ = some (.int .u64 a1_1) := (kc_ BK155.out 1).trans rfl; have hfz48_0 := kf_ BK155.out 0; have hfz48_1 := kf_ BK155.out 1) | ((with_reducible refine gate_builtin (b := .append) (xs := #[.tmp 30, .tmp 37]) rfl ?_); at_builtin; refine Kd.R_append k69 (w0 := w) w.heap.size rfl (.tmp 30) (.tmp 37) 30 69 (.agg #[(.int .u64 0), (.int .u64 0)]) 16 rfl underlying30 info69 rfl (by decide) (by omega) (.slice none 0 0) ([] : List (S69)) (⟨t156, IntKind.u64.wrap (t158 - 1)⟩ : S69) [.int .u64 t156, .int .u64 (IntKind.u64.wrap (t158 - 1))] (fun k_ => k_ ≠ gb161 ∧ k_ ≠ gb162) (fun _ => False) rfl (by first | (go_simp; done) | (go_simp; rfl)) ?aP (fun _ hk => hk.elim) ?aF ?aO ?aB ?aS ?aL ?_; (case aP => exact k69_mkM _ _ _ (⟨t156, IntKind.u64.wrap (t158 - 1)⟩ : S69)); (case aB => exact (by repeat (first | (with_reducible first | exact HB.out | apply ba_ | apply bn_ | apply bd_ | refine below_set ?_ GE155.out | refine below_set ?_ GE161.out | refine below_set ?_ GE162.out) | exact HB.out))); (case aF => exact (fun k_ hk => ⟨Kd.freshB (g := gb161) (o := .cells #[.int .u64 t156, .int .u64 t157] 69 (0, 0)) (by (with_reducible repeat (first | refine kn_ ?_ _ | refine kd_ ?_ | refine ka_ ?_ _)); refine blk_far ?_ NB161_162.out _; (with_reducible repeat (first | refine kn_ ?_ _ | refine kd_ ?_ | refine ka_ ?_ _)); refine blk_far ?_ NB161_162.out _; (with_reducible repeat (first | refine kn_ ?_ _ | refine kd_ ?_ | refine ka_ ?_ _)); refine blk_put (cs := #[.int .u64 t156, .int .u64 0]) ?_ 1 _ rfl; (with_reducible repeat (first | refine kn_ ?_ _ | refine kd_ ?_ | refine ka_ ?_ _)); refine blk_put (cs := #[.int .u64 0, .int .u64 0]) ?_ 0 _ rfl; (with_reducible repeat (first | refine kn_ ?_ _ | refine kd_ ?_ | refine ka_ ?_ _)); exact BK161.out) k_ hk, Kd.freshB (g := gb162) (o := .cells #[.int .u64 t158, .int .u64 t159] 69 (0, 0)) (by (with_reducible repeat (first | refine kn_ ?_ _ | refine kd_ ?_ | refine ka_ ?_ _)); refine blk_put (cs := #[.int .u64 t158, .int .u64 0]) ?_ 1 _ rfl; (with_reducible repeat (first | refine kn_ ?_ _ | refine kd_ ?_ | refine ka_ ?_ _)); refine blk_put (cs := #[.int .u64 0, .int .u64 0]) ?_ 0 _ rfl; (with_reducible repeat (first | refine kn_ ?_ _ | refine kd_ ?_ | refine ka_ ?_ _)); refine blk_far ?_ NB162_161.out _; (with_reducible repeat (first | refine kn_ ?_ _ | refine kd_ ?_ | refine ka_ ?_ _)); refine blk_far ?_ NB162_161.out _; (with_reducible repeat (first | refine kn_ ?_ _ | refine kd_ ?_ | refine ka_ ?_ _)); exact BK162.out) k_ hk⟩)); (case aO => exact ((Kd.R_nil _ _ _ _ (fun k_ => k_ ≠ gb161 ∧ k_ ≠ gb162)))); (case aS => exact (bz_ (by repeat (first | (with_reducible first | exact HB.out | apply ba_ | apply bn_ | apply bd_ | refine below_set ?_ GE155.out | refine below_set ?_ GE161.out | refine below_set ?_ GE162.out) | exact HB.out)))); (case aL => have := LMc20.out; omega); intro v167 w49 ho hb hg hat; rw [← Ny166.out] at ho; have n0_ := ak_ (blk_grown (g := gb155) (o := .cells #[.int .u64 a1_0, .int .u64 a1_1] 24 (0, 0)) (by (with_reducible repeat (first | refine kn_ ?_ _ | refine kd_ ?_ | refine ka_ ?_ _)); refine blk_far ?_ NB155_162.out _; (with_reducible repeat (first | refine kn_ ?_ _ | refine kd_ ?_ | refine ka_ ?_ _)); refine blk_far ?_ NB155_162.out _; (with_reducible repeat (first | refine kn_ ?_ _ | refine kd_ ?_ | refine ka_ ?_ _)); refine blk_far ?_ NB155_161.out _; (with_reducible repeat (first | refine kn_ ?_ _ | refine kd_ ?_ | refine ka_ ?_ _)); refine blk_far ?_ NB155_161.out _; (with_reducible repeat (first | refine kn_ ?_ _ | refine kd_ ?_ | refine ka_ ?_ _)); exact BK155.out) hg (by simp [Value.ownBlock])); have n1_ := ak_ (blk_grown (g := gb161) (o := .cells #[.int .u64 t156, .int .u64 t157] 69 (0, 0)) (by (with_reducible repeat (first | refine kn_ ?_ _ | refine kd_ ?_ | refine ka_ ?_ _)); refine blk_far ?_ NB161_162.out _; (with_reducible repeat (first | refine kn_ ?_ _ | refine kd_ ?_ | refine ka_ ?_ _)); refine blk_far ?_ NB161_162.out _; (with_reducible repeat (first | refine kn_ ?_ _ | refine kd_ ?_ | refine ka_ ?_ _)); refine blk_put (cs := #[.int .u64 t156, .int .u64 0]) ?_ 1 _ rfl; (with_reducible repeat (first | refine kn_ ?_ _ | refine kd_ ?_ | refine ka_ ?_ _)); refine blk_put (cs := #[.int .u64 0, .int .u64 0]) ?_ 0 _ rfl; (with_reducible repeat (first | refine kn_ ?_ _ | refine kd_ ?_ | refine ka_ ?_ _)); exact BK161.out) hg (by simp [Value.ownBlock])); have n2_ := ak_ (blk_grown (g := gb162) (o := .cells #[.int .u64 t158, .int .u64 t159] 69 (0, 0)) (by (with_reducible repeat (first | refine kn_ ?_ _ | refine kd_ ?_ | refine ka_ ?_ _)); refine blk_put (cs := #[.int .u64 t158, .int .u64 0]) ?_ 1 _ rfl; (with_reducible repeat (first | refine kn_ ?_ _ | refine kd_ ?_ | refine ka_ ?_ _)); refine blk_put (cs := #[.int .u64 0, .int .u64 0]) ?_ 0 _ rfl; (with_reducible repeat (first | refine kn_ ?_ _ | refine kd_ ?_ | refine ka_ ?_ _)); refine blk_far ?_ NB162_161.out _; (with_reducible repeat (first | refine kn_ ?_ _ | refine kd_ ?_ | refine ka_ ?_ _)); refine blk_far ?_ NB162_161.out _; (with_reducible repeat (first | refine kn_ ?_ _ | refine kd_ ?_ | refine ka_ ?_ _)); exact BK162.out) hg (by simp [Value.ownBlock])); have n3_ := ak_ (hb); have n4_ := ak_ (ho); clear BK155; clear BK161; clear BK162; clear HB; have BK155 := n0_; have BK161 := n1_; have BK162 := n2_; have HB := n3_; have HO168 := n4_; clear n0_ n1_ n2_ n3_ n4_; clear ho hb hg hat; have hcz50_0 : w49.cell? ⟨gb162, 0, none⟩ = some (.int .u64 t158) := (kc_ BK162.out 0).trans rfl; have hcz50_1 : w49.cell? ⟨gb162, 1, none⟩ = some (.int .u64 t159) := (kc_ BK162.out 1).trans rfl; have hfz50_0 := kf_ BK162.out 0; have hfz50_1 := kf_ BK162.out 1; have hcz51_0 : w49.cell? ⟨gb161, 0, none⟩ = some (.int .u64 t156) := (kc_ BK161.out 0).trans rfl; have hcz51_1 : w49.cell? ⟨gb161, 1, none⟩ = some (.int .u64 t157) := (kc_ BK161.out 1).trans rfl; have hfz51_0 := kf_ BK161.out 0; have hfz51_1 := kf_ BK161.out 1))
       go_ret2
       exact ⟨_, by first | rfl | (simp <;> rfl) | (simp [*] <;> rfl), by (with_reducible repeat (first | apply Kd.R_alloc | apply Kd.R_drewN | apply Kd.R_drew)); exact Kd.R_mono HO168.out (fun _ hk => trivial), by repeat (first | (with_reducible first | exact HB.out | apply ba_ | apply bn_ | apply bd_ | refine below_set ?_ GE155.out | refine below_set ?_ GE161.out | refine below_set ?_ GE162.out) | exact HB.out)⟩
     ·rw [if_neg c20] at H
      exact absurd H (by simp)
    ·rw [if_neg c19] at H
     have c19b0 := decide_eq_false c19
     clear c19
     by_cases c52 : t159 < t157
     ·rw [if_pos c52] at H
      have c52b0 := decide_eq_true c52
      clear c52
      by_cases c53 : ([] : List (S69)).length < 8796093022208
      ·rw [if_pos c53] at H
       have LMc53 := ak_ c53
       clear c53
       obtain ⟨y172, hy172⟩ : ∃ y_ : List (S69), y_ = (([] : List (S69)) ++ [(⟨IntKind.u64.wrap (t159 + 1), t157⟩ : S69)]) := ⟨_, rfl⟩
       replace H : (some (y172, 0)) = some (r1, r2) := by first | (rw [hy172]; with_reducible exact H) | (have H2_ := (Option.bind_some _ _).symm.trans H; rw [hy172]; with_reducible exact H2_) | (have H2_ := (Option.bind_some _ _).symm.trans H; with_reducible exact H2_) | with_reducible exact H | (rw [hy172]; exact H) | exact H
       have Ny172 := ak_ hy172
       clear hy172
       simp only [some.injEq, Prod.mk.injEq] at H
       obtain ⟨rfl, rfl⟩ := H
       go_enter func11, ntmps11
       go_wp2_with (first | ((with_reducible refine gate_dst (N := 3) rfl ?_); refine box_event ?hg (N := 3) ?hd (cs := #[.int .u64 a1_0, .int .u64 a1_1]) (t := 24) ?hr ?_; (case hd => rfl); (case hg => rfl); (case hr => first | (go_simp; done) | (go_simp; rfl)); intro gb155 hg w54 hbox hb; have n0_ := ak_ (bt_ (bl_ HB) hb); have n1_ := ak_ (hbox); have n2_ := ak_ ((gs_ hg HB)); have n3_ := ak_ ((gs_ hg HB)); clear HB; have HB := n0_; have BK155 := n1_; have GW155 := n2_; have GE155 := n3_; clear n0_ n1_ n2_ n3_; clear hb hbox hg; have hcz55_0 : w54.cell? ⟨gb155, 0, none⟩ = some (.int .u64 a1_0) := (kc_ BK155.out 0).trans rfl; have hcz55_1 : w54.cell? ⟨gb155, 1, none⟩ = some (.int .u64 a1_1) := (kc_ BK155.out 1).trans rfl; have hfz55_0 := kf_ BK155.out 0; have hfz55_1 := kf_ BK155.out 1) | ((with_reducible refine gate_callee (f := 32) rfl ?_); refine goesL_ (some 11) rfl rfl func32 (by kernel_rfl) rfl #[.int .i64 a0, .agg #[.int .u64 a1_0, .int .u64 a1_1]] rfl (by (try simp only [map_toArray, map_cons, map_nil]); first | done | rfl) ?_; (with_reducible refine (sub_both.calls k a0 a1_0 a1_1 t156 t157 t158 t159 t160 _ A3.out).mono ?_); rintro e w56 ⟨rfl, hb⟩; refine ⟨_, rfl, ?_⟩; have n0_ := ak_ (kb_ (g := gb155) (o := .cells #[.int .u64 a1_0, .int .u64 a1_1] 24 (0, 0)) (kl_ BK155) hb); have n1_ := ak_ (bt_ (by repeat (first | (with_reducible first | exact HB.out | apply ba_ | apply bn_ | apply bd_ | refine below_set ?_ GE155.out) | exact HB.out)) hb); clear BK155; clear HB; have BK155 := n0_; have HB := n1_; clear n0_ n1_; (try clear hb); (try clear hk)) | ((with_reducible refine gate_dst (N := 6) rfl ?_); refine box_event ?hg (N := 6) ?hd (cs := #[.int .u64 0, .int .u64 0]) (t := 69) ?hr ?_; (case hd => rfl); (case hg => rfl); (case hr => first | (go_simp; done) | (go_simp; rfl)); intro gb161 hg w57 hbox hb; have n0_ := ak_ (kb_ (g := gb155) (o := .cells #[.int .u64 a1_0, .int .u64 a1_1] 24 (0, 0)) (kl_ BK155) hb); have n1_ := ak_ (bt_ (by repeat (first | (with_reducible first | exact HB.out | apply ba_ | apply bn_ | apply bd_ | refine below_set ?_ GE155.out) | exact HB.out)) hb); have n2_ := ak_ (hbox); have n3_ := ak_ ((by rw [hg]; exact (bz_ (by repeat (first | (with_reducible first | exact HB.out | apply ba_ | apply bn_ | apply bd_ | refine below_set ?_ GE155.out) | exact HB.out))) : w.heap.size ≤ gb161)); have n4_ := ak_ ((by rw [hg]; exact (bz_ (by repeat (first | (with_reducible first | exact HB.out | apply ba_ | apply bn_ | apply bd_ | refine below_set ?_ GE155.out) | exact HB.out))) : w.heap.size ≤ gb161)); have n5_ := ak_ ((by rw [hg]; exact Nat.ne_of_lt (blk_lt (g := gb155) (o := .cells #[.int .u64 a1_0, .int .u64 a1_1] 24 (0, 0)) (kl_ BK155)) : gb155 ≠ gb161)); have n6_ := ak_ ((by rw [hg]; exact Nat.ne_of_gt (blk_lt (g := gb155) (o := .cells #[.int .u64 a1_0, .int .u64 a1_1] 24 (0, 0)) (kl_ BK155)) : gb161 ≠ gb155)); clear BK155; clear HB; have BK155 := n0_; have HB := n1_; have BK161 := n2_; have GW161 := n3_; have GE161 := n4_; have NB155_161 := n5_; have NB161_155 := n6_; clear n0_ n1_ n2_ n3_ n4_ n5_ n6_; clear hb hbox hg) | ((with_reducible refine gate_dst (N := 7) rfl ?_); refine box_event ?hg (N := 7) ?hd (cs := #[.int .u64 0, .int .u64 0]) (t := 69) ?hr ?_; (case hd => rfl); (case hg => rfl); (case hr => first | (go_simp; done) | (go_simp; rfl)); intro gb162 hg w58 hbox hb; have n0_ := ak_ (kb_ (g := gb155) (o := .cells #[.int .u64 a1_0, .int .u64 a1_1] 24 (0, 0)) (kl_ BK155) hb); have n1_ := ak_ (kb_ (g := gb161) (o := .cells #[.int .u64 0, .int .u64 0] 69 (0, 0)) (kl_ BK161) hb); have n2_ := ak_ (bt_ (by repeat (first | (with_reducible first | exact HB.out | apply ba_ | apply bn_ | apply bd_ | refine below_set ?_ GE155.out | refine below_set ?_ GE161.out) | exact HB.out)) hb); have n3_ := ak_ (hbox); have n4_ := ak_ ((by rw [hg]; exact (bz_ (by repeat (first | (with_reducible first | exact HB.out | apply ba_ | apply bn_ | apply bd_ | refine below_set ?_ GE155.out | refine below_set ?_ GE161.out) | exact HB.out))) : w.heap.size ≤ gb162)); have n5_ := ak_ ((by rw [hg]; exact (bz_ (by repeat (first | (with_reducible first | exact HB.out | apply ba_ | apply bn_ | apply bd_ | refine below_set ?_ GE155.out | refine below_set ?_ GE161.out) | exact HB.out))) : w.heap.size ≤ gb162)); have n6_ := ak_ ((by rw [hg]; exact Nat.ne_of_lt (blk_lt (g := gb155) (o := .cells #[.int .u64 a1_0, .int .u64 a1_1] 24 (0, 0)) (kl_ BK155)) : gb155 ≠ gb162)); have n7_ := ak_ ((by rw [hg]; exact Nat.ne_of_gt (blk_lt (g := gb155) (o := .cells #[.int .u64 a1_0, .int .u64 a1_1] 24 (0, 0)) (kl_ BK155)) : gb162 ≠ gb155)); have n8_ := ak_ ((by rw [hg]; exact Nat.ne_of_lt (blk_lt (g := gb161) (o := .cells #[.int .u64 0, .int .u64 0] 69 (0, 0)) (kl_ BK161)) : gb161 ≠ gb162)); have n9_ := ak_ ((by rw [hg]; exact Nat.ne_of_gt (blk_lt (g := gb161) (o := .cells #[.int .u64 0, .int .u64 0] 69 (0, 0)) (kl_ BK161)) : gb162 ≠ gb161)); clear BK155; clear BK161; clear HB; have BK155 := n0_; have BK161 := n1_; have HB := n2_; have BK162 := n3_; have GW162 := n4_; have GE162 := n5_; have NB155_162 := n6_; have NB162_155 := n7_; have NB161_162 := n8_; have NB162_161 := n9_; clear n0_ n1_ n2_ n3_ n4_ n5_ n6_ n7_ n8_ n9_; clear hb hbox hg; have hnb59 := NB161_155.out; have hnc59 := NB155_161.out; have hnb60 := NB161_162.out; have hnc60 := NB162_161.out; have hcz61_0 : w58.cell? ⟨gb161, 0, none⟩ = some (.int .u64 0) := (kc_ BK161.out 0).trans rfl; have hcz61_1 : w58.cell? ⟨gb161, 1, none⟩ = some (.int .u64 0) := (kc_ BK161.out 1).trans rfl; have hfz61_0 := kf_ BK161.out 0; have hfz61_1 := kf_ BK161.out 1; have hnb62 := NB162_155.out; have hnc62 := NB155_162.out; have hcz63_0 : w58.cell? ⟨gb162, 0, none⟩ = some (.int .u64 0) := (kc_ BK162.out 0).trans rfl; have hcz63_1 : w58.cell? ⟨gb162, 1, none⟩ = some (.int .u64 0) := (kc_ BK162.out 1).trans rfl; have hfz63_0 := kf_ BK162.out 0; have hfz63_1 := kf_ BK162.out 1; have hcz64_0 : w58.cell? ⟨gb155, 0, none⟩ = some (.int .u64 a1_0) := (kc_ BK155.out 0).trans rfl; have hcz64_1 : w58.cell? ⟨gb155, 1, none⟩ = some (.int .u64 a1_1) := (kc_ BK155.out 1).trans rfl; have hfz64_0 := kf_ BK155.out 0; have hfz64_1 := kf_ BK155.out 1) | ((with_reducible refine gate_builtin (b := .append) (xs := #[.tmp 44, .tmp 51]) rfl ?_); at_builtin; refine Kd.R_append k69 (w0 := w) w.heap.size rfl (.tmp 44) (.tmp 51) 30 69 (.agg #[(.int .u64 0), (.int .u64 0)]) 16 rfl underlying30 info69 rfl (by decide) (by omega) (.slice none 0 0) ([] : List (S69)) (⟨IntKind.u64.wrap (t159 + 1), t157⟩ : S69) [.int .u64 (IntKind.u64.wrap (t159 + 1)), .int .u64 t157] (fun k_ => k_ ≠ gb161 ∧ k_ ≠ gb162) (fun _ => False) rfl (by first | (go_simp; done) | (go_simp; rfl)) ?aP (fun _ hk => hk.elim) ?aF ?aO ?aB ?aS ?aL ?_; (case aP => exact k69_mkM _ _ _ (⟨IntKind.u64.wrap (t159 + 1), t157⟩ : S69)); (case aB => exact (by repeat (first | (with_reducible first | exact HB.out | apply ba_ | apply bn_ | apply bd_ | refine below_set ?_ GE155.out | refine below_set ?_ GE161.out | refine below_set ?_ GE162.out) | exact HB.out))); (case aF => exact (fun k_ hk => ⟨Kd.freshB (g := gb161) (o := .cells #[.int .u64 t156, .int .u64 t157] 69 (0, 0)) (by (with_reducible repeat (first | refine kn_ ?_ _ | refine kd_ ?_ | refine ka_ ?_ _)); refine blk_far ?_ NB161_162.out _; (with_reducible repeat (first | refine kn_ ?_ _ | refine kd_ ?_ | refine ka_ ?_ _)); refine blk_far ?_ NB161_162.out _; (with_reducible repeat (first | refine kn_ ?_ _ | refine kd_ ?_ | refine ka_ ?_ _)); refine blk_put (cs := #[.int .u64 t156, .int .u64 0]) ?_ 1 _ rfl; (with_reducible repeat (first | refine kn_ ?_ _ | refine kd_ ?_ | refine ka_ ?_ _)); refine blk_put (cs := #[.int .u64 0, .int .u64 0]) ?_ 0 _ rfl; (with_reducible repeat (first | refine kn_ ?_ _ | refine kd_ ?_ | refine ka_ ?_ _)); exact BK161.out) k_ hk, Kd.freshB (g := gb162) (o := .cells #[.int .u64 t158, .int .u64 t159] 69 (0, 0)) (by (with_reducible repeat (first | refine kn_ ?_ _ | refine kd_ ?_ | refine ka_ ?_ _)); refine blk_put (cs := #[.int .u64 t158, .int .u64 0]) ?_ 1 _ rfl; (with_reducible repeat (first | refine kn_ ?_ _ | refine kd_ ?_ | refine ka_ ?_ _)); refine blk_put (cs := #[.int .u64 0, .int .u64 0]) ?_ 0 _ rfl; (with_reducible repeat (first | refine kn_ ?_ _ | refine kd_ ?_ | refine ka_ ?_ _)); refine blk_far ?_ NB162_161.out _; (with_reducible repeat (first | refine kn_ ?_ _ | refine kd_ ?_ | refine ka_ ?_ _)); refine blk_far ?_ NB162_161.out _; (with_reducible repeat (first | refine kn_ ?_ _ | refine kd_ ?_ | refine ka_ ?_ _)); exact BK162.out) k_ hk⟩)); (case aO => exact ((Kd.R_nil _ _ _ _ (fun k_ => k_ ≠ gb161 ∧ k_ ≠ gb162)))); (case aS => exact (bz_ (by repeat (first | (with_reducible first | exact HB.out | apply ba_ | apply bn_ | apply bd_ | refine below_set ?_ GE155.out | refine below_set ?_ GE161.out | refine below_set ?_ GE162.out) | exact HB.out)))); (case aL => have := LMc53.out; omega); intro v173 w65 ho hb hg hat; rw [← Ny172.out] at ho; have n0_ := ak_ (blk_grown (g := gb155) (o := .cells #[.int .u64 a1_0, .int .u64 a1_1] 24 (0, 0)) (by (with_reducible repeat (first | refine kn_ ?_ _ | refine kd_ ?_ | refine ka_ ?_ _)); refine blk_far ?_ NB155_162.out _; (with_reducible repeat (first | refine kn_ ?_ _ | refine kd_ ?_ | refine ka_ ?_ _)); refine blk_far ?_ NB155_162.out _; (with_reducible repeat (first | refine kn_ ?_ _ | refine kd_ ?_ | refine ka_ ?_ _)); refine blk_far ?_ NB155_161.out _; (with_reducible repeat (first | refine kn_ ?_ _ | refine kd_ ?_ | refine ka_ ?_ _)); refine blk_far ?_ NB155_161.out _; (with_reducible repeat (first | refine kn_ ?_ _ | refine kd_ ?_ | refine ka_ ?_ _)); exact BK155.out) hg (by simp [Value.ownBlock])); have n1_ := ak_ (blk_grown (g := gb161) (o := .cells #[.int .u64 t156, .int .u64 t157] 69 (0, 0)) (by (with_reducible repeat (first | refine kn_ ?_ _ | refine kd_ ?_ | refine ka_ ?_ _)); refine blk_far ?_ NB161_162.out _; (with_reducible repeat (first | refine kn_ ?_ _ | refine kd_ ?_ | refine ka_ ?_ _)); refine blk_far ?_ NB161_162.out _; (with_reducible repeat (first | refine kn_ ?_ _ | refine kd_ ?_ | refine ka_ ?_ _)); refine blk_put (cs := #[.int .u64 t156, .int .u64 0]) ?_ 1 _ rfl; (with_reducible repeat (first | refine kn_ ?_ _ | refine kd_ ?_ | refine ka_ ?_ _)); refine blk_put (cs := #[.int .u64 0, .int .u64 0]) ?_ 0 _ rfl; (with_reducible repeat (first | refine kn_ ?_ _ | refine kd_ ?_ | refine ka_ ?_ _)); exact BK161.out) hg (by simp [Value.ownBlock])); have n2_ := ak_ (blk_grown (g := gb162) (o := .cells #[.int .u64 t158, .int .u64 t159] 69 (0, 0)) (by (with_reducible repeat (first | refine kn_ ?_ _ | refine kd_ ?_ | refine ka_ ?_ _)); refine blk_put (cs := #[.int .u64 t158, .int .u64 0]) ?_ 1 _ rfl; (with_reducible repeat (first | refine kn_ ?_ _ | refine kd_ ?_ | refine ka_ ?_ _)); refine blk_put (cs := #[.int .u64 0, .int .u64 0]) ?_ 0 _ rfl; (with_reducible repeat (first | refine kn_ ?_ _ | refine kd_ ?_ | refine ka_ ?_ _)); refine blk_far ?_ NB162_161.out _; (with_reducible repeat (first | refine kn_ ?_ _ | refine kd_ ?_ | refine ka_ ?_ _)); refine blk_far ?_ NB162_161.out _; (with_reducible repeat (first | refine kn_ ?_ _ | refine kd_ ?_ | refine ka_ ?_ _)); exact BK162.out) hg (by simp [Value.ownBlock])); have n3_ := ak_ (hb); have n4_ := ak_ (ho); clear BK155; clear BK161; clear BK162; clear HB; have BK155 := n0_; have BK161 := n1_; have BK162 := n2_; have HB := n3_; have HO174 := n4_; clear n0_ n1_ n2_ n3_ n4_; clear ho hb hg hat))
       go_ret2
       exact ⟨_, by first | rfl | (simp <;> rfl) | (simp [*] <;> rfl), by (with_reducible repeat (first | apply Kd.R_alloc | apply Kd.R_drewN | apply Kd.R_drew)); exact Kd.R_mono HO174.out (fun _ hk => trivial), by repeat (first | (with_reducible first | exact HB.out | apply ba_ | apply bn_ | apply bd_ | refine below_set ?_ GE155.out | refine below_set ?_ GE161.out | refine below_set ?_ GE162.out) | exact HB.out)⟩
      ·rw [if_neg c53] at H
       exact absurd H (by simp)
     ·rw [if_neg c52] at H
      have c52b0 := decide_eq_false c52
      clear c52
      simp only [some.injEq, Prod.mk.injEq] at H
      obtain ⟨rfl, rfl⟩ := H
      go_enter func11, ntmps11
      go_wp2_with (first | ((with_reducible refine gate_dst (N := 3) rfl ?_); refine box_event ?hg (N := 3) ?hd (cs := #[.int .u64 a1_0, .int .u64 a1_1]) (t := 24) ?hr ?_; (case hd => rfl); (case hg => rfl); (case hr => first | (go_simp; done) | (go_simp; rfl)); intro gb155 hg w66 hbox hb; have n0_ := ak_ (bt_ (bl_ HB) hb); have n1_ := ak_ (hbox); have n2_ := ak_ ((gs_ hg HB)); have n3_ := ak_ ((gs_ hg HB)); clear HB; have HB := n0_; have BK155 := n1_; have GW155 := n2_; have GE155 := n3_; clear n0_ n1_ n2_ n3_; clear hb hbox hg; have hcz67_0 : w66.cell? ⟨gb155, 0, none⟩ = some (.int .u64 a1_0) := (kc_ BK155.out 0).trans rfl; have hcz67_1 : w66.cell? ⟨gb155, 1, none⟩ = some (.int .u64 a1_1) := (kc_ BK155.out 1).trans rfl; have hfz67_0 := kf_ BK155.out 0; have hfz67_1 := kf_ BK155.out 1) | ((with_reducible refine gate_callee (f := 32) rfl ?_); refine goesL_ (some 11) rfl rfl func32 (by kernel_rfl) rfl #[.int .i64 a0, .agg #[.int .u64 a1_0, .int .u64 a1_1]] rfl (by (try simp only [map_toArray, map_cons, map_nil]); first | done | rfl) ?_; (with_reducible refine (sub_both.calls k a0 a1_0 a1_1 t156 t157 t158 t159 t160 _ A3.out).mono ?_); rintro e w68 ⟨rfl, hb⟩; refine ⟨_, rfl, ?_⟩; have n0_ := ak_ (kb_ (g := gb155) (o := .cells #[.int .u64 a1_0, .int .u64 a1_1] 24 (0, 0)) (kl_ BK155) hb); have n1_ := ak_ (bt_ (by repeat (first | (with_reducible first | exact HB.out | apply ba_ | apply bn_ | apply bd_ | refine below_set ?_ GE155.out) | exact HB.out)) hb); clear BK155; clear HB; have BK155 := n0_; have HB := n1_; clear n0_ n1_; (try clear hb); (try clear hk)) | ((with_reducible refine gate_dst (N := 6) rfl ?_); refine box_event ?hg (N := 6) ?hd (cs := #[.int .u64 0, .int .u64 0]) (t := 69) ?hr ?_; (case hd => rfl); (case hg => rfl); (case hr => first | (go_simp; done) | (go_simp; rfl)); intro gb161 hg w69 hbox hb; have n0_ := ak_ (kb_ (g := gb155) (o := .cells #[.int .u64 a1_0, .int .u64 a1_1] 24 (0, 0)) (kl_ BK155) hb); have n1_ := ak_ (bt_ (by repeat (first | (with_reducible first | exact HB.out | apply ba_ | apply bn_ | apply bd_ | refine below_set ?_ GE155.out) | exact HB.out)) hb); have n2_ := ak_ (hbox); have n3_ := ak_ ((by rw [hg]; exact (bz_ (by repeat (first | (with_reducible first | exact HB.out | apply ba_ | apply bn_ | apply bd_ | refine below_set ?_ GE155.out) | exact HB.out))) : w.heap.size ≤ gb161)); have n4_ := ak_ ((by rw [hg]; exact (bz_ (by repeat (first | (with_reducible first | exact HB.out | apply ba_ | apply bn_ | apply bd_ | refine below_set ?_ GE155.out) | exact HB.out))) : w.heap.size ≤ gb161)); have n5_ := ak_ ((by rw [hg]; exact Nat.ne_of_lt (blk_lt (g := gb155) (o := .cells #[.int .u64 a1_0, .int .u64 a1_1] 24 (0, 0)) (kl_ BK155)) : gb155 ≠ gb161)); have n6_ := ak_ ((by rw [hg]; exact Nat.ne_of_gt (blk_lt (g := gb155) (o := .cells #[.int .u64 a1_0, .int .u64 a1_1] 24 (0, 0)) (kl_ BK155)) : gb161 ≠ gb155)); clear BK155; clear HB; have BK155 := n0_; have HB := n1_; have BK161 := n2_; have GW161 := n3_; have GE161 := n4_; have NB155_161 := n5_; have NB161_155 := n6_; clear n0_ n1_ n2_ n3_ n4_ n5_ n6_; clear hb hbox hg) | ((with_reducible refine gate_dst (N := 7) rfl ?_); refine box_event ?hg (N := 7) ?hd (cs := #[.int .u64 0, .int .u64 0]) (t := 69) ?hr ?_; (case hd => rfl); (case hg => rfl); (case hr => first | (go_simp; done) | (go_simp; rfl)); intro gb162 hg w70 hbox hb; have n0_ := ak_ (kb_ (g := gb155) (o := .cells #[.int .u64 a1_0, .int .u64 a1_1] 24 (0, 0)) (kl_ BK155) hb); have n1_ := ak_ (kb_ (g := gb161) (o := .cells #[.int .u64 0, .int .u64 0] 69 (0, 0)) (kl_ BK161) hb); have n2_ := ak_ (bt_ (by repeat (first | (with_reducible first | exact HB.out | apply ba_ | apply bn_ | apply bd_ | refine below_set ?_ GE155.out | refine below_set ?_ GE161.out) | exact HB.out)) hb); have n3_ := ak_ (hbox); have n4_ := ak_ ((by rw [hg]; exact (bz_ (by repeat (first | (with_reducible first | exact HB.out | apply ba_ | apply bn_ | apply bd_ | refine below_set ?_ GE155.out | refine below_set ?_ GE161.out) | exact HB.out))) : w.heap.size ≤ gb162)); have n5_ := ak_ ((by rw [hg]; exact (bz_ (by repeat (first | (with_reducible first | exact HB.out | apply ba_ | apply bn_ | apply bd_ | refine below_set ?_ GE155.out | refine below_set ?_ GE161.out) | exact HB.out))) : w.heap.size ≤ gb162)); have n6_ := ak_ ((by rw [hg]; exact Nat.ne_of_lt (blk_lt (g := gb155) (o := .cells #[.int .u64 a1_0, .int .u64 a1_1] 24 (0, 0)) (kl_ BK155)) : gb155 ≠ gb162)); have n7_ := ak_ ((by rw [hg]; exact Nat.ne_of_gt (blk_lt (g := gb155) (o := .cells #[.int .u64 a1_0, .int .u64 a1_1] 24 (0, 0)) (kl_ BK155)) : gb162 ≠ gb155)); have n8_ := ak_ ((by rw [hg]; exact Nat.ne_of_lt (blk_lt (g := gb161) (o := .cells #[.int .u64 0, .int .u64 0] 69 (0, 0)) (kl_ BK161)) : gb161 ≠ gb162)); have n9_ := ak_ ((by rw [hg]; exact Nat.ne_of_gt (blk_lt (g := gb161) (o := .cells #[.int .u64 0, .int .u64 0] 69 (0, 0)) (kl_ BK161)) : gb162 ≠ gb161)); clear BK155; clear BK161; clear HB; have BK155 := n0_; have BK161 := n1_; have HB := n2_; have BK162 := n3_; have GW162 := n4_; have GE162 := n5_; have NB155_162 := n6_; have NB162_155 := n7_; have NB161_162 := n8_; have NB162_161 := n9_; clear n0_ n1_ n2_ n3_ n4_ n5_ n6_ n7_ n8_ n9_; clear hb hbox hg; have hnb71 := NB161_155.out; have hnc71 := NB155_161.out; have hnb72 := NB161_162.out; have hnc72 := NB162_161.out; have hcz73_0 : w70.cell? ⟨gb161, 0, none⟩ = some (.int .u64 0) := (kc_ BK161.out 0).trans rfl; have hcz73_1 : w70.cell? ⟨gb161, 1, none⟩ = some (.int .u64 0) := (kc_ BK161.out 1).trans rfl; have hfz73_0 := kf_ BK161.out 0; have hfz73_1 := kf_ BK161.out 1; have hnb74 := NB162_155.out; have hnc74 := NB155_162.out; have hcz75_0 : w70.cell? ⟨gb162, 0, none⟩ = some (.int .u64 0) := (kc_ BK162.out 0).trans rfl; have hcz75_1 : w70.cell? ⟨gb162, 1, none⟩ = some (.int .u64 0) := (kc_ BK162.out 1).trans rfl; have hfz75_0 := kf_ BK162.out 0; have hfz75_1 := kf_ BK162.out 1; have hcz76_0 : w70.cell? ⟨gb155, 0, none⟩ = some (.int .u64 a1_0) := (kc_ BK155.out 0).trans rfl; have hcz76_1 : w70.cell? ⟨gb155, 1, none⟩ = some (.int .u64 a1_1) := (kc_ BK155.out 1).trans rfl; have hfz76_0 := kf_ BK155.out 0; have hfz76_1 := kf_ BK155.out 1))
      go_ret2
      exact ⟨_, by first | rfl | (simp <;> rfl) | (simp [*] <;> rfl), by first | exact Kd.R_nil _ _ _ _ _ | exact Kd.N_nil _ _ _ _ _ | exact Kd.V_nil _ _ _ _ _ | exact Kd.Q_nil _ _ _ _ _ | exact Kd.S_nil _ _ _ _ _, by repeat (first | (with_reducible first | exact HB.out | apply ba_ | apply bn_ | apply bd_ | refine below_set ?_ GE155.out | refine below_set ?_ GE161.out | refine below_set ?_ GE162.out) | exact HB.out)⟩
  ·rw [if_neg c4] at H
   have c4b0 : (t160 == 0) = false := beq_eq_false_iff_ne.mpr c4
   have c4b1 : (t160 != 0) = true := bne_iff_ne.mpr c4
   simp only [some.injEq, Prod.mk.injEq] at H
   obtain ⟨rfl, rfl⟩ := H
   go_enter func11, ntmps11
   go_wp2_with (first | ((with_reducible refine gate_dst (N := 3) rfl ?_); refine box_event ?hg (N := 3) ?hd (cs := #[.int .u64 a1_0, .int .u64 a1_1]) (t := 24) ?hr ?_; (case hd => rfl); (case hg => rfl); (case hr => first | (go_simp; done) | (go_simp; rfl)); intro gb155 hg w77 hbox hb; have n0_ := ak_ (bt_ (bl_ HB) hb); have n1_ := ak_ (hbox); have n2_ := ak_ ((gs_ hg HB)); have n3_ := ak_ ((gs_ hg HB)); clear HB; have HB := n0_; have BK155 := n1_; have GW155 := n2_; have GE155 := n3_; clear n0_ n1_ n2_ n3_; clear hb hbox hg; have hcz78_0 : w77.cell? ⟨gb155, 0, none⟩ = some (.int .u64 a1_0) := (kc_ BK155.out 0).trans rfl; have hcz78_1 : w77.cell? ⟨gb155, 1, none⟩ = some (.int .u64 a1_1) := (kc_ BK155.out 1).trans rfl; have hfz78_0 := kf_ BK155.out 0; have hfz78_1 := kf_ BK155.out 1) | ((with_reducible refine gate_callee (f := 32) rfl ?_); refine goesL_ (some 11) rfl rfl func32 (by kernel_rfl) rfl #[.int .i64 a0, .agg #[.int .u64 a1_0, .int .u64 a1_1]] rfl (by (try simp only [map_toArray, map_cons, map_nil]); first | done | rfl) ?_; (with_reducible refine (sub_both.calls k a0 a1_0 a1_1 t156 t157 t158 t159 t160 _ A3.out).mono ?_); rintro e w79 ⟨rfl, hb⟩; refine ⟨_, rfl, ?_⟩; have n0_ := ak_ (kb_ (g := gb155) (o := .cells #[.int .u64 a1_0, .int .u64 a1_1] 24 (0, 0)) (kl_ BK155) hb); have n1_ := ak_ (bt_ (by repeat (first | (with_reducible first | exact HB.out | apply ba_ | apply bn_ | apply bd_ | refine below_set ?_ GE155.out) | exact HB.out)) hb); clear BK155; clear HB; have BK155 := n0_; have HB := n1_; clear n0_ n1_; (try clear hb); (try clear hk)) | ((with_reducible refine gate_dst (N := 6) rfl ?_); refine box_event ?hg (N := 6) ?hd (cs := #[.int .u64 0, .int .u64 0]) (t := 69) ?hr ?_; (case hd => rfl); (case hg => rfl); (case hr => first | (go_simp; done) | (go_simp; rfl)); intro gb161 hg w80 hbox hb; have n0_ := ak_ (kb_ (g := gb155) (o := .cells #[.int .u64 a1_0, .int .u64 a1_1] 24 (0, 0)) (kl_ BK155) hb); have n1_ := ak_ (bt_ (by repeat (first | (with_reducible first | exact HB.out | apply ba_ | apply bn_ | apply bd_ | refine below_set ?_ GE155.out) | exact HB.out)) hb); have n2_ := ak_ (hbox); have n3_ := ak_ ((by rw [hg]; exact (bz_ (by repeat (first | (with_reducible first | exact HB.out | apply ba_ | apply bn_ | apply bd_ | refine below_set ?_ GE155.out) | exact HB.out))) : w.heap.size ≤ gb161)); have n4_ := ak_ ((by rw [hg]; exact (bz_ (by repeat (first | (with_reducible first | exact HB.out | apply ba_ | apply bn_ | apply bd_ | refine below_set ?_ GE155.out) | exact HB.out))) : w.heap.size ≤ gb161)); have n5_ := ak_ ((by rw [hg]; exact Nat.ne_of_lt (blk_lt (g := gb155) (o := .cells #[.int .u64 a1_0, .int .u64 a1_1] 24 (0, 0)) (kl_ BK155)) : gb155 ≠ gb161)); have n6_ := ak_ ((by rw [hg]; exact Nat.ne_of_gt (blk_lt (g := gb155) (o := .cells #[.int .u64 a1_0, .int .u64 a1_1] 24 (0, 0)) (kl_ BK155)) : gb161 ≠ gb155)); clear BK155; clear HB; have BK155 := n0_; have HB := n1_; have BK161 := n2_; have GW161 := n3_; have GE161 := n4_; have NB155_161 := n5_; have NB161_155 := n6_; clear n0_ n1_ n2_ n3_ n4_ n5_ n6_; clear hb hbox hg) | ((with_reducible refine gate_dst (N := 7) rfl ?_); refine box_event ?hg (N := 7) ?hd (cs := #[.int .u64 0, .int .u64 0]) (t := 69) ?hr ?_; (case hd => rfl); (case hg => rfl); (case hr => first | (go_simp; done) | (go_simp; rfl)); intro gb162 hg w81 hbox hb; have n0_ := ak_ (kb_ (g := gb155) (o := .cells #[.int .u64 a1_0, .int .u64 a1_1] 24 (0, 0)) (kl_ BK155) hb); have n1_ := ak_ (kb_ (g := gb161) (o := .cells #[.int .u64 0, .int .u64 0] 69 (0, 0)) (kl_ BK161) hb); have n2_ := ak_ (bt_ (by repeat (first | (with_reducible first | exact HB.out | apply ba_ | apply bn_ | apply bd_ | refine below_set ?_ GE155.out | refine below_set ?_ GE161.out) | exact HB.out)) hb); have n3_ := ak_ (hbox); have n4_ := ak_ ((by rw [hg]; exact (bz_ (by repeat (first | (with_reducible first | exact HB.out | apply ba_ | apply bn_ | apply bd_ | refine below_set ?_ GE155.out | refine below_set ?_ GE161.out) | exact HB.out))) : w.heap.size ≤ gb162)); have n5_ := ak_ ((by rw [hg]; exact (bz_ (by repeat (first | (with_reducible first | exact HB.out | apply ba_ | apply bn_ | apply bd_ | refine below_set ?_ GE155.out | refine below_set ?_ GE161.out) | exact HB.out))) : w.heap.size ≤ gb162)); have n6_ := ak_ ((by rw [hg]; exact Nat.ne_of_lt (blk_lt (g := gb155) (o := .cells #[.int .u64 a1_0, .int .u64 a1_1] 24 (0, 0)) (kl_ BK155)) : gb155 ≠ gb162)); have n7_ := ak_ ((by rw [hg]; exact Nat.ne_of_gt (blk_lt (g := gb155) (o := .cells #[.int .u64 a1_0, .int .u64 a1_1] 24 (0, 0)) (kl_ BK155)) : gb162 ≠ gb155)); have n8_ := ak_ ((by rw [hg]; exact Nat.ne_of_lt (blk_lt (g := gb161) (o := .cells #[.int .u64 0, .int .u64 0] 69 (0, 0)) (kl_ BK161)) : gb161 ≠ gb162)); have n9_ := ak_ ((by rw [hg]; exact Nat.ne_of_gt (blk_lt (g := gb161) (o := .cells #[.int .u64 0, .int .u64 0] 69 (0, 0)) (kl_ BK161)) : gb162 ≠ gb161)); clear BK155; clear BK161; clear HB; have BK155 := n0_; have BK161 := n1_; have HB := n2_; have BK162 := n3_; have GW162 := n4_; have GE162 := n5_; have NB155_162 := n6_; have NB162_155 := n7_; have NB161_162 := n8_; have NB162_161 := n9_; clear n0_ n1_ n2_ n3_ n4_ n5_ n6_ n7_ n8_ n9_; clear hb hbox hg; have hnb82 := NB161_155.out; have hnc82 := NB155_161.out; have hnb83 := NB161_162.out; have hnc83 := NB162_161.out; have hcz84_0 : w81.cell? ⟨gb161, 0, none⟩ = some (.int .u64 0) := (kc_ BK161.out 0).trans rfl; have hcz84_1 : w81.cell? ⟨gb161, 1, none⟩ = some (.int .u64 0) := (kc_ BK161.out 1).trans rfl; have hfz84_0 := kf_ BK161.out 0; have hfz84_1 := kf_ BK161.out 1; have hnb85 := NB162_155.out; have hnc85 := NB155_162.out; have hcz86_0 : w81.cell? ⟨gb162, 0, none⟩ = some (.int .u64 0) := (kc_ BK162.out 0).trans rfl; have hcz86_1 : w81.cell? ⟨gb162, 1, none⟩ = some (.int .u64 0) := (kc_ BK162.out 1).trans rfl; have hfz86_0 := kf_ BK162.out 0; have hfz86_1 := kf_ BK162.out 1))
   go_ret2
   exact ⟨_, by first | rfl | (simp <;> rfl) | (simp [*] <;> rfl), by first | exact Kd.R_nil _ _ _ _ _ | exact Kd.N_nil _ _ _ _ _ | exact Kd.V_nil _ _ _ _ _ | exact Kd.Q_nil _ _ _ _ _ | exact Kd.S_nil _ _ _ _ _, by repeat (first | (with_reducible first | exact HB.out | apply ba_ | apply bn_ | apply bd_ | refine below_set ?_ GE155.out | refine below_set ?_ GE161.out | refine below_set ?_ GE162.out) | exact HB.out)⟩
def trace_only.f (k : Nat) (a0 : Int) (a1_0 : Int) (a1_1 : Int) : Option (Int × Bool) := (sub_Leaves.f k a0 a1_0 a1_1).bind fun bt176 => (if bt176.2 = 0 then (if (bt176.1.length : Int) = 1 then (if 0 < (bt176.1.length : Int) then (if ((rd_T69 bt176.1 0).f0) = ((rd_T69 bt176.1 0).f1) then (some ((rd_T69 bt176.1 0).f0, true)) else (some (0, false))) else (none)) else (some (0, false))) else (some (0, false)))
theorem trace_only.mono : ∀ a0 a1 a2 k, LeO (trace_only.f k a0 a1 a2) (trace_only.f (k + 1) a0 a1 a2) := by
  intro a0 a1 a2 k
  unfold trace_only.f
  repeat' first
    | (with_reducible exact sub_Leaves.mono _ _ _ _)
    | (with_reducible exact LeO.refl _)
    | (with_reducible exact LeO.none _)
    | (with_reducible refine LeO.ite ?_ ?_)
    | (with_reducible refine LeO.bind ?_ (fun _ => ?_))
    | exact sub_Leaves.mono _ _ _ _
    | exact LeO.none _
    | refine LeO.ite ?_ ?_
    | refine LeO.bind ?_ (fun _ => ?_)
set_option maxHeartbeats 8000000 in
set_option maxRecDepth 100000 in
theorem trace_only.calls (k : Nat) (a0 : Int) (a1_0 : Int) (a1_1 : Int) (r1 : Int) (r2 : Bool) (w : World) (h : trace_only.f k a0 a1_0 a1_1 = some (r1, r2)) :
   Calls Try.prog 29 #[.int .i64 a0, .agg #[.int .u64 a1_0, .int .u64 a1_1]] w fun e w' => e = .returned (.tuple #[.int .u64 r1, .bool r2]) ∧ Below w.heap.size w w' := by
  have hu24 := underlying24
  have HB := ak_ (Below.refl w.heap.size w)
  have H : ((sub_Leaves.f k a0 a1_0 a1_1).bind fun bt176 => (if bt176.2 = 0 then (if (bt176.1.length : Int) = 1 then (if 0 < (bt176.1.length : Int) then (if ((rd_T69 bt176.1 0).f0) = ((rd_T69 bt176.1 0).f1) then (some ((rd_T69 bt176.1 0).f0, true)) else (some (0, false))) else (none)) else (some (0, false))) else (some (0, false)))) = some (r1, r2) := h
  clear h
  replace H := bind_eq_some_iff.mp H
  obtain ⟨⟨t176, t179⟩, A30, H⟩ := H
  replace H : (if t179 = 0 then (if (t176.length : Int) = 1 then (if 0 < (t176.length : Int) then (if ((rd_T69 t176 0).f0) = ((rd_T69 t176 0).f1) then (some ((rd_T69 t176 0).f0, true)) else (some (0, false))) else (none)) else (some (0, false))) else (some (0, false))) = some (r1, r2) := H
  have A3 := ak_ A30
  clear A30
  by_cases c4 : t179 = 0
  ·rw [if_pos c4] at H
   have c4b0 : (t179 == 0) = true := beq_iff_eq.mpr c4
   have c4b1 : (t179 != 0) = false := bne_eq_false_iff_eq.mpr c4
   clear c4
   by_cases c5 : (t176.length : Int) = 1
   ·rw [if_pos c5] at H
    have c5b0 : ((t176.length : Int) == 1) = true := beq_iff_eq.mpr c5
    have c5b1 : ((t176.length : Int) != 1) = false := bne_eq_false_iff_eq.mpr c5
    clear c5
    by_cases c6 : 0 < (t176.length : Int)
    ·rw [if_pos c6] at H
     have c6b0 := decide_eq_true c6
     have c6b1 : decide (0 < t176.length) = true := decide_eq_true (by omega)
     clear c6
     by_cases c7 : ((rd_T69 t176 0).f0) = ((rd_T69 t176 0).f1)
     ·rw [if_pos c7] at H
      have c7b0 : (((rd_T69 t176 0).f0) == ((rd_T69 t176 0).f1)) = true := beq_iff_eq.mpr c7
      have c7b1 : (((rd_T69 t176 0).f0) != ((rd_T69 t176 0).f1)) = false := bne_eq_false_iff_eq.mpr c7
      clear c7
      simp only [some.injEq, Prod.mk.injEq] at H
      obtain ⟨rfl, rfl⟩ := H
      go_enter func29, ntmps29
      go_wp2_with (first | ((with_reducible refine gate_dst (N := 3) rfl ?_); (try (refine gate_guard (by rfl) ?_; dsimp only)); refine box_event ?hg (N := 3) ?hd (cs := #[.int .u64 a1_0, .int .u64 a1_1]) (t := 24) ?hr ?_; (case hd => rfl); (case hg => rfl); (case hr => first | (go_simp; done) | (go_simp; rfl)); intro gb175 hg w8 hbox hb; have n0_ := ak_ (bt_ (bl_ HB) hb); have n1_ := ak_ (hbox); have n2_ := ak_ ((gs_ hg HB)); have n3_ := ak_ ((gs_ hg HB)); clear HB; have HB := n0_; have BK175 := n1_; have GW175 := n2_; have GE175 := n3_; clear n0_ n1_ n2_ n3_; clear hb hbox hg; have hcz9_0 : w8.cell? ⟨gb175, 0, none⟩ = some (.int .u64 a1_0) := (kc_ BK175.out 0).trans rfl; have hcz9_1 : w8.cell? ⟨gb175, 1, none⟩ = some (.int .u64 a1_1) := (kc_ BK175.out 1).trans rfl; have hfz9_0 := kf_ BK175.out 0; have hfz9_1 := kf_ BK175.out 1) | (go_at_call 11; (with_reducible refine (sub_Leaves.calls k a0 a1_0 a1_1 t176 t179 _ A3.out).mono ?_); rintro e w10 ⟨v177, rfl, ho0, hb⟩; have n0_ := ak_ (Kd.R_lower ho0 (bz_ (by repeat (first | (with_reducible first | exact HB.out | apply ba_ | apply bn_ | apply bd_ | refine below_set ?_ GE175.out) | exact HB.out)))); have n1_ := ak_ (kb_ (g := gb175) (o := .cells #[.int .u64 a1_0, .int .u64 a1_1] 24 (0, 0)) (kl_ BK175) hb); have n2_ := ak_ (bt_ (by repeat (first | (with_reducible first | exact HB.out | apply ba_ | apply bn_ | apply bd_ | refine below_set ?_ GE175.out) | exact HB.out)) hb); clear BK175; clear HB; have HO178 := n0_; have BK175 := n1_; have HB := n2_; clear n0_ n1_ n2_; (try clear hb); (try clear hk); (try clear ho0); obtain ⟨Ao11, co11, eo11⟩ := Kd.R_slice HO178.out; subst eo11; have p180 : 0 ≤ (0 : Int) := (by omega); have q180 : 0 < (t176.length : Int) := od_ (by first | (with_reducible assumption) | assumption); obtain ⟨ad180, e180, hx180_0, hx180_1⟩ := at_T69 (Kd.R_reads' HO178.out).2.2 0 p180 q180; cases e180; have qi180 : (0 < t176.length) = True := eq_true (by omega); (try rw [show ((0 : Int)).toNat = 0 from rfl] at hx180_0); (try rw [show 0 * 2 = 0 from rfl] at hx180_0); (try rw [Addr.add_zero'] at hx180_0); (try rw [show ((0 : Int)).toNat = 0 from rfl] at hx180_1); (try rw [show 0 * 2 = 0 from rfl] at hx180_1); (try rw [Addr.add_zero'] at hx180_1); replace p180 := eq_true p180; replace q180 := eq_true q180; have p181 : 0 ≤ (0 : Int) := (by omega); have q181 : 0 < (t176.length : Int) := od_ (by first | (with_reducible assumption) | assumption); obtain ⟨ad181, e181, hx181_0, hx181_1⟩ := at_T69 (Kd.R_reads' HO178.out).2.2 0 p181 q181; obtain rfl : ad180 = ad181 := (by injection e181); have qi181 : (0 < t176.length) = True := eq_true (by omega); (try rw [show ((0 : Int)).toNat = 0 from rfl] at hx181_0); (try rw [show 0 * 2 = 0 from rfl] at hx181_0); (try rw [Addr.add_zero'] at hx181_0); (try rw [show ((0 : Int)).toNat = 0 from rfl] at hx181_1); (try rw [show 0 * 2 = 0 from rfl] at hx181_1); (try rw [Addr.add_zero'] at hx181_1); replace p181 := eq_true p181; replace q181 := eq_true q181; have p182 : 0 ≤ (0 : Int) := (by omega); have q182 : 0 < (t176.length : Int) := od_ (by first | (with_reducible assumption) | assumption); obtain ⟨ad182, e182, hx182_0, hx182_1⟩ := at_T69 (Kd.R_reads' HO178.out).2.2 0 p182 q182; obtain rfl : ad180 = ad182 := (by injection e182); have qi182 : (0 < t176.length) = True := eq_true (by omega); (try rw [show ((0 : Int)).toNat = 0 from rfl] at hx182_0); (try rw [show 0 * 2 = 0 from rfl] at hx182_0); (try rw [Addr.add_zero'] at hx182_0); (try rw [show ((0 : Int)).toNat = 0 from rfl] at hx182_1); (try rw [show 0 * 2 = 0 from rfl] at hx182_1); (try rw [Addr.add_zero'] at hx182_1); replace p182 := eq_true p182; replace q182 := eq_true q182))
      repeat (go_quiet (first | ((with_reducible refine gate_dst (N := 3) rfl ?_); (try (refine gate_guard (by rfl) ?_; dsimp only)); refine box_event ?hg (N := 3) ?hd (cs := #[.int .u64 a1_0, .int .u64 a1_1]) (t := 24) ?hr ?_; (case hd => rfl); (case hg => rfl); (case hr => first | (go_simp; done) | (go_simp; rfl)); intro gb175 hg w8 hbox hb; have n0_ := ak_ (bt_ (bl_ HB) hb); have n1_ := ak_ (hbox); have n2_ := ak_ ((gs_ hg HB)); have n3_ := ak_ ((gs_ hg HB)); clear HB; have HB := n0_; have BK175 := n1_; have GW175 := n2_; have GE175 := n3_; clear n0_ n1_ n2_ n3_; clear hb hbox hg; have hcz9_0 : w8.cell? ⟨gb175, 0, none⟩ = some (.int .u64 a1_0) := (kc_ BK175.out 0).trans rfl; have hcz9_1 : w8.cell? ⟨gb175, 1, none⟩ = some (.int .u64 a1_1) := (kc_ BK175.out 1).trans rfl; have hfz9_0 := kf_ BK175.out 0; have hfz9_1 := kf_ BK175.out 1) | (go_at_call 11; (with_reducible refine (sub_Leaves.calls k a0 a1_0 a1_1 t176 t179 _ A3.out).mono ?_); rintro e w10 ⟨v177, rfl, ho0, hb⟩; have n0_ := ak_ (Kd.R_lower ho0 (bz_ (by repeat (first | (with_reducible first | exact HB.out | apply ba_ | apply bn_ | apply bd_ | refine below_set ?_ GE175.out) | exact HB.out)))); have n1_ := ak_ (kb_ (g := gb175) (o := .cells #[.int .u64 a1_0, .int .u64 a1_1] 24 (0, 0)) (kl_ BK175) hb); have n2_ := ak_ (bt_ (by repeat (first | (with_reducible first | exact HB.out | apply ba_ | apply bn_ | apply bd_ | refine below_set ?_ GE175.out) | exact HB.out)) hb); clear BK175; clear HB; have HO178 := n0_; have BK175 := n1_; have HB := n2_; clear n0_ n1_ n2_; (try clear hb); (try clear hk); (try clear ho0); obtain ⟨Ao11, co11, eo11⟩ := Kd.R_slice HO178.out; subst eo11; have p180 : 0 ≤ (0 : Int) := (by omega); have q180 : 0 < (t176.length : Int) := od_ (by first | (with_reducible assumption) | assumption); obtain ⟨ad180, e180, hx180_0, hx180_1⟩ := at_T69 (Kd.R_reads' HO178.out).2.2 0 p180 q180; cases e180; have qi180 : (0 < t176.length) = True := eq_true (by omega); (try rw [show ((0 : Int)).toNat = 0 from rfl] at hx180_0); (try rw [show 0 * 2 = 0 from rfl] at hx180_0); (try rw [Addr.add_zero'] at hx180_0); (try rw [show ((0 : Int)).toNat = 0 from rfl] at hx180_1); (try rw [show 0 * 2 = 0 from rfl] at hx180_1); (try rw [Addr.add_zero'] at hx180_1); replace p180 := eq_true p180; replace q180 := eq_true q180; have p181 : 0 ≤ (0 : Int) := (by omega); have q181 : 0 < (t176.length : Int) := od_ (by first | (with_reducible assumption) | assumption); obtain ⟨ad181, e181, hx181_0, hx181_1⟩ := at_T69 (Kd.R_reads' HO178.out).2.2 0 p181 q181; obtain rfl : ad180 = ad181 := (by injection e181); have qi181 : (0 < t176.length) = True := eq_true (by omega); (try rw [show ((0 : Int)).toNat = 0 from rfl] at hx181_0); (try rw [show 0 * 2 = 0 from rfl] at hx181_0); (try rw [Addr.add_zero'] at hx181_0); (try rw [show ((0 : Int)).toNat = 0 from rfl] at hx181_1); (try rw [show 0 * 2 = 0 from rfl] at hx181_1); (try rw [Addr.add_zero'] at hx181_1); replace p181 := eq_true p181; replace q181 := eq_true q181; have p182 : 0 ≤ (0 : Int) := (by omega); have q182 : 0 < (t176.length : Int) := od_ (by first | (with_reducible assumption) | assumption); obtain ⟨ad182, e182, hx182_0, hx182_1⟩ := at_T69 (Kd.R_reads' HO178.out).2.2 0 p182 q182; obtain rfl : ad180 = ad182 := (by injection e182); have qi182 : (0 < t176.length) = True := eq_true (by omega); (try rw [show ((0 : Int)).toNat = 0 from rfl] at hx182_0); (try rw [show 0 * 2 = 0 from rfl] at hx182_0); (try rw [Addr.add_zero'] at hx182_0); (try rw [show ((0 : Int)).toNat = 0 from rfl] at hx182_1); (try rw [show 0 * 2 = 0 from rfl] at hx182_1); (try rw [Addr.add_zero'] at hx182_1); replace p182 := eq_true p182; replace q182 := eq_true q182)); try go_wp2_with (first | ((with_reducible refine gate_dst (N := 3) rfl ?_); (try (refine gate_guard (by rfl) ?_; dsimp only)); refine box_event ?hg (N := 3) ?hd (cs := #[.int .u64 a1_0, .int .u64 a1_1]) (t := 24) ?hr ?_; (case hd => rfl); (case hg => rfl); (case hr => first | (go_simp; done) | (go_simp; rfl)); intro gb175 hg w8 hbox hb; have n0_ := ak_ (bt_ (bl_ HB) hb); have n1_ := ak_ (hbox); have n2_ := ak_ ((gs_ hg HB)); have n3_ := ak_ ((gs_ hg HB)); clear HB; have HB := n0_; have BK175 := n1_; have GW175 := n2_; have GE175 := n3_; clear n0_ n1_ n2_ n3_; clear hb hbox hg; have hcz9_0 : w8.cell? ⟨gb175, 0, none⟩ = some (.int .u64 a1_0) := (kc_ BK175.out 0).trans rfl; have hcz9_1 : w8.cell? ⟨gb175, 1, none⟩ = some (.int .u64 a1_1) := (kc_ BK175.out 1).trans rfl; have hfz9_0 := kf_ BK175.out 0; have hfz9_1 := kf_ BK175.out 1) | (go_at_call 11; (with_reducible refine (sub_Leaves.calls k a0 a1_0 a1_1 t176 t179 _ A3.out).mono ?_); rintro e w10 ⟨v177, rfl, ho0, hb⟩; have n0_ := ak_ (Kd.R_lower ho0 (bz_ (by repeat (first | (with_reducible first | exact HB.out | apply ba_ | apply bn_ | apply bd_ | refine below_set ?_ GE175.out) | exact HB.out)))); have n1_ := ak_ (kb_ (g := gb175) (o := .cells #[.int .u64 a1_0, .int .u64 a1_1] 24 (0, 0)) (kl_ BK175) hb); have n2_ := ak_ (bt_ (by repeat (first | (with_reducible first | exact HB.out | apply ba_ | apply bn_ | apply bd_ | refine below_set ?_ GE175.out) | exact HB.out)) hb); clear BK175; clear HB; have HO178 := n0_; have BK175 := n1_; have HB := n2_; clear n0_ n1_ n2_; (try clear hb); (try clear hk); (try clear ho0); obtain ⟨Ao11, co11, eo11⟩ := Kd.R_slice HO178.out; subst eo11; have p180 : 0 ≤ (0 : Int) := (by omega); have q180 : 0 < (t176.length : Int) := od_ (by first | (with_reducible assumption) | assumption); obtain ⟨ad180, e180, hx180_0, hx180_1⟩ := at_T69 (Kd.R_reads' HO178.out).2.2 0 p180 q180; cases e180; have qi180 : (0 < t176.length) = True := eq_true (by omega); (try rw [show ((0 : Int)).toNat = 0 from rfl] at hx180_0); (try rw [show 0 * 2 = 0 from rfl] at hx180_0); (try rw [Addr.add_zero'] at hx180_0); (try rw [show ((0 : Int)).toNat = 0 from rfl] at hx180_1); (try rw [show 0 * 2 = 0 from rfl] at hx180_1); (try rw [Addr.add_zero'] at hx180_1); replace p180 := eq_true p180; replace q180 := eq_true q180; have p181 : 0 ≤ (0 : Int) := (by omega); have q181 : 0 < (t176.length : Int) := od_ (by first | (with_reducible assumption) | assumption); obtain ⟨ad181, e181, hx181_0, hx181_1⟩ := at_T69 (Kd.R_reads' HO178.out).2.2 0 p181 q181; obtain rfl : ad180 = ad181 := (by injection e181); have qi181 : (0 < t176.length) = True := eq_true (by omega); (try rw [show ((0 : Int)).toNat = 0 from rfl] at hx181_0); (try rw [show 0 * 2 = 0 from rfl] at hx181_0); (try rw [Addr.add_zero'] at hx181_0); (try rw [show ((0 : Int)).toNat = 0 from rfl] at hx181_1); (try rw [show 0 * 2 = 0 from rfl] at hx181_1); (try rw [Addr.add_zero'] at hx181_1); replace p181 := eq_true p181; replace q181 := eq_true q181; have p182 : 0 ≤ (0 : Int) := (by omega); have q182 : 0 < (t176.length : Int) := od_ (by first | (with_reducible assumption) | assumption); obtain ⟨ad182, e182, hx182_0, hx182_1⟩ := at_T69 (Kd.R_reads' HO178.out).2.2 0 p182 q182; obtain rfl : ad180 = ad182 := (by injection e182); have qi182 : (0 < t176.length) = True := eq_true (by omega); (try rw [show ((0 : Int)).toNat = 0 from rfl] at hx182_0); (try rw [show 0 * 2 = 0 from rfl] at hx182_0); (try rw [Addr.add_zero'] at hx182_0); (try rw [show ((0 : Int)).toNat = 0 from rfl] at hx182_1); (try rw [show 0 * 2 = 0 from rfl] at hx182_1); (try rw [Addr.add_zero'] at hx182_1); replace p182 := eq_true p182; replace q182 := eq_true q182)))
      go_ret2
      exact ⟨by first | rfl | (simp <;> rfl) | (simp [*] <;> rfl), by repeat (first | (with_reducible first | exact HB.out | apply ba_ | apply bn_ | apply bd_ | refine below_set ?_ GE175.out) | exact HB.out)⟩
     ·rw [if_neg c7] at H
      have c7b0 : (((rd_T69 t176 0).f0) == ((rd_T69 t176 0).f1)) = false := beq_eq_false_iff_ne.mpr c7
      have c7b1 : (((rd_T69 t176 0).f0) != ((rd_T69 t176 0).f1)) = true := bne_iff_ne.mpr c7
      simp only [some.injEq, Prod.mk.injEq] at H
      obtain ⟨rfl, rfl⟩ := H
      go_enter func29, ntmps29
      go_wp2_with (first | ((with_reducible refine gate_dst (N := 3) rfl ?_); (try (refine gate_guard (by rfl) ?_; dsimp only)); refine box_event ?hg (N := 3) ?hd (cs := #[.int .u64 a1_0, .int .u64 a1_1]) (t := 24) ?hr ?_; (case hd => rfl); (case hg => rfl); (case hr => first | (go_simp; done) | (go_simp; rfl)); intro gb175 hg w12 hbox hb; have n0_ := ak_ (bt_ (bl_ HB) hb); have n1_ := ak_ (hbox); have n2_ := ak_ ((gs_ hg HB)); have n3_ := ak_ ((gs_ hg HB)); clear HB; have HB := n0_; have BK175 := n1_; have GW175 := n2_; have GE175 := n3_; clear n0_ n1_ n2_ n3_; clear hb hbox hg; have hcz13_0 : w12.cell? ⟨gb175, 0, none⟩ = some (.int .u64 a1_0) := (kc_ BK175.out 0).trans rfl; have hcz13_1 : w12.cell? ⟨gb175, 1, none⟩ = some (.int .u64 a1_1) := (kc_ BK175.out 1).trans rfl; have hfz13_0 := kf_ BK175.out 0; have hfz13_1 := kf_ BK175.out 1) | (go_at_call 11; (with_reducible refine (sub_Leaves.calls k a0 a1_0 a1_1 t176 t179 _ A3.out).mono ?_); rintro e w14 ⟨v177, rfl, ho0, hb⟩; have n0_ := ak_ (Kd.R_lower ho0 (bz_ (by repeat (first | (with_reducible first | exact HB.out | apply ba_ | apply bn_ | apply bd_ | refine below_set ?_ GE175.out) | exact HB.out)))); have n1_ := ak_ (kb_ (g := gb175) (o := .cells #[.int .u64 a1_0, .int .u64 a1_1] 24 (0, 0)) (kl_ BK175) hb); have n2_ := ak_ (bt_ (by repeat (first | (with_reducible first | exact HB.out | apply ba_ | apply bn_ | apply bd_ | refine below_set ?_ GE175.out) | exact HB.out)) hb); clear BK175; clear HB; have HO178 := n0_; have BK175 := n1_; have HB := n2_; clear n0_ n1_ n2_; (try clear hb); (try clear hk); (try clear ho0); obtain ⟨Ao15, co15, eo15⟩ := Kd.R_slice HO178.out; subst eo15; have p180 : 0 ≤ (0 : Int) := (by omega); have q180 : 0 < (t176.length : Int) := od_ (by first | (with_reducible assumption) | assumption); obtain ⟨ad180, e180, hx180_0, hx180_1⟩ := at_T69 (Kd.R_reads' HO178.out).2.2 0 p180 q180; cases e180; have qi180 : (0 < t176.length) = True := eq_true (by omega); (try rw [show ((0 : Int)).toNat = 0 from rfl] at hx180_0); (try rw [show 0 * 2 = 0 from rfl] at hx180_0); (try rw [Addr.add_zero'] at hx180_0); (try rw [show ((0 : Int)).toNat = 0 from rfl] at hx180_1); (try rw [show 0 * 2 = 0 from rfl] at hx180_1); (try rw [Addr.add_zero'] at hx180_1); replace p180 := eq_true p180; replace q180 := eq_true q180; have p181 : 0 ≤ (0 : Int) := (by omega); have q181 : 0 < (t176.length : Int) := od_ (by first | (with_reducible assumption) | assumption); obtain ⟨ad181, e181, hx181_0, hx181_1⟩ := at_T69 (Kd.R_reads' HO178.out).2.2 0 p181 q181; obtain rfl : ad180 = ad181 := (by injection e181); have qi181 : (0 < t176.length) = True := eq_true (by omega); (try rw [show ((0 : Int)).toNat = 0 from rfl] at hx181_0); (try rw [show 0 * 2 = 0 from rfl] at hx181_0); (try rw [Addr.add_zero'] at hx181_0); (try rw [show ((0 : Int)).toNat = 0 from rfl] at hx181_1); (try rw [show 0 * 2 = 0 from rfl] at hx181_1); (try rw [Addr.add_zero'] at hx181_1); replace p181 := eq_true p181; replace q181 := eq_true q181))
      repeat (go_quiet (first | ((with_reducible refine gate_dst (N := 3) rfl ?_); (try (refine gate_guard (by rfl) ?_; dsimp only)); refine box_event ?hg (N := 3) ?hd (cs := #[.int .u64 a1_0, .int .u64 a1_1]) (t := 24) ?hr ?_; (case hd => rfl); (case hg => rfl); (case hr => first | (go_simp; done) | (go_simp; rfl)); intro gb175 hg w12 hbox hb; have n0_ := ak_ (bt_ (bl_ HB) hb); have n1_ := ak_ (hbox); have n2_ := ak_ ((gs_ hg HB)); have n3_ := ak_ ((gs_ hg HB)); clear HB; have HB := n0_; have BK175 := n1_; have GW175 := n2_; have GE175 := n3_; clear n0_ n1_ n2_ n3_; clear hb hbox hg; have hcz13_0 : w12.cell? ⟨gb175, 0, none⟩ = some (.int .u64 a1_0) := (kc_ BK175.out 0).trans rfl; have hcz13_1 : w12.cell? ⟨gb175, 1, none⟩ = some (.int .u64 a1_1) := (kc_ BK175.out 1).trans rfl; have hfz13_0 := kf_ BK175.out 0; have hfz13_1 := kf_ BK175.out 1) | (go_at_call 11; (with_reducible refine (sub_Leaves.calls k a0 a1_0 a1_1 t176 t179 _ A3.out).mono ?_); rintro e w14 ⟨v177, rfl, ho0, hb⟩; have n0_ := ak_ (Kd.R_lower ho0 (bz_ (by repeat (first | (with_reducible first | exact HB.out | apply ba_ | apply bn_ | apply bd_ | refine below_set ?_ GE175.out) | exact HB.out)))); have n1_ := ak_ (kb_ (g := gb175) (o := .cells #[.int .u64 a1_0, .int .u64 a1_1] 24 (0, 0)) (kl_ BK175) hb); have n2_ := ak_ (bt_ (by repeat (first | (with_reducible first | exact HB.out | apply ba_ | apply bn_ | apply bd_ | refine below_set ?_ GE175.out) | exact HB.out)) hb); clear BK175; clear HB; have HO178 := n0_; have BK175 := n1_; have HB := n2_; clear n0_ n1_ n2_; (try clear hb); (try clear hk); (try clear ho0); obtain ⟨Ao15, co15, eo15⟩ := Kd.R_slice HO178.out; subst eo15; have p180 : 0 ≤ (0 : Int) := (by omega); have q180 : 0 < (t176.length : Int) := od_ (by first | (with_reducible assumption) | assumption); obtain ⟨ad180, e180, hx180_0, hx180_1⟩ := at_T69 (Kd.R_reads' HO178.out).2.2 0 p180 q180; cases e180; have qi180 : (0 < t176.length) = True := eq_true (by omega); (try rw [show ((0 : Int)).toNat = 0 from rfl] at hx180_0); (try rw [show 0 * 2 = 0 from rfl] at hx180_0); (try rw [Addr.add_zero'] at hx180_0); (try rw [show ((0 : Int)).toNat = 0 from rfl] at hx180_1); (try rw [show 0 * 2 = 0 from rfl] at hx180_1); (try rw [Addr.add_zero'] at hx180_1); replace p180 := eq_true p180; replace q180 := eq_true q180; have p181 : 0 ≤ (0 : Int) := (by omega); have q181 : 0 < (t176.length : Int) := od_ (by first | (with_reducible assumption) | assumption); obtain ⟨ad181, e181, hx181_0, hx181_1⟩ := at_T69 (Kd.R_reads' HO178.out).2.2 0 p181 q181; obtain rfl : ad180 = ad181 := (by injection e181); have qi181 : (0 < t176.length) = True := eq_true (by omega); (try rw [show ((0 : Int)).toNat = 0 from rfl] at hx181_0); (try rw [show 0 * 2 = 0 from rfl] at hx181_0); (try rw [Addr.add_zero'] at hx181_0); (try rw [show ((0 : Int)).toNat = 0 from rfl] at hx181_1); (try rw [show 0 * 2 = 0 from rfl] at hx181_1); (try rw [Addr.add_zero'] at hx181_1); replace p181 := eq_true p181; replace q181 := eq_true q181)); try go_wp2_with (first | ((with_reducible refine gate_dst (N := 3) rfl ?_); (try (refine gate_guard (by rfl) ?_; dsimp only)); refine box_event ?hg (N := 3) ?hd (cs := #[.int .u64 a1_0, .int .u64 a1_1]) (t := 24) ?hr ?_; (case hd => rfl); (case hg => rfl); (case hr => first | (go_simp; done) | (go_simp; rfl)); intro gb175 hg w12 hbox hb; have n0_ := ak_ (bt_ (bl_ HB) hb); have n1_ := ak_ (hbox); have n2_ := ak_ ((gs_ hg HB)); have n3_ := ak_ ((gs_ hg HB)); clear HB; have HB := n0_; have BK175 := n1_; have GW175 := n2_; have GE175 := n3_; clear n0_ n1_ n2_ n3_; clear hb hbox hg; have hcz13_0 : w12.cell? ⟨gb175, 0, none⟩ = some (.int .u64 a1_0) := (kc_ BK175.out 0).trans rfl; have hcz13_1 : w12.cell? ⟨gb175, 1, none⟩ = some (.int .u64 a1_1) := (kc_ BK175.out 1).trans rfl; have hfz13_0 := kf_ BK175.out 0; have hfz13_1 := kf_ BK175.out 1) | (go_at_call 11; (with_reducible refine (sub_Leaves.calls k a0 a1_0 a1_1 t176 t179 _ A3.out).mono ?_); rintro e w14 ⟨v177, rfl, ho0, hb⟩; have n0_ := ak_ (Kd.R_lower ho0 (bz_ (by repeat (first | (with_reducible first | exact HB.out | apply ba_ | apply bn_ | apply bd_ | refine below_set ?_ GE175.out) | exact HB.out)))); have n1_ := ak_ (kb_ (g := gb175) (o := .cells #[.int .u64 a1_0, .int .u64 a1_1] 24 (0, 0)) (kl_ BK175) hb); have n2_ := ak_ (bt_ (by repeat (first | (with_reducible first | exact HB.out | apply ba_ | apply bn_ | apply bd_ | refine below_set ?_ GE175.out) | exact HB.out)) hb); clear BK175; clear HB; have HO178 := n0_; have BK175 := n1_; have HB := n2_; clear n0_ n1_ n2_; (try clear hb); (try clear hk); (try clear ho0); obtain ⟨Ao15, co15, eo15⟩ := Kd.R_slice HO178.out; subst eo15; have p180 : 0 ≤ (0 : Int) := (by omega); have q180 : 0 < (t176.length : Int) := od_ (by first | (with_reducible assumption) | assumption); obtain ⟨ad180, e180, hx180_0, hx180_1⟩ := at_T69 (Kd.R_reads' HO178.out).2.2 0 p180 q180; cases e180; have qi180 : (0 < t176.length) = True := eq_true (by omega); (try rw [show ((0 : Int)).toNat = 0 from rfl] at hx180_0); (try rw [show 0 * 2 = 0 from rfl] at hx180_0); (try rw [Addr.add_zero'] at hx180_0); (try rw [show ((0 : Int)).toNat = 0 from rfl] at hx180_1); (try rw [show 0 * 2 = 0 from rfl] at hx180_1); (try rw [Addr.add_zero'] at hx180_1); replace p180 := eq_true p180; replace q180 := eq_true q180; have p181 : 0 ≤ (0 : Int) := (by omega); have q181 : 0 < (t176.length : Int) := od_ (by first | (with_reducible assumption) | assumption); obtain ⟨ad181, e181, hx181_0, hx181_1⟩ := at_T69 (Kd.R_reads' HO178.out).2.2 0 p181 q181; obtain rfl : ad180 = ad181 := (by injection e181); have qi181 : (0 < t176.length) = True := eq_true (by omega); (try rw [show ((0 : Int)).toNat = 0 from rfl] at hx181_0); (try rw [show 0 * 2 = 0 from rfl] at hx181_0); (try rw [Addr.add_zero'] at hx181_0); (try rw [show ((0 : Int)).toNat = 0 from rfl] at hx181_1); (try rw [show 0 * 2 = 0 from rfl] at hx181_1); (try rw [Addr.add_zero'] at hx181_1); replace p181 := eq_true p181; replace q181 := eq_true q181)))
      go_ret2
      exact ⟨by first | rfl | (simp <;> rfl) | (simp [*] <;> rfl), by repeat (first | (with_reducible first | exact HB.out | apply ba_ | apply bn_ | apply bd_ | refine below_set ?_ GE175.out) | exact HB.out)⟩
    ·rw [if_neg c6] at H
     exact absurd H (by simp)
   ·rw [if_neg c5] at H
    have c5b0 : ((t176.length : Int) == 1) = false := beq_eq_false_iff_ne.mpr c5
    have c5b1 : ((t176.length : Int) != 1) = true := bne_iff_ne.mpr c5
    simp only [some.injEq, Prod.mk.injEq] at H
    obtain ⟨rfl, rfl⟩ := H
    go_enter func29, ntmps29
    go_wp2_with (first | ((with_reducible refine gate_dst (N := 3) rfl ?_); (try (refine gate_guard (by rfl) ?_; dsimp only)); refine box_event ?hg (N := 3) ?hd (cs := #[.int .u64 a1_0, .int .u64 a1_1]) (t := 24) ?hr ?_; (case hd => rfl); (case hg => rfl); (case hr => first | (go_simp; done) | (go_simp; rfl)); intro gb175 hg w16 hbox hb; have n0_ := ak_ (bt_ (bl_ HB) hb); have n1_ := ak_ (hbox); have n2_ := ak_ ((gs_ hg HB)); have n3_ := ak_ ((gs_ hg HB)); clear HB; have HB := n0_; have BK175 := n1_; have GW175 := n2_; have GE175 := n3_; clear n0_ n1_ n2_ n3_; clear hb hbox hg; have hcz17_0 : w16.cell? ⟨gb175, 0, none⟩ = some (.int .u64 a1_0) := (kc_ BK175.out 0).trans rfl; have hcz17_1 : w16.cell? ⟨gb175, 1, none⟩ = some (.int .u64 a1_1) := (kc_ BK175.out 1).trans rfl; have hfz17_0 := kf_ BK175.out 0; have hfz17_1 := kf_ BK175.out 1) | (go_at_call 11; (with_reducible refine (sub_Leaves.calls k a0 a1_0 a1_1 t176 t179 _ A3.out).mono ?_); rintro e w18 ⟨v177, rfl, ho0, hb⟩; have n0_ := ak_ (Kd.R_lower ho0 (bz_ (by repeat (first | (with_reducible first | exact HB.out | apply ba_ | apply bn_ | apply bd_ | refine below_set ?_ GE175.out) | exact HB.out)))); have n1_ := ak_ (kb_ (g := gb175) (o := .cells #[.int .u64 a1_0, .int .u64 a1_1] 24 (0, 0)) (kl_ BK175) hb); have n2_ := ak_ (bt_ (by repeat (first | (with_reducible first | exact HB.out | apply ba_ | apply bn_ | apply bd_ | refine below_set ?_ GE175.out) | exact HB.out)) hb); clear BK175; clear HB; have HO178 := n0_; have BK175 := n1_; have HB := n2_; clear n0_ n1_ n2_; (try clear hb); (try clear hk); (try clear ho0); obtain ⟨Ao19, co19, eo19⟩ := Kd.R_slice HO178.out; subst eo19))
    repeat (go_quiet (first | ((with_reducible refine gate_dst (N := 3) rfl ?_); (try (refine gate_guard (by rfl) ?_; dsimp only)); refine box_event ?hg (N := 3) ?hd (cs := #[.int .u64 a1_0, .int .u64 a1_1]) (t := 24) ?hr ?_; (case hd => rfl); (case hg => rfl); (case hr => first | (go_simp; done) | (go_simp; rfl)); intro gb175 hg w16 hbox hb; have n0_ := ak_ (bt_ (bl_ HB) hb); have n1_ := ak_ (hbox); have n2_ := ak_ ((gs_ hg HB)); have n3_ := ak_ ((gs_ hg HB)); clear HB; have HB := n0_; have BK175 := n1_; have GW175 := n2_; have GE175 := n3_; clear n0_ n1_ n2_ n3_; clear hb hbox hg; have hcz17_0 : w16.cell? ⟨gb175, 0, none⟩ = some (.int .u64 a1_0) := (kc_ BK175.out 0).trans rfl; have hcz17_1 : w16.cell? ⟨gb175, 1, none⟩ = some (.int .u64 a1_1) := (kc_ BK175.out 1).trans rfl; have hfz17_0 := kf_ BK175.out 0; have hfz17_1 := kf_ BK175.out 1) | (go_at_call 11; (with_reducible refine (sub_Leaves.calls k a0 a1_0 a1_1 t176 t179 _ A3.out).mono ?_); rintro e w18 ⟨v177, rfl, ho0, hb⟩; have n0_ := ak_ (Kd.R_lower ho0 (bz_ (by repeat (first | (with_reducible first | exact HB.out | apply ba_ | apply bn_ | apply bd_ | refine below_set ?_ GE175.out) | exact HB.out)))); have n1_ := ak_ (kb_ (g := gb175) (o := .cells #[.int .u64 a1_0, .int .u64 a1_1] 24 (0, 0)) (kl_ BK175) hb); have n2_ := ak_ (bt_ (by repeat (first | (with_reducible first | exact HB.out | apply ba_ | apply bn_ | apply bd_ | refine below_set ?_ GE175.out) | exact HB.out)) hb); clear BK175; clear HB; have HO178 := n0_; have BK175 := n1_; have HB := n2_; clear n0_ n1_ n2_; (try clear hb); (try clear hk); (try clear ho0); obtain ⟨Ao19, co19, eo19⟩ := Kd.R_slice HO178.out; subst eo19)); try go_wp2_with (first | ((with_reducible refine gate_dst (N := 3) rfl ?_); (try (refine gate_guard (by rfl) ?_; dsimp only)); refine box_event ?hg (N := 3) ?hd (cs := #[.int .u64 a1_0, .int .u64 a1_1]) (t := 24) ?hr ?_; (case hd => rfl); (case hg => rfl); (case hr => first | (go_simp; done) | (go_simp; rfl)); intro gb175 hg w16 hbox hb; have n0_ := ak_ (bt_ (bl_ HB) hb); have n1_ := ak_ (hbox); have n2_ := ak_ ((gs_ hg HB)); have n3_ := ak_ ((gs_ hg HB)); clear HB; have HB := n0_; have BK175 := n1_; have GW175 := n2_; have GE175 := n3_; clear n0_ n1_ n2_ n3_; clear hb hbox hg; have hcz17_0 : w16.cell? ⟨gb175, 0, none⟩ = some (.int .u64 a1_0) := (kc_ BK175.out 0).trans rfl; have hcz17_1 : w16.cell? ⟨gb175, 1, none⟩ = some (.int .u64 a1_1) := (kc_ BK175.out 1).trans rfl; have hfz17_0 := kf_ BK175.out 0; have hfz17_1 := kf_ BK175.out 1) | (go_at_call 11; (with_reducible refine (sub_Leaves.calls k a0 a1_0 a1_1 t176 t179 _ A3.out).mono ?_); rintro e w18 ⟨v177, rfl, ho0, hb⟩; have n0_ := ak_ (Kd.R_lower ho0 (bz_ (by repeat (first | (with_reducible first | exact HB.out | apply ba_ | apply bn_ | apply bd_ | refine below_set ?_ GE175.out) | exact HB.out)))); have n1_ := ak_ (kb_ (g := gb175) (o := .cells #[.int .u64 a1_0, .int .u64 a1_1] 24 (0, 0)) (kl_ BK175) hb); have n2_ := ak_ (bt_ (by repeat (first | (with_reducible first | exact HB.out | apply ba_ | apply bn_ | apply bd_ | refine below_set ?_ GE175.out) | exact HB.out)) hb); clear BK175; clear HB; have HO178 := n0_; have BK175 := n1_; have HB := n2_; clear n0_ n1_ n2_; (try clear hb); (try clear hk); (try clear ho0); obtain ⟨Ao19, co19, eo19⟩ := Kd.R_slice HO178.out; subst eo19)))
    go_ret2
    exact ⟨by first | rfl | (simp <;> rfl) | (simp [*] <;> rfl), by repeat (first | (with_reducible first | exact HB.out | apply ba_ | apply bn_ | apply bd_ | refine below_set ?_ GE175.out) | exact HB.out)⟩
  ·rw [if_neg c4] at H
   have c4b0 : (t179 == 0) = false := beq_eq_false_iff_ne.mpr c4
   have c4b1 : (t179 != 0) = true := bne_iff_ne.mpr c4
   simp only [some.injEq, Prod.mk.injEq] at H
   obtain ⟨rfl, rfl⟩ := H
   go_enter func29, ntmps29
   go_wp2_with (first | ((with_reducible refine gate_dst (N := 3) rfl ?_); (try (refine gate_guard (by rfl) ?_; dsimp only)); refine box_event ?hg (N := 3) ?hd (cs := #[.int .u64 a1_0, .int .u64 a1_1]) (t := 24) ?hr ?_; (case hd => rfl); (case hg => rfl); (case hr => first | (go_simp; done) | (go_simp; rfl)); intro gb175 hg w20 hbox hb; have n0_ := ak_ (bt_ (bl_ HB) hb); have n1_ := ak_ (hbox); have n2_ := ak_ ((gs_ hg HB)); have n3_ := ak_ ((gs_ hg HB)); clear HB; have HB := n0_; have BK175 := n1_; have GW175 := n2_; have GE175 := n3_; clear n0_ n1_ n2_ n3_; clear hb hbox hg; have hcz21_0 : w20.cell? ⟨gb175, 0, none⟩ = some (.int .u64 a1_0) := (kc_ BK175.out 0).trans rfl; have hcz21_1 : w20.cell? ⟨gb175, 1, none⟩ = some (.int .u64 a1_1) := (kc_ BK175.out 1).trans rfl; have hfz21_0 := kf_ BK175.out 0; have hfz21_1 := kf_ BK175.out 1) | (go_at_call 11; (with_reducible refine (sub_Leaves.calls k a0 a1_0 a1_1 t176 t179 _ A3.out).mono ?_); rintro e w22 ⟨v177, rfl, ho0, hb⟩; have n0_ := ak_ (Kd.R_lower ho0 (bz_ (by repeat (first | (with_reducible first | exact HB.out | apply ba_ | apply bn_ | apply bd_ | refine below_set ?_ GE175.out) | exact HB.out)))); have n1_ := ak_ (kb_ (g := gb175) (o := .cells #[.int .u64 a1_0, .int .u64 a1_1] 24 (0, 0)) (kl_ BK175) hb); have n2_ := ak_ (bt_ (by repeat (first | (with_reducible first | exact HB.out | apply ba_ | apply bn_ | apply bd_ | refine below_set ?_ GE175.out) | exact HB.out)) hb); clear BK175; clear HB; have HO178 := n0_; have BK175 := n1_; have HB := n2_; clear n0_ n1_ n2_; (try clear hb); (try clear hk); (try clear ho0)))
   repeat (go_quiet (first | ((with_reducible refine gate_dst (N := 3) rfl ?_); (try (refine gate_guard (by rfl) ?_; dsimp only)); refine box_event ?hg (N := 3) ?hd (cs := #[.int .u64 a1_0, .int .u64 a1_1]) (t := 24) ?hr ?_; (case hd => rfl); (case hg => rfl); (case hr => first | (go_simp; done) | (go_simp; rfl)); intro gb175 hg w20 hbox hb; have n0_ := ak_ (bt_ (bl_ HB) hb); have n1_ := ak_ (hbox); have n2_ := ak_ ((gs_ hg HB)); have n3_ := ak_ ((gs_ hg HB)); clear HB; have HB := n0_; have BK175 := n1_; have GW175 := n2_; have GE175 := n3_; clear n0_ n1_ n2_ n3_; clear hb hbox hg; have hcz21_0 : w20.cell? ⟨gb175, 0, none⟩ = some (.int .u64 a1_0) := (kc_ BK175.out 0).trans rfl; have hcz21_1 : w20.cell? ⟨gb175, 1, none⟩ = some (.int .u64 a1_1) := (kc_ BK175.out 1).trans rfl; have hfz21_0 := kf_ BK175.out 0; have hfz21_1 := kf_ BK175.out 1) | (go_at_call 11; (with_reducible refine (sub_Leaves.calls k a0 a1_0 a1_1 t176 t179 _ A3.out).mono ?_); rintro e w22 ⟨v177, rfl, ho0, hb⟩; have n0_ := ak_ (Kd.R_lower ho0 (bz_ (by repeat (first | (with_reducible first | exact HB.out | apply ba_ | apply bn_ | apply bd_ | refine below_set ?_ GE175.out) | exact HB.out)))); have n1_ := ak_ (kb_ (g := gb175) (o := .cells #[.int .u64 a1_0, .int .u64 a1_1] 24 (0, 0)) (kl_ BK175) hb); have n2_ := ak_ (bt_ (by repeat (first | (with_reducible first | exact HB.out | apply ba_ | apply bn_ | apply bd_ | refine below_set ?_ GE175.out) | exact HB.out)) hb); clear BK175; clear HB; have HO178 := n0_; have BK175 := n1_; have HB := n2_; clear n0_ n1_ n2_; (try clear hb); (try clear hk); (try clear ho0))); try go_wp2_with (first | ((with_reducible refine gate_dst (N := 3) rfl ?_); (try (refine gate_guard (by rfl) ?_; dsimp only)); refine box_event ?hg (N := 3) ?hd (cs := #[.int .u64 a1_0, .int .u64 a1_1]) (t := 24) ?hr ?_; (case hd => rfl); (case hg => rfl); (case hr => first | (go_simp; done) | (go_simp; rfl)); intro gb175 hg w20 hbox hb; have n0_ := ak_ (bt_ (bl_ HB) hb); have n1_ := ak_ (hbox); have n2_ := ak_ ((gs_ hg HB)); have n3_ := ak_ ((gs_ hg HB)); clear HB; have HB := n0_; have BK175 := n1_; have GW175 := n2_; have GE175 := n3_; clear n0_ n1_ n2_ n3_; clear hb hbox hg; have hcz21_0 : w20.cell? ⟨gb175, 0, none⟩ = some (.int .u64 a1_0) := (kc_ BK175.out 0).trans rfl; have hcz21_1 : w20.cell? ⟨gb175, 1, none⟩ = some (.int .u64 a1_1) := (kc_ BK175.out 1).trans rfl; have hfz21_0 := kf_ BK175.out 0; have hfz21_1 := kf_ BK175.out 1) | (go_at_call 11; (with_reducible refine (sub_Leaves.calls k a0 a1_0 a1_1 t176 t179 _ A3.out).mono ?_); rintro e w22 ⟨v177, rfl, ho0, hb⟩; have n0_ := ak_ (Kd.R_lower ho0 (bz_ (by repeat (first | (with_reducible first | exact HB.out | apply ba_ | apply bn_ | apply bd_ | refine below_set ?_ GE175.out) | exact HB.out)))); have n1_ := ak_ (kb_ (g := gb175) (o := .cells #[.int .u64 a1_0, .int .u64 a1_1] 24 (0, 0)) (kl_ BK175) hb); have n2_ := ak_ (bt_ (by repeat (first | (with_reducible first | exact HB.out | apply ba_ | apply bn_ | apply bd_ | refine below_set ?_ GE175.out) | exact HB.out)) hb); clear BK175; clear HB; have HO178 := n0_; have BK175 := n1_; have HB := n2_; clear n0_ n1_ n2_; (try clear hb); (try clear hk); (try clear ho0))))
   go_ret2
   exact ⟨by first | rfl | (simp <;> rfl) | (simp [*] <;> rfl), by repeat (first | (with_reducible first | exact HB.out | apply ba_ | apply bn_ | apply bd_ | refine below_set ?_ GE175.out) | exact HB.out)⟩
def node_Up.f (k : Nat) (a0 : Int) (a1 : Int) (a2 : Int) : Option (Int × Int) := (node_Check.f k a0 a1).bind fun t183 => (if t183 = 0 then (if a2 < 0 then (some (0, 4)) else ((node_depth.f k a1).bind fun t184 => (if a2 > t184 then (some (0, 4)) else ((node_depth.f k a1).bind fun t185 => (if 0 ≤ (wrap64 (t185 - a2)) then (some (shr .u64 a1 (wrap64 (t185 - a2)), 0)) else (none)))))) else (some (0, t183)))
theorem node_Up.mono : ∀ a0 a1 a2 k, LeO (node_Up.f k a0 a1 a2) (node_Up.f (k + 1) a0 a1 a2) := by
  intro a0 a1 a2 k
  unfold node_Up.f
  repeat' first
    | (with_reducible exact node_Check.mono _ _ _)
    | (with_reducible exact node_depth.mono _ _)
    | (with_reducible exact LeO.refl _)
    | (with_reducible exact LeO.none _)
    | (with_reducible refine LeO.ite ?_ ?_)
    | (with_reducible refine LeO.bind ?_ (fun _ => ?_))
    | exact node_Check.mono _ _ _
    | exact node_depth.mono _ _
    | exact LeO.none _
    | refine LeO.ite ?_ ?_
    | refine LeO.bind ?_ (fun _ => ?_)
set_option maxHeartbeats 8000000 in
set_option maxRecDepth 100000 in
theorem node_Up.calls (k : Nat) (a0 : Int) (a1 : Int) (a2 : Int) (r1 : Int) (r2 : Int) (w : World) (h : node_Up.f k a0 a1 a2 = some (r1, r2)) :
   Calls Try.prog 31 #[.int .i64 a0, .int .u64 a1, .int .i64 a2] w fun e w' => e = .returned (.tuple #[.int .u64 r1, .int .i64 r2]) ∧ Drawn0 w w' := by
  have H : ((node_Check.f k a0 a1).bind fun t183 => (if t183 = 0 then (if a2 < 0 then (some (0, 4)) else ((node_depth.f k a1).bind fun t184 => (if a2 > t184 then (some (0, 4)) else ((node_depth.f k a1).bind fun t185 => (if 0 ≤ (wrap64 (t185 - a2)) then (some (shr .u64 a1 (wrap64 (t185 - a2)), 0)) else (none)))))) else (some (0, t183)))) = some (r1, r2) := h
  clear h
  replace H := bind_eq_some_iff.mp H
  obtain ⟨t183, A40, H⟩ := H
  replace H : (if t183 = 0 then (if a2 < 0 then (some (0, 4)) else ((node_depth.f k a1).bind fun t184 => (if a2 > t184 then (some (0, 4)) else ((node_depth.f k a1).bind fun t185 => (if 0 ≤ (wrap64 (t185 - a2)) then (some (shr .u64 a1 (wrap64 (t185 - a2)), 0)) else (none)))))) else (some (0, t183))) = some (r1, r2) := H
  have A4 := ak_ A40
  clear A40
  by_cases c5 : t183 = 0
  ·rw [if_pos c5] at H
   have c5b0 : (t183 == 0) = true := beq_iff_eq.mpr c5
   have c5b1 : (t183 != 0) = false := bne_eq_false_iff_eq.mpr c5
   clear c5
   by_cases c6 : a2 < 0
   ·rw [if_pos c6] at H
    have c6b0 := decide_eq_true c6
    clear c6
    simp only [some.injEq, Prod.mk.injEq] at H
    obtain ⟨rfl, rfl⟩ := H
    go_enter func31, ntmps31
    go_wp2_with (first | ((with_reducible refine gate_callee (f := 33) rfl ?_); refine goesL_ (some 11) rfl rfl func33 (by kernel_rfl) rfl #[.int .i64 a0, .int .u64 a1] rfl (by (try simp only [map_toArray, map_cons, map_nil]); first | done | rfl) ?_; (with_reducible refine (node_Check.calls k a0 a1 t183 _ A4.out).mono ?_); rintro e w' ⟨rfl, ⟨nd, rfl⟩⟩; refine ⟨_, rfl, ?_⟩))
    go_ret2
    exact ⟨by first | rfl | (simp; done) | (simp [*]; done), by repeat (first | exact Drawn0.refl _ | apply Drawn0.step)⟩
   ·rw [if_neg c6] at H
    have c6b0 := decide_eq_false c6
    clear c6
    replace H := bind_eq_some_iff.mp H
    obtain ⟨t184, A70, H⟩ := H
    replace H : (if a2 > t184 then (some (0, 4)) else ((node_depth.f k a1).bind fun t185 => (if 0 ≤ (wrap64 (t185 - a2)) then (some (shr .u64 a1 (wrap64 (t185 - a2)), 0)) else (none)))) = some (r1, r2) := H
    have A7 := ak_ A70
    clear A70
    by_cases c8 : a2 > t184
    ·rw [if_pos c8] at H
     have c8b0 : decide (t184 < a2) = true := decide_eq_true c8
     clear c8
     simp only [some.injEq, Prod.mk.injEq] at H
     obtain ⟨rfl, rfl⟩ := H
     go_enter func31, ntmps31
     go_wp2_with (first | ((with_reducible refine gate_callee (f := 33) rfl ?_); refine goesL_ (some 11) rfl rfl func33 (by kernel_rfl) rfl #[.int .i64 a0, .int .u64 a1] rfl (by (try simp only [map_toArray, map_cons, map_nil]); first | done | rfl) ?_; (with_reducible refine (node_Check.calls k a0 a1 t183 _ A4.out).mono ?_); rintro e w' ⟨rfl, ⟨nd, rfl⟩⟩; refine ⟨_, rfl, ?_⟩) | (go_at_call 61; (with_reducible refine (node_depth.calls k a1 t184 _ A7.out).mono ?_); rintro e w' ⟨rfl, ⟨nd, rfl⟩⟩))
     go_ret2
     exact ⟨by first | rfl | (simp; done) | (simp [*]; done), by repeat (first | exact Drawn0.refl _ | apply Drawn0.step)⟩
    ·rw [if_neg c8] at H
     have c8b0 : decide (t184 < a2) = false := decide_eq_false c8
     clear c8
     replace H := bind_eq_some_iff.mp H
     obtain ⟨t185, A90, H⟩ := H
     replace H : (if 0 ≤ (wrap64 (t185 - a2)) then (some (shr .u64 a1 (wrap64 (t185 - a2)), 0)) else (none)) = some (r1, r2) := H
     have A9 := ak_ A90
     clear A90
     obtain ⟨ji10, hji10⟩ : ∃ j_ : Int, (wrap64 (t185 - a2)) = j_ := ⟨_, rfl⟩
     replace H : (if 0 ≤ (ji10) then (some (shr .u64 a1 (ji10), 0)) else (none)) = some (r1, r2) := by first | (rw [hji10] at H; exact H) | (simp only [hji10] at H ⊢; exact H)
     (try rw [hji10] at A4)
     (try rw [hji10] at A7)
     (try rw [hji10] at A9)
     have hji10w : (IntKind.i64.wrap (t185 - a2)) = ji10 := (i64_w _).trans hji10
     by_cases c11 : 0 ≤ (ji10)
     ·rw [if_pos c11] at H
      have c11b0 := eq_true c11
      have c11b1 := decide_eq_true c11
      clear c11
      obtain ⟨ji12, hji12⟩ : ∃ j_ : Int, (shr .u64 a1 (ji10)) = j_ := ⟨_, rfl⟩
      replace H : (some (ji12, 0)) = some (r1, r2) := by first | (rw [hji12] at H; exact H) | (simp only [hji12] at H ⊢; exact H)
      (try rw [hji12] at A4)
      (try rw [hji12] at A7)
      (try rw [hji12] at A9)
      have hji12_ : (a1 / 2 ^ min (ji10).toNat 64) = ji12 := hji12
      have hji12z : (ji10) ≤ 64 → (a1 / 2 ^ (ji10).toNat) = ji12 := shr_small hji12
      simp only [some.injEq, Prod.mk.injEq] at H
      obtain ⟨rfl, rfl⟩ := H
      go_enter func31, ntmps31
      go_wp2_with (first | ((with_reducible refine gate_callee (f := 33) rfl ?_); refine goesL_ (some 11) rfl rfl func33 (by kernel_rfl) rfl #[.int .i64 a0, .int .u64 a1] rfl (by (try simp only [map_toArray, map_cons, map_nil]); first | done | rfl) ?_; (with_reducible refine (node_Check.calls k a0 a1 t183 _ A4.out).mono ?_); rintro e w' ⟨rfl, ⟨nd, rfl⟩⟩; refine ⟨_, rfl, ?_⟩) | (go_at_call 61; (with_reducible refine (node_depth.calls k a1 t184 _ A7.out).mono ?_); rintro e w' ⟨rfl, ⟨nd, rfl⟩⟩) | ((with_reducible refine gate_callee (f := 61) rfl ?_); refine goesL_ (some 25) rfl rfl func61 (by kernel_rfl) rfl #[.int .u64 a1] rfl (by (try simp only [map_toArray, map_cons, map_nil]); first | done | rfl) ?_; (with_reducible refine (node_depth.calls k a1 t185 _ A9.out).mono ?_); rintro e w' ⟨rfl, ⟨nd, rfl⟩⟩; refine ⟨_, rfl, ?_⟩))
      go_ret2
      exact ⟨by first | rfl | (simp; done) | (simp only [← hji10, ← hji12] <;> (first | rfl | simp)) | (simp [*]; done), by repeat (first | exact Drawn0.refl _ | apply Drawn0.step)⟩
     ·rw [if_neg c11] at H
      exact absurd H (by simp)
  ·rw [if_neg c5] at H
   have c5b0 : (t183 == 0) = false := beq_eq_false_iff_ne.mpr c5
   have c5b1 : (t183 != 0) = true := bne_iff_ne.mpr c5
   simp only [some.injEq, Prod.mk.injEq] at H
   obtain ⟨rfl, rfl⟩ := H
   go_enter func31, ntmps31
   go_wp2_with (first | ((with_reducible refine gate_callee (f := 33) rfl ?_); refine goesL_ (some 11) rfl rfl func33 (by kernel_rfl) rfl #[.int .i64 a0, .int .u64 a1] rfl (by (try simp only [map_toArray, map_cons, map_nil]); first | done | rfl) ?_; (with_reducible refine (node_Check.calls k a0 a1 t183 _ A4.out).mono ?_); rintro e w' ⟨rfl, ⟨nd, rfl⟩⟩; refine ⟨_, rfl, ?_⟩))
   go_ret2
   exact ⟨by first | rfl | (simp; done) | (simp [*]; done), by repeat (first | exact Drawn0.refl _ | apply Drawn0.step)⟩
def trace_Halves.f (k : Nat) (a0 : Int) (a1 : Int) (a2_0 : Int) (a2_1 : Int) : Option ((List (S24)) × Int) := (trace_fits.f k a0 a1 a2_0 a2_1).bind fun t187 => (if t187 = true then ((trace_only.f k a0 a2_0 a2_1).bind fun bt188 => (if bt188.2 = true then (some (([] : List (S24)), 4)) else (if a1 = 1 then (some ((([(⟨IntKind.u64.wrap (a2_0 * 2), 0⟩ : S24), (⟨Go.bits .or .u64 (IntKind.u64.wrap (a2_0 * 2)) 1, 0⟩ : S24)] : List (S24))), 0)) else (if a2_1 = 0 then (some ((([(⟨1, 2⟩ : S24), (⟨1, 3⟩ : S24)] : List (S24))), 0)) else ((node_Depth.f k a0 a2_0).bind fun bt196 => (if bt196.2 = 0 then ((node_Up.f k a0 a2_1 (wrap64 (bt196.1 + 1))).bind fun bt198 => (if bt198.2 = 0 then (if bt198.1 = a2_1 then (some ((([(⟨Go.bits .xor .u64 bt198.1 1, IntKind.u64.wrap ((Go.bits .xor .u64 bt198.1 1) * 2)⟩ : S24), (⟨Go.bits .xor .u64 bt198.1 1, Go.bits .or .u64 (IntKind.u64.wrap ((Go.bits .xor .u64 bt198.1 1) * 2)) 1⟩ : S24)] : List (S24))), 0)) else (some ((([(⟨a2_0, bt198.1⟩ : S24), (⟨bt198.1, a2_1⟩ : S24)] : List (S24))), 0))) else (some (([] : List (S24)), bt198.2)))) else (some (([] : List (S24)), bt196.2)))))))) else (some (([] : List (S24)), 1)))
theorem trace_Halves.mono : ∀ a0 a1 a2 a3 k, LeO (trace_Halves.f k a0 a1 a2 a3) (trace_Halves.f (k + 1) a0 a1 a2 a3) := by
  intro a0 a1 a2 a3 k
  unfold trace_Halves.f
  repeat' first
    | (with_reducible exact node_Depth.mono _ _ _)
    | (with_reducible exact node_Up.mono _ _ _ _)
    | (with_reducible exact trace_fits.mono _ _ _ _ _)
    | (with_reducible exact trace_only.mono _ _ _ _)
    | (with_reducible exact LeO.refl _)
    | (with_reducible exact LeO.none _)
    | (with_reducible refine LeO.ite ?_ ?_)
    | (with_reducible refine LeO.bind ?_ (fun _ => ?_))
    | exact node_Depth.mono _ _ _
    | exact node_Up.mono _ _ _ _
    | exact trace_fits.mono _ _ _ _ _
    | exact trace_only.mono _ _ _ _
    | exact LeO.none _
    | refine LeO.ite ?_ ?_
    | refine LeO.bind ?_ (fun _ => ?_)
set_option maxHeartbeats 8000000 in
set_option maxRecDepth 100000 in
theorem trace_Halves.calls (k : Nat) (a0 : Int) (a1 : Int) (a2_0 : Int) (a2_1 : Int) (r1 : List (S24)) (r2 : Int) (w : World) (h : trace_Halves.f k a0 a1 a2_0 a2_1 = some (r1, r2)) :
   Calls Try.prog 10 #[.int .i64 a0, .int .i64 a1, .agg #[.int .u64 a2_0, .int .u64 a2_1]] w fun e w' => ∃ v0_ : Value, e = .returned (.tuple #[v0_, .int .i64 r2]) ∧ Kd.R k24 24 w' w.heap.size (fun _ => True) v0_ r1 ∧ Below w.heap.size w w' := by
  have hu24 := underlying24
  have HB := ak_ (Below.refl w.heap.size w)
  have H : ((trace_fits.f k a0 a1 a2_0 a2_1).bind fun t187 => (if t187 = true then ((trace_only.f k a0 a2_0 a2_1).bind fun bt188 => (if bt188.2 = true then (some (([] : List (S24)), 4)) else (if a1 = 1 then (some ((([(⟨IntKind.u64.wrap (a2_0 * 2), 0⟩ : S24), (⟨Go.bits .or .u64 (IntKind.u64.wrap (a2_0 * 2)) 1, 0⟩ : S24)] : List (S24))), 0)) else (if a2_1 = 0 then (some ((([(⟨1, 2⟩ : S24), (⟨1, 3⟩ : S24)] : List (S24))), 0)) else ((node_Depth.f k a0 a2_0).bind fun bt196 => (if bt196.2 = 0 then ((node_Up.f k a0 a2_1 (wrap64 (bt196.1 + 1))).bind fun bt198 => (if bt198.2 = 0 then (if bt198.1 = a2_1 then (some ((([(⟨Go.bits .xor .u64 bt198.1 1, IntKind.u64.wrap ((Go.bits .xor .u64 bt198.1 1) * 2)⟩ : S24), (⟨Go.bits .xor .u64 bt198.1 1, Go.bits .or .u64 (IntKind.u64.wrap ((Go.bits .xor .u64 bt198.1 1) * 2)) 1⟩ : S24)] : List (S24))), 0)) else (some ((([(⟨a2_0, bt198.1⟩ : S24), (⟨bt198.1, a2_1⟩ : S24)] : List (S24))), 0))) else (some (([] : List (S24)), bt198.2)))) else (some (([] : List (S24)), bt196.2)))))))) else (some (([] : List (S24)), 1)))) = some (r1, r2) := h
  clear h
  replace H := bind_eq_some_iff.mp H
  obtain ⟨t187, A40, H⟩ := H
  replace H : (if t187 = true then ((trace_only.f k a0 a2_0 a2_1).bind fun bt188 => (if bt188.2 = true then (some (([] : List (S24)), 4)) else (if a1 = 1 then (some ((([(⟨IntKind.u64.wrap (a2_0 * 2), 0⟩ : S24), (⟨Go.bits .or .u64 (IntKind.u64.wrap (a2_0 * 2)) 1, 0⟩ : S24)] : List (S24))), 0)) else (if a2_1 = 0 then (some ((([(⟨1, 2⟩ : S24), (⟨1, 3⟩ : S24)] : List (S24))), 0)) else ((node_Depth.f k a0 a2_0).bind fun bt196 => (if bt196.2 = 0 then ((node_Up.f k a0 a2_1 (wrap64 (bt196.1 + 1))).bind fun bt198 => (if bt198.2 = 0 then (if bt198.1 = a2_1 then (some ((([(⟨Go.bits .xor .u64 bt198.1 1, IntKind.u64.wrap ((Go.bits .xor .u64 bt198.1 1) * 2)⟩ : S24), (⟨Go.bits .xor .u64 bt198.1 1, Go.bits .or .u64 (IntKind.u64.wrap ((Go.bits .xor .u64 bt198.1 1) * 2)) 1⟩ : S24)] : List (S24))), 0)) else (some ((([(⟨a2_0, bt198.1⟩ : S24), (⟨bt198.1, a2_1⟩ : S24)] : List (S24))), 0))) else (some (([] : List (S24)), bt198.2)))) else (some (([] : List (S24)), bt196.2)))))))) else (some (([] : List (S24)), 1))) = some (r1, r2) := H
  have A4 := ak_ A40
  clear A40
  by_cases c5 : t187 = true
  ·subst c5
   have H1 : ((trace_only.f k a0 a2_0 a2_1).bind fun bt188 => (if bt188.2 = true then (some (([] : List (S24)), 4)) else (if a1 = 1 then (some ((([(⟨IntKind.u64.wrap (a2_0 * 2), 0⟩ : S24), (⟨Go.bits .or .u64 (IntKind.u64.wrap (a2_0 * 2)) 1, 0⟩ : S24)] : List (S24))), 0)) else (if a2_1 = 0 then (some ((([(⟨1, 2⟩ : S24), (⟨1, 3⟩ : S24)] : List (S24))), 0)) else ((node_Depth.f k a0 a2_0).bind fun bt196 => (if bt196.2 = 0 then ((node_Up.f k a0 a2_1 (wrap64 (bt196.1 + 1))).bind fun bt198 => (if bt198.2 = 0 then (if bt198.1 = a2_1 then (some ((([(⟨Go.bits .xor .u64 bt198.1 1, IntKind.u64.wrap ((Go.bits .xor .u64 bt198.1 1) * 2)⟩ : S24), (⟨Go.bits .xor .u64 bt198.1 1, Go.bits .or .u64 (IntKind.u64.wrap ((Go.bits .xor .u64 bt198.1 1) * 2)) 1⟩ : S24)] : List (S24))), 0)) else (some ((([(⟨a2_0, bt198.1⟩ : S24), (⟨bt198.1, a2_1⟩ : S24)] : List (S24))), 0))) else (some (([] : List (S24)), bt198.2)))) else (some (([] : List (S24)), bt196.2)))))))) = some (r1, r2) := by rw [if_pos rfl] at H; exact H
   clear H
   have H := H1
   clear H1
   replace H := bind_eq_some_iff.mp H
   obtain ⟨⟨t188, t189⟩, A60, H⟩ := H
   replace H : (if t189 = true then (some (([] : List (S24)), 4)) else (if a1 = 1 then (some ((([(⟨IntKind.u64.wrap (a2_0 * 2), 0⟩ : S24), (⟨Go.bits .or .u64 (IntKind.u64.wrap (a2_0 * 2)) 1, 0⟩ : S24)] : List (S24))), 0)) else (if a2_1 = 0 then (some ((([(⟨1, 2⟩ : S24), (⟨1, 3⟩ : S24)] : List (S24))), 0)) else ((node_Depth.f k a0 a2_0).bind fun bt196 => (if bt196.2 = 0 then ((node_Up.f k a0 a2_1 (wrap64 (bt196.1 + 1))).bind fun bt198 => (if bt198.2 = 0 then (if bt198.1 = a2_1 then (some ((([(⟨Go.bits .xor .u64 bt198.1 1, IntKind.u64.wrap ((Go.bits .xor .u64 bt198.1 1) * 2)⟩ : S24), (⟨Go.bits .xor .u64 bt198.1 1, Go.bits .or .u64 (IntKind.u64.wrap ((Go.bits .xor .u64 bt198.1 1) * 2)) 1⟩ : S24)] : List (S24))), 0)) else (some ((([(⟨a2_0, bt198.1⟩ : S24), (⟨bt198.1, a2_1⟩ : S24)] : List (S24))), 0))) else (some (([] : List (S24)), bt198.2)))) else (some (([] : List (S24)), bt196.2))))))) = some (r1, r2) := H
   have A6 := ak_ A60
   clear A60
   by_cases c7 : t189 = true
   ·subst c7
    have H1 : (some (([] : List (S24)), 4)) = some (r1, r2) := by rw [if_pos rfl] at H; exact H
    clear H
    have H := H1
    clear H1
    simp only [some.injEq, Prod.mk.injEq] at H
    obtain ⟨rfl, rfl⟩ := H
    go_enter func10, ntmps10
    go_wp2_with (first | ((with_reducible refine gate_dst (N := 5) rfl ?_); refine box_event ?hg (N := 5) ?hd (cs := #[.int .u64 a2_0, .int .u64 a2_1]) (t := 24) ?hr ?_; (case hd => rfl); (case hg => rfl); (case hr => first | (go_simp; done) | (go_simp; rfl)); intro gb186 hg w8 hbox hb; have n0_ := ak_ (bt_ (bl_ HB) hb); have n1_ := ak_ (hbox); have n2_ := ak_ ((gs_ hg HB)); have n3_ := ak_ ((gs_ hg HB)); clear HB; have HB := n0_; have BK186 := n1_; have GW186 := n2_; have GE186 := n3_; clear n0_ n1_ n2_ n3_; clear hb hbox hg; have hcz9_0 : w8.cell? ⟨gb186, 0, none⟩ = some (.int .u64 a2_0) := (kc_ BK186.out 0).trans rfl; have hcz9_1 : w8.cell? ⟨gb186, 1, none⟩ = some (.int .u64 a2_1) := (kc_ BK186.out 1).trans rfl; have hfz9_0 := kf_ BK186.out 0; have hfz9_1 := kf_ BK186.out 1) | ((with_reducible refine gate_callee (f := 28) rfl ?_); refine goesL_ (some 17) rfl rfl func28 (by kernel_rfl) rfl #[.int .i64 a0, .int .i64 a1, .agg #[.int .u64 a2_0, .int .u64 a2_1]] rfl (by (try simp only [map_toArray, map_cons, map_nil]); first | done | rfl) ?_; (with_reducible refine (trace_fits.calls k a0 a1 a2_0 a2_1 true _ A4.out).mono ?_); rintro e w10 ⟨rfl, hb⟩; refine ⟨_, rfl, ?_⟩; have n0_ := ak_ (kb_ (g := gb186) (o := .cells #[.int .u64 a2_0, .int .u64 a2_1] 24 (0, 0)) (kl_ BK186) hb); have n1_ := ak_ (bt_ (by repeat (first | (with_reducible first | exact HB.out | apply ba_ | apply bn_ | apply bd_ | refine below_set ?_ GE186.out) | exact HB.out)) hb); clear BK186; clear HB; have BK186 := n0_; have HB := n1_; clear n0_ n1_; (try clear hb); (try clear hk); have hcz11_0 : w10.cell? ⟨gb186, 0, none⟩ = some (.int .u64 a2_0) := (kc_ BK186.out 0).trans rfl; have hcz11_1 : w10.cell? ⟨gb186, 1, none⟩ = some (.int .u64 a2_1) := (kc_ BK186.out 1).trans rfl; have hfz11_0 := kf_ BK186.out 0; have hfz11_1 := kf_ BK186.out 1) | ((with_reducible refine gate_callee (f := 29) rfl ?_); refine goesL_ (some 22) rfl rfl func29 (by kernel_rfl) rfl #[.int .i64 a0, .agg #[.int .u64 a2_0, .int .u64 a2_1]] rfl (by (try simp only [map_toArray, map_cons, map_nil]); first | done | rfl) ?_; (with_reducible refine (trace_only.calls k a0 a2_0 a2_1 t188 true _ A6.out).mono ?_); rintro e w12 ⟨rfl, hb⟩; refine ⟨_, rfl, ?_⟩; have n0_ := ak_ (kb_ (g := gb186) (o := .cells #[.int .u64 a2_0, .int .u64 a2_1] 24 (0, 0)) (kl_ BK186) hb); have n1_ := ak_ (bt_ (by repeat (first | (with_reducible first | exact HB.out | apply ba_ | apply bn_ | apply bd_ | refine below_set ?_ GE186.out) | exact HB.out)) hb); clear BK186; clear HB; have BK186 := n0_; have HB := n1_; clear n0_ n1_; (try clear hb); (try clear hk)))
    go_ret2
    exact ⟨_, by first | rfl | (simp <;> rfl) | (simp [*] <;> rfl), by first | exact Kd.R_nil _ _ _ _ _ | exact Kd.N_nil _ _ _ _ _ | exact Kd.V_nil _ _ _ _ _ | exact Kd.Q_nil _ _ _ _ _ | exact Kd.S_nil _ _ _ _ _, by repeat (first | (with_reducible first | exact HB.out | apply ba_ | apply bn_ | apply bd_ | refine below_set ?_ GE186.out) | exact HB.out)⟩
   ·replace c7 := Bool.eq_false_iff.mpr c7
    subst c7
    have H1 : (if a1 = 1 then (some ((([(⟨IntKind.u64.wrap (a2_0 * 2), 0⟩ : S24), (⟨Go.bits .or .u64 (IntKind.u64.wrap (a2_0 * 2)) 1, 0⟩ : S24)] : List (S24))), 0)) else (if a2_1 = 0 then (some ((([(⟨1, 2⟩ : S24), (⟨1, 3⟩ : S24)] : List (S24))), 0)) else ((node_Depth.f k a0 a2_0).bind fun bt196 => (if bt196.2 = 0 then ((node_Up.f k a0 a2_1 (wrap64 (bt196.1 + 1))).bind fun bt198 => (if bt198.2 = 0 then (if bt198.1 = a2_1 then (some ((([(⟨Go.bits .xor .u64 bt198.1 1, IntKind.u64.wrap ((Go.bits .xor .u64 bt198.1 1) * 2)⟩ : S24), (⟨Go.bits .xor .u64 bt198.1 1, Go.bits .or .u64 (IntKind.u64.wrap ((Go.bits .xor .u64 bt198.1 1) * 2)) 1⟩ : S24)] : List (S24))), 0)) else (some ((([(⟨a2_0, bt198.1⟩ : S24), (⟨bt198.1, a2_1⟩ : S24)] : List (S24))), 0))) else (some (([] : List (S24)), bt198.2)))) else (some (([] : List (S24)), bt196.2)))))) = some (r1, r2) := by rw [if_neg (show ¬ (false = true) by decide)] at H; exact H
    clear H
    have H := H1
    clear H1
    by_cases c13 : a1 = 1
    ·rw [if_pos c13] at H
     have c13b0 : (a1 == 1) = true := beq_iff_eq.mpr c13
     have c13b1 : (a1 != 1) = false := bne_eq_false_iff_eq.mpr c13
     clear c13
     obtain ⟨y190, hy190⟩ : ∃ y_ : List (S24), y_ = (([(⟨IntKind.u64.wrap (a2_0 * 2), 0⟩ : S24), (⟨Go.bits .or .u64 (IntKind.u64.wrap (a2_0 * 2)) 1, 0⟩ : S24)] : List (S24))) := ⟨_, rfl⟩
     replace H : (some (y190, 0)) = some (r1, r2) := by first | (rw [hy190]; with_reducible exact H) | (have H2_ := (Option.bind_some _ _).symm.trans H; rw [hy190]; with_reducible exact H2_) | (have H2_ := (Option.bind_some _ _).symm.trans H; with_reducible exact H2_) | with_reducible exact H | (rw [hy190]; exact H) | exact H
     have Ny190 := ak_ hy190
     clear hy190
     simp only [some.injEq, Prod.mk.injEq] at H
     obtain ⟨rfl, rfl⟩ := H
     go_enter func10, ntmps10
     go_wp2_with (first | ((with_reducible refine gate_dst (N := 5) rfl ?_); refine box_event ?hg (N := 5) ?hd (cs := #[.int .u64 a2_0, .int .u64 a2_1]) (t := 24) ?hr ?_; (case hd => rfl); (case hg => rfl); (case hr => first | (go_simp; done) | (go_simp; rfl)); intro gb186 hg w14 hbox hb; have n0_ := ak_ (bt_ (bl_ HB) hb); have n1_ := ak_ (hbox); have n2_ := ak_ ((gs_ hg HB)); have n3_ := ak_ ((gs_ hg HB)); clear HB; have HB := n0_; have BK186 := n1_; have GW186 := n2_; have GE186 := n3_; clear n0_ n1_ n2_ n3_; clear hb hbox hg; have hcz15_0 : w14.cell? ⟨gb186, 0, none⟩ = some (.int .u64 a2_0) := (kc_ BK186.out 0).trans rfl; have hcz15_1 : w14.cell? ⟨gb186, 1, none⟩ = some (.int .u64 a2_1) := (kc_ BK186.out 1).trans rfl; have hfz15_0 := kf_ BK186.out 0; have hfz15_1 := kf_ BK186.out 1) | ((with_reducible refine gate_callee (f := 28) rfl ?_); refine goesL_ (some 17) rfl rfl func28 (by kernel_rfl) rfl #[.int .i64 a0, .int .i64 a1, .agg #[.int .u64 a2_0, .int .u64 a2_1]] rfl (by (try simp only [map_toArray, map_cons, map_nil]); first | done | rfl) ?_; (with_reducible refine (trace_fits.calls k a0 a1 a2_0 a2_1 true _ A4.out).mono ?_); rintro e w16 ⟨rfl, hb⟩; refine ⟨_, rfl, ?_⟩; have n0_ := ak_ (kb_ (g := gb186) (o := .cells #[.int .u64 a2_0, .int .u64 a2_1] 24 (0, 0)) (kl_ BK186) hb); have n1_ := ak_ (bt_ (by repeat (first | (with_reducible first | exact HB.out | apply ba_ | apply bn_ | apply bd_ | refine below_set ?_ GE186.out) | exact HB.out)) hb); clear BK186; clear HB; have BK186 := n0_; have HB := n1_; clear n0_ n1_; (try clear hb); (try clear hk); have hcz17_0 : w16.cell? ⟨gb186, 0, none⟩ = some (.int .u64 a2_0) := (kc_ BK186.out 0).trans rfl; have hcz17_1 : w16.cell? ⟨gb186, 1, none⟩ = some (.int .u64 a2_1) := (kc_ BK186.out 1).trans rfl; have hfz17_0 := kf_ BK186.out 0; have hfz17_1 := kf_ BK186.out 1) | ((with_reducible refine gate_callee (f := 29) rfl ?_); refine goesL_ (some 22) rfl rfl func29 (by kernel_rfl) rfl #[.int .i64 a0, .agg #[.int .u64 a2_0, .int .u64 a2_1]] rfl (by (try simp only [map_toArray, map_cons, map_nil]); first | done | rfl) ?_; (with_reducible refine (trace_only.calls k a0 a2_0 a2_1 t188 false _ A6.out).mono ?_); rintro e w18 ⟨rfl, hb⟩; refine ⟨_, rfl, ?_⟩; have n0_ := ak_ (kb_ (g := gb186) (o := .cells #[.int .u64 a2_0, .int .u64 a2_1] 24 (0, 0)) (kl_ BK186) hb); have n1_ := ak_ (bt_ (by repeat (first | (with_reducible first | exact HB.out | apply ba_ | apply bn_ | apply bd_ | refine below_set ?_ GE186.out) | exact HB.out)) hb); clear BK186; clear HB; have BK186 := n0_; have HB := n1_; clear n0_ n1_; (try clear hb); (try clear hk); have hcz19_0 : w18.cell? ⟨gb186, 0, none⟩ = some (.int .u64 a2_0) := (kc_ BK186.out 0).trans rfl; have hcz19_1 : w18.cell? ⟨gb186, 1, none⟩ = some (.int .u64 a2_1) := (kc_ BK186.out 1).trans rfl; have hfz19_0 := kf_ BK186.out 0; have hfz19_1 := kf_ BK186.out 1) | ((with_reducible refine gate_dst (N := 37) rfl ?_); refine Kd.R_lit k24 _ 24 ?hg (N := 37) ?hd (xs := ([(⟨IntKind.u64.wrap (a2_0 * 2), 0⟩ : S24), (⟨Go.bits .or .u64 (IntKind.u64.wrap (a2_0 * 2)) 1, 0⟩ : S24)] : List (S24))) (inner := [.int .u64 (IntKind.u64.wrap (a2_0 * 2)), .int .u64 0, .int .u64 (Go.bits .or .u64 (IntKind.u64.wrap (a2_0 * 2)) 1), .int .u64 0]) (ok := fun _ => True) (okp := fun _ => True) ?hr ?hp (fun _ hk => hk) trivial (Below.refl _ _) (Nat.le_refl _) (by simp) ?_; (case hd => rfl); (case hg => rfl); (case hr => first | (go_simp; done) | (go_simp; rfl)); (case hp => exact (Reps.c2 (show Kd.M k24 _ _ _ (⟨IntKind.u64.wrap (a2_0 * 2), 0⟩ : S24) [.int .u64 (IntKind.u64.wrap (a2_0 * 2)), .int .u64 0] from (k24_mkM _ _ _ (⟨IntKind.u64.wrap (a2_0 * 2), 0⟩ : S24) )) (Reps.c2 (show Kd.M k24 _ _ _ (⟨Go.bits .or .u64 (IntKind.u64.wrap (a2_0 * 2)) 1, 0⟩ : S24) [.int .u64 (Go.bits .or .u64 (IntKind.u64.wrap (a2_0 * 2)) 1), .int .u64 0] from (k24_mkM _ _ _ (⟨Go.bits .or .u64 (IntKind.u64.wrap (a2_0 * 2)) 1, 0⟩ : S24) )) (Reps.none _ _)))); intro v191 w20 ho21 hb hg_ hnew_; clear hg_ hnew_; (first | rw [← Ny190.out] at ho21 | (simp only [Int.reduceToNat] at ho21; rw [← Ny190.out] at ho21)); have n0_ := ak_ (Kd.R_lower (Kd.R_newB ho21 (g := gb186) (o := .cells #[.int .u64 a2_0, .int .u64 a2_1] 24 (0, 0)) (kl_ BK186)) (bz_ (by repeat (first | (with_reducible first | exact HB.out | apply ba_ | apply bn_ | apply bd_ | refine below_set ?_ GE186.out) | exact HB.out)))); have n1_ := ak_ (kb_ (g := gb186) (o := .cells #[.int .u64 a2_0, .int .u64 a2_1] 24 (0, 0)) (kl_ BK186) hb); have n2_ := ak_ (bt_ (by repeat (first | (with_reducible first | exact HB.out | apply ba_ | apply bn_ | apply bd_ | refine below_set ?_ GE186.out) | exact HB.out)) hb); clear BK186; clear HB; have HO192 := n0_; have BK186 := n1_; have HB := n2_; clear n0_ n1_ n2_; clear hb ho21))
     go_ret2
     exact ⟨_, by first | rfl | (simp <;> rfl) | (simp [*] <;> rfl), by (with_reducible repeat (first | apply Kd.R_alloc | apply Kd.R_drewN | apply Kd.R_drew)); exact Kd.R_mono HO192.out (fun _ hk => trivial), by repeat (first | (with_reducible first | exact HB.out | apply ba_ | apply bn_ | apply bd_ | refine below_set ?_ GE186.out) | exact HB.out)⟩
    ·rw [if_neg c13] at H
     have c13b0 : (a1 == 1) = false := beq_eq_false_iff_ne.mpr c13
     have c13b1 : (a1 != 1) = true := bne_iff_ne.mpr c13
     by_cases c22 : a2_1 = 0
     ·rw [if_pos c22] at H
      have c22b0 : (a2_1 == 0) = true := beq_iff_eq.mpr c22
      have c22b1 : (a2_1 != 0) = false := bne_eq_false_iff_eq.mpr c22
      clear c22
      obtain ⟨y193, hy193⟩ : ∃ y_ : List (S24), y_ = (([(⟨1, 2⟩ : S24), (⟨1, 3⟩ : S24)] : List (S24))) := ⟨_, rfl⟩
      replace H : (some (y193, 0)) = some (r1, r2) := by first | (rw [hy193]; with_reducible exact H) | (have H2_ := (Option.bind_some _ _).symm.trans H; rw [hy193]; with_reducible exact H2_) | (have H2_ := (Option.bind_some _ _).symm.trans H; with_reducible exact H2_) | with_reducible exact H | (rw [hy193]; exact H) | exact H
      have Ny193 := ak_ hy193
      clear hy193
      simp only [some.injEq, Prod.mk.injEq] at H
      obtain ⟨rfl, rfl⟩ := H
      go_enter func10, ntmps10
      go_wp2_with (first | ((with_reducible refine gate_dst (N := 5) rfl ?_); refine box_event ?hg (N := 5) ?hd (cs := #[.int .u64 a2_0, .int .u64 a2_1]) (t := 24) ?hr ?_; (case hd => rfl); (case hg => rfl); (case hr => first | (go_simp; done) | (go_simp; rfl)); intro gb186 hg w23 hbox hb; have n0_ := ak_ (bt_ (bl_ HB) hb); have n1_ := ak_ (hbox); have n2_ := ak_ ((gs_ hg HB)); have n3_ := ak_ ((gs_ hg HB)); clear HB; have HB := n0_; have BK186 := n1_; have GW186 := n2_; have GE186 := n3_; clear n0_ n1_ n2_ n3_; clear hb hbox hg; have hcz24_0 : w23.cell? ⟨gb186, 0, none⟩ = some (.int .u64 a2_0) := (kc_ BK186.out 0).trans rfl; have hcz24_1 : w23.cell? ⟨gb186, 1, none⟩ = some (.int .u64 a2_1) := (kc_ BK186.out 1).trans rfl; have hfz24_0 := kf_ BK186.out 0; have hfz24_1 := kf_ BK186.out 1) | ((with_reducible refine gate_callee (f := 28) rfl ?_); refine goesL_ (some 17) rfl rfl func28 (by kernel_rfl) rfl #[.int .i64 a0, .int .i64 a1, .agg #[.int .u64 a2_0, .int .u64 a2_1]] rfl (by (try simp only [map_toArray, map_cons, map_nil]); first | done | rfl) ?_; (with_reducible refine (trace_fits.calls k a0 a1 a2_0 a2_1 true _ A4.out).mono ?_); rintro e w25 ⟨rfl, hb⟩; refine ⟨_, rfl, ?_⟩; have n0_ := ak_ (kb_ (g := gb186) (o := .cells #[.int .u64 a2_0, .int .u64 a2_1] 24 (0, 0)) (kl_ BK186) hb); have n1_ := ak_ (bt_ (by repeat (first | (with_reducible first | exact HB.out | apply ba_ | apply bn_ | apply bd_ | refine below_set ?_ GE186.out) | exact HB.out)) hb); clear BK186; clear HB; have BK186 := n0_; have HB := n1_; clear n0_ n1_; (try clear hb); (try clear hk); have hcz26_0 : w25.cell? ⟨gb186, 0, none⟩ = some (.int .u64 a2_0) := (kc_ BK186.out 0).trans rfl; have hcz26_1 : w25.cell? ⟨gb186, 1, none⟩ = some (.int .u64 a2_1) := (kc_ BK186.out 1).trans rfl; have hfz26_0 := kf_ BK186.out 0; have hfz26_1 := kf_ BK186.out 1) | ((with_reducible refine gate_callee (f := 29) rfl ?_); refine goesL_ (some 22) rfl rfl func29 (by kernel_rfl) rfl #[.int .i64 a0, .agg #[.int .u64 a2_0, .int .u64 a2_1]] rfl (by (try simp only [map_toArray, map_cons, map_nil]); first | done | rfl) ?_; (with_reducible refine (trace_only.calls k a0 a2_0 a2_1 t188 false _ A6.out).mono ?_); rintro e w27 ⟨rfl, hb⟩; refine ⟨_, rfl, ?_⟩; have n0_ := ak_ (kb_ (g := gb186) (o := .cells #[.int .u64 a2_0, .int .u64 a2_1] 24 (0, 0)) (kl_ BK186) hb); have n1_ := ak_ (bt_ (by repeat (first | (with_reducible first | exact HB.out | apply ba_ | apply bn_ | apply bd_ | refine below_set ?_ GE186.out) | exact HB.out)) hb); clear BK186; clear HB; have BK186 := n0_; have HB := n1_; clear n0_ n1_; (try clear hb); (try clear hk); have hcz28_0 : w27.cell? ⟨gb186, 0, none⟩ = some (.int .u64 a2_0) := (kc_ BK186.out 0).trans rfl; have hcz28_1 : w27.cell? ⟨gb186, 1, none⟩ = some (.int .u64 a2_1) := (kc_ BK186.out 1).trans rfl; have hfz28_0 := kf_ BK186.out 0; have hfz28_1 := kf_ BK186.out 1) | ((with_reducible refine gate_dst (N := 43) rfl ?_); refine Kd.R_lit k24 _ 24 ?hg (N := 43) ?hd (xs := ([(⟨1, 2⟩ : S24), (⟨1, 3⟩ : S24)] : List (S24))) (inner := [.int .u64 1, .int .u64 2, .int .u64 1, .int .u64 3]) (ok := fun _ => True) (okp := fun _ => True) ?hr ?hp (fun _ hk => hk) trivial (Below.refl _ _) (Nat.le_refl _) (by simp) ?_; (case hd => rfl); (case hg => rfl); (case hr => first | (go_simp; done) | (go_simp; rfl)); (case hp => exact (Reps.c2 (show Kd.M k24 _ _ _ (⟨1, 2⟩ : S24) [.int .u64 1, .int .u64 2] from (k24_mkM _ _ _ (⟨1, 2⟩ : S24) )) (Reps.c2 (show Kd.M k24 _ _ _ (⟨1, 3⟩ : S24) [.int .u64 1, .int .u64 3] from (k24_mkM _ _ _ (⟨1, 3⟩ : S24) )) (Reps.none _ _)))); intro v194 w29 ho30 hb hg_ hnew_; clear hg_ hnew_; (first | rw [← Ny193.out] at ho30 | (simp only [Int.reduceToNat] at ho30; rw [← Ny193.out] at ho30)); have n0_ := ak_ (Kd.R_lower (Kd.R_newB ho30 (g := gb186) (o := .cells #[.int .u64 a2_0, .int .u64 a2_1] 24 (0, 0)) (kl_ BK186)) (bz_ (by repeat (first | (with_reducible first | exact HB.out | apply ba_ | apply bn_ | apply bd_ | refine below_set ?_ GE186.out) | exact HB.out)))); have n1_ := ak_ (kb_ (g := gb186) (o := .cells #[.int .u64 a2_0, .int .u64 a2_1] 24 (0, 0)) (kl_ BK186) hb); have n2_ := ak_ (bt_ (by repeat (first | (with_reducible first | exact HB.out | apply ba_ | apply bn_ | apply bd_ | refine below_set ?_ GE186.out) | exact HB.out)) hb); clear BK186; clear HB; have HO195 := n0_; have BK186 := n1_; have HB := n2_; clear n0_ n1_ n2_; clear hb ho30))
      go_ret2
      exact ⟨_, by first | rfl | (simp <;> rfl) | (simp [*] <;> rfl), by (with_reducible repeat (first | apply Kd.R_alloc | apply Kd.R_drewN | apply Kd.R_drew)); exact Kd.R_mono HO195.out (fun _ hk => trivial), by repeat (first | (with_reducible first | exact HB.out | apply ba_ | apply bn_ | apply bd_ | refine below_set ?_ GE186.out) | exact HB.out)⟩
     ·rw [if_neg c22] at H
      have c22b0 : (a2_1 == 0) = false := beq_eq_false_iff_ne.mpr c22
      have c22b1 : (a2_1 != 0) = true := bne_iff_ne.mpr c22
      replace H := bind_eq_some_iff.mp H
      obtain ⟨⟨t196, t197⟩, A310, H⟩ := H
      replace H : (if t197 = 0 then ((node_Up.f k a0 a2_1 (wrap64 (t196 + 1))).bind fun bt198 => (if bt198.2 = 0 then (if bt198.1 = a2_1 then (some ((([(⟨Go.bits .xor .u64 bt198.1 1, IntKind.u64.wrap ((Go.bits .xor .u64 bt198.1 1) * 2)⟩ : S24), (⟨Go.bits .xor .u64 bt198.1 1, Go.bits .or .u64 (IntKind.u64.wrap ((Go.bits .xor .u64 bt198.1 1) * 2)) 1⟩ : S24)] : List (S24))), 0)) else (some ((([(⟨a2_0, bt198.1⟩ : S24), (⟨bt198.1, a2_1⟩ : S24)] : List (S24))), 0))) else (some (([] : List (S24)), bt198.2)))) else (some (([] : List (S24)), t197))) = some (r1, r2) := H
      have A31 := ak_ A310
      clear A310
      by_cases c32 : t197 = 0
      ·rw [if_pos c32] at H
       have c32b0 : (t197 == 0) = true := beq_iff_eq.mpr c32
       have c32b1 : (t197 != 0) = false := bne_eq_false_iff_eq.mpr c32
       clear c32
       replace H := bind_eq_some_iff.mp H
       obtain ⟨⟨t198, t199⟩, A330, H⟩ := H
       replace H : (if t199 = 0 then (if t198 = a2_1 then (some ((([(⟨Go.bits .xor .u64 t198 1, IntKind.u64.wrap ((Go.bits .xor .u64 t198 1) * 2)⟩ : S24), (⟨Go.bits .xor .u64 t198 1, Go.bits .or .u64 (IntKind.u64.wrap ((Go.bits .xor .u64 t198 1) * 2)) 1⟩ : S24)] : List (S24))), 0)) else (some ((([(⟨a2_0, t198⟩ : S24), (⟨t198, a2_1⟩ : S24)] : List (S24))), 0))) else (some (([] : List (S24)), t199))) = some (r1, r2) := H
       have A33 := ak_ A330
       clear A330
       by_cases c34 : t199 = 0
       ·rw [if_pos c34] at H
        have c34b0 : (t199 == 0) = true := beq_iff_eq.mpr c34
        have c34b1 : (t199 != 0) = false := bne_eq_false_iff_eq.mpr c34
        clear c34
        by_cases c35 : t198 = a2_1
        ·rw [if_pos c35] at H
         have c35b0 : (t198 == a2_1) = true := beq_iff_eq.mpr c35
         have c35b1 : (t198 != a2_1) = false := bne_eq_false_iff_eq.mpr c35
         clear c35
         obtain ⟨y200, hy200⟩ : ∃ y_ : List (S24), y_ = (([(⟨Go.bits .xor .u64 t198 1, IntKind.u64.wrap ((Go.bits .xor .u64 t198 1) * 2)⟩ : S24), (⟨Go.bits .xor .u64 t198 1, Go.bits .or .u64 (IntKind.u64.wrap ((Go.bits .xor .u64 t198 1) * 2)) 1⟩ : S24)] : List (S24))) := ⟨_, rfl⟩
         replace H : (some (y200, 0)) = some (r1, r2) := by first | (rw [hy200]; with_reducible exact H) | (have H2_ := (Option.bind_some _ _).symm.trans H; rw [hy200]; with_reducible exact H2_) | (have H2_ := (Option.bind_some _ _).symm.trans H; with_reducible exact H2_) | with_reducible exact H | (rw [hy200]; exact H) | exact H
         have Ny200 := ak_ hy200
         clear hy200
         simp only [some.injEq, Prod.mk.injEq] at H
         obtain ⟨rfl, rfl⟩ := H
         go_enter func10, ntmps10
         go_wp2_with (first | ((with_reducible refine gate_dst (N := 5) rfl ?_); refine box_event ?hg (N := 5) ?hd (cs := #[.int .u64 a2_0, .int .u64 a2_1]) (t := 24) ?hr ?_; (case hd => rfl); (case hg => rfl); (case hr => first | (go_simp; done) | (go_simp; rfl)); intro gb186 hg w36 hbox hb; have n0_ := ak_ (bt_ (bl_ HB) hb); have n1_ := ak_ (hbox); have n2_ := ak_ ((gs_ hg HB)); have n3_ := ak_ ((gs_ hg HB)); clear HB; have HB := n0_; have BK186 := n1_; have GW186 := n2_; have GE186 := n3_; clear n0_ n1_ n2_ n3_; clear hb hbox hg; have hcz37_0 : w36.cell? ⟨gb186, 0, none⟩ = some (.int .u64 a2_0) := (kc_ BK186.out 0).trans rfl; have hcz37_1 : w36.cell? ⟨gb186, 1, none⟩ = some (.int .u64 a2_1) := (kc_ BK186.out 1).trans rfl; have hfz37_0 := kf_ BK186.out 0; have hfz37_1 := kf_ BK186.out 1) | ((with_reducible refine gate_callee (f := 28) rfl ?_); refine goesL_ (some 17) rfl rfl func28 (by kernel_rfl) rfl #[.int .i64 a0, .int .i64 a1, .agg #[.int .u64 a2_0, .int .u64 a2_1]] rfl (by (try simp only [map_toArray, map_cons, map_nil]); first | done | rfl) ?_; (with_reducible refine (trace_fits.calls k a0 a1 a2_0 a2_1 true _ A4.out).mono ?_); rintro e w38 ⟨rfl, hb⟩; refine ⟨_, rfl, ?_⟩; have n0_ := ak_ (kb_ (g := gb186) (o := .cells #[.int .u64 a2_0, .int .u64 a2_1] 24 (0, 0)) (kl_ BK186) hb); have n1_ := ak_ (bt_ (by repeat (first | (with_reducible first | exact HB.out | apply ba_ | apply bn_ | apply bd_ | refine below_set ?_ GE186.out) | exact HB.out)) hb); clear BK186; clear HB; have BK186 := n0_; have HB := n1_; clear n0_ n1_; (try clear hb); (try clear hk); have hcz39_0 : w38.cell? ⟨gb186, 0, none⟩ = some (.int .u64 a2_0) := (kc_ BK186.out 0).trans rfl; have hcz39_1 : w38.cell? ⟨gb186, 1, none⟩ = some (.int .u64 a2_1) := (kc_ BK186.out 1).trans rfl; have hfz39_0 := kf_ BK186.out 0; have hfz39_1 := kf_ BK186.out 1) | ((with_reducible refine gate_callee (f := 29) rfl ?_); refine goesL_ (some 22) rfl rfl func29 (by kernel_rfl) rfl #[.int .i64 a0, .agg #[.int .u64 a2_0, .int .u64 a2_1]] rfl (by (try simp only [map_toArray, map_cons, map_nil]); first | done | rfl) ?_; (with_reducible refine (trace_only.calls k a0 a2_0 a2_1 t188 false _ A6.out).mono ?_); rintro e w40 ⟨rfl, hb⟩; refine ⟨_, rfl, ?_⟩; have n0_ := ak_ (kb_ (g := gb186) (o := .cells #[.int .u64 a2_0, .int .u64 a2_1] 24 (0, 0)) (kl_ BK186) hb); have n1_ := ak_ (bt_ (by repeat (first | (with_reducible first | exact HB.out | apply ba_ | apply bn_ | apply bd_ | refine below_set ?_ GE186.out) | exact HB.out)) hb); clear BK186; clear HB; have BK186 := n0_; have HB := n1_; clear n0_ n1_; (try clear hb); (try clear hk); have hcz41_0 : w40.cell? ⟨gb186, 0, none⟩ = some (.int .u64 a2_0) := (kc_ BK186.out 0).trans rfl; have hcz41_1 : w40.cell? ⟨gb186, 1, none⟩ = some (.int .u64 a2_1) := (kc_ BK186.out 1).trans rfl; have hfz41_0 := kf_ BK186.out 0; have hfz41_1 := kf_ BK186.out 1) | ((with_reducible refine gate_callee (f := 30) rfl ?_); refine goesL_ (some 48) rfl rfl func30 (by kernel_rfl) rfl #[.int .i64 a0, .int .u64 a2_0] rfl (by (try simp only [map_toArray, map_cons, map_nil]); first | done | rfl) ?_; (with_reducible refine (node_Depth.calls k a0 a2_0 t196 t197 _ A31.out).mono ?_); rintro e w' ⟨rfl, ⟨nd, rfl⟩⟩; refine ⟨_, rfl, ?_⟩) | ((with_reducible refine gate_callee (f := 31) rfl ?_); refine goesL_ (some 60) rfl rfl func31 (by kernel_rfl) rfl #[.int .i64 a0, .int .u64 a2_1, .int .i64 (wrap64 (t196 + 1))] rfl (by (try simp only [map_toArray, map_cons, map_nil]); first | done | rfl) ?_; (with_reducible refine (node_Up.calls k a0 a2_1 (wrap64 (t196 + 1)) t198 t199 _ A33.out).mono ?_); rintro e w' ⟨rfl, ⟨nd, rfl⟩⟩; refine ⟨_, rfl, ?_⟩) | ((with_reducible refine gate_dst (N := 90) rfl ?_); refine Kd.R_lit k24 _ 24 ?hg (N := 90) ?hd (xs := ([(⟨Go.bits .xor .u64 t198 1, IntKind.u64.wrap ((Go.bits .xor .u64 t198 1) * 2)⟩ : S24), (⟨Go.bits .xor .u64 t198 1, Go.bits .or .u64 (IntKind.u64.wrap ((Go.bits .xor .u64 t198 1) * 2)) 1⟩ : S24)] : List (S24))) (inner := [.int .u64 (Go.bits .xor .u64 t198 1), .int .u64 (IntKind.u64.wrap ((Go.bits .xor .u64 t198 1) * 2)), .int .u64 (Go.bits .xor .u64 t198 1), .int .u64 (Go.bits .or .u64 (IntKind.u64.wrap ((Go.bits .xor .u64 t198 1) * 2)) 1)]) (ok := fun _ => True) (okp := fun _ => True) ?hr ?hp (fun _ hk => hk) trivial (Below.refl _ _) (Nat.le_refl _) (by simp) ?_; (case hd => rfl); (case hg => rfl); (case hr => first | (go_simp; done) | (go_simp; rfl)); (case hp => exact (Reps.c2 (show Kd.M k24 _ _ _ (⟨Go.bits .xor .u64 t198 1, IntKind.u64.wrap ((Go.bits .xor .u64 t198 1) * 2)⟩ : S24) [.int .u64 (Go.bits .xor .u64 t198 1), .int .u64 (IntKind.u64.wrap ((Go.bits .xor .u64 t198 1) * 2))] from (k24_mkM _ _ _ (⟨Go.bits .xor .u64 t198 1, IntKind.u64.wrap ((Go.bits .xor .u64 t198 1) * 2)⟩ : S24) )) (Reps.c2 (show Kd.M k24 _ _ _ (⟨Go.bits .xor .u64 t198 1, Go.bits .or .u64 (IntKind.u64.wrap ((Go.bits .xor .u64 t198 1) * 2)) 1⟩ : S24) [.int .u64 (Go.bits .xor .u64 t198 1), .int .u64 (Go.bits .or .u64 (IntKind.u64.wrap ((Go.bits .xor .u64 t198 1) * 2)) 1)] from (k24_mkM _ _ _ (⟨Go.bits .xor .u64 t198 1, Go.bits .or .u64 (IntKind.u64.wrap ((Go.bits .xor .u64 t198 1) * 2)) 1⟩ : S24) )) (Reps.none _ _)))); intro v201 w42 ho43 hb hg_ hnew_; clear hg_ hnew_; (first | rw [← Ny200.out] at ho43 | (simp only [Int.reduceToNat] at ho43; rw [← Ny200.out] at ho43)); have n0_ := ak_ (Kd.R_lower (Kd.R_newB ho43 (g := gb186) (o := .cells #[.int .u64 a2_0, .int .u64 a2_1] 24 (0, 0)) (kl_ BK186)) (bz_ (by repeat (first | (with_reducible first | exact HB.out | apply ba_ | apply bn_ | apply bd_ | refine below_set ?_ GE186.out) | exact HB.out)))); have n1_ := ak_ (kb_ (g := gb186) (o := .cells #[.int .u64 a2_0, .int .u64 a2_1] 24 (0, 0)) (kl_ BK186) hb); have n2_ := ak_ (bt_ (by repeat (first | (with_reducible first | exact HB.out | apply ba_ | apply bn_ | apply bd_ | refine below_set ?_ GE186.out) | exact HB.out)) hb); clear BK186; clear HB; have HO202 := n0_; have BK186 := n1_; have HB := n2_; clear n0_ n1_ n2_; clear hb ho43))
         go_ret2
         exact ⟨_, by first | rfl | (simp <;> rfl) | (simp [*] <;> rfl), by (with_reducible repeat (first | apply Kd.R_alloc | apply Kd.R_drewN | apply Kd.R_drew)); exact Kd.R_mono HO202.out (fun _ hk => trivial), by repeat (first | (with_reducible first | exact HB.out | apply ba_ | apply bn_ | apply bd_ | refine below_set ?_ GE186.out) | exact HB.out)⟩
        ·rw [if_neg c35] at H
         have c35b0 : (t198 == a2_1) = false := beq_eq_false_iff_ne.mpr c35
         have c35b1 : (t198 != a2_1) = true := bne_iff_ne.mpr c35
         obtain ⟨y203, hy203⟩ : ∃ y_ : List (S24), y_ = (([(⟨a2_0, t198⟩ : S24), (⟨t198, a2_1⟩ : S24)] : List (S24))) := ⟨_, rfl⟩
         replace H : (some (y203, 0)) = some (r1, r2) := by first | (rw [hy203]; with_reducible exact H) | (have H2_ := (Option.bind_some _ _).symm.trans H; rw [hy203]; with_reducible exact H2_) | (have H2_ := (Option.bind_some _ _).symm.trans H; with_reducible exact H2_) | with_reducible exact H | (rw [hy203]; exact H) | exact H
         have Ny203 := ak_ hy203
         clear hy203
         simp only [some.injEq, Prod.mk.injEq] at H
         obtain ⟨rfl, rfl⟩ := H
         go_enter func10, ntmps10
         go_wp2_with (first | ((with_reducible refine gate_dst (N := 5) rfl ?_); refine box_event ?hg (N := 5) ?hd (cs := #[.int .u64 a2_0, .int .u64 a2_1]) (t := 24) ?hr ?_; (case hd => rfl); (case hg => rfl); (case hr => first | (go_simp; done) | (go_simp; rfl)); intro gb186 hg w44 hbox hb; have n0_ := ak_ (bt_ (bl_ HB) hb); have n1_ := ak_ (hbox); have n2_ := ak_ ((gs_ hg HB)); have n3_ := ak_ ((gs_ hg HB)); clear HB; have HB := n0_; have BK186 := n1_; have GW186 := n2_; have GE186 := n3_; clear n0_ n1_ n2_ n3_; clear hb hbox hg; have hcz45_0 : w44.cell? ⟨gb186, 0, none⟩ = some (.int .u64 a2_0) := (kc_ BK186.out 0).trans rfl; have hcz45_1 : w44.cell? ⟨gb186, 1, none⟩ = some (.int .u64 a2_1) := (kc_ BK186.out 1).trans rfl; have hfz45_0 := kf_ BK186.out 0; have hfz45_1 := kf_ BK186.out 1) | ((with_reducible refine gate_callee (f := 28) rfl ?_); refine goesL_ (some 17) rfl rfl func28 (by kernel_rfl) rfl #[.int .i64 a0, .int .i64 a1, .agg #[.int .u64 a2_0, .int .u64 a2_1]] rfl (by (try simp only [map_toArray, map_cons, map_nil]); first | done | rfl) ?_; (with_reducible refine (trace_fits.calls k a0 a1 a2_0 a2_1 true _ A4.out).mono ?_); rintro e w46 ⟨rfl, hb⟩; refine ⟨_, rfl, ?_⟩; have n0_ := ak_ (kb_ (g := gb186) (o := .cells #[.int .u64 a2_0, .int .u64 a2_1] 24 (0, 0)) (kl_ BK186) hb); have n1_ := ak_ (bt_ (by repeat (first | (with_reducible first | exact HB.out | apply ba_ | apply bn_ | apply bd_ | refine below_set ?_ GE186.out) | exact HB.out)) hb); clear BK186; clear HB; have BK186 := n0_; have HB := n1_; clear n0_ n1_; (try clear hb); (try clear hk); have hcz47_0 : w46.cell? ⟨gb186, 0, none⟩ = some (.int .u64 a2_0) := (kc_ BK186.out 0).trans rfl; have hcz47_1 : w46.cell? ⟨gb186, 1, none⟩ = some (.int .u64 a2_1) := (kc_ BK186.out 1).trans rfl; have hfz47_0 := kf_ BK186.out 0; have hfz47_1 := kf_ BK186.out 1) | ((with_reducible refine gate_callee (f := 29) rfl ?_); refine goesL_ (some 22) rfl rfl func29 (by kernel_rfl) rfl #[.int .i64 a0, .agg #[.int .u64 a2_0, .int .u64 a2_1]] rfl (by (try simp only [map_toArray, map_cons, map_nil]); first | done | rfl) ?_; (with_reducible refine (trace_only.calls k a0 a2_0 a2_1 t188 false _ A6.out).mono ?_); rintro e w48 ⟨rfl, hb⟩; refine ⟨_, rfl, ?_⟩; have n0_ := ak_ (kb_ (g := gb186) (o := .cells #[.int .u64 a2_0, .int .u64 a2_1] 24 (0, 0)) (kl_ BK186) hb); have n1_ := ak_ (bt_ (by repeat (first | (with_reducible first | exact HB.out | apply ba_ | apply bn_ | apply bd_ | refine below_set ?_ GE186.out) | exact HB.out)) hb); clear BK186; clear HB; have BK186 := n0_; have HB := n1_; clear n0_ n1_; (try clear hb); (try clear hk); have hcz49_0 : w48.cell? ⟨gb186, 0, none⟩ = some (.int .u64 a2_0) := (kc_ BK186.out 0).trans rfl; have hcz49_1 : w48.cell? ⟨gb186, 1, none⟩ = some (.int .u64 a2_1) := (kc_ BK186.out 1).trans rfl; have hfz49_0 := kf_ BK186.out 0; have hfz49_1 := kf_ BK186.out 1) | ((with_reducible refine gate_callee (f := 30) rfl ?_); refine goesL_ (some 48) rfl rfl func30 (by kernel_rfl) rfl #[.int .i64 a0, .int .u64 a2_0] rfl (by (try simp only [map_toArray, map_cons, map_nil]); first | done | rfl) ?_; (with_reducible refine (node_Depth.calls k a0 a2_0 t196 t197 _ A31.out).mono ?_); rintro e w' ⟨rfl, ⟨nd, rfl⟩⟩; refine ⟨_, rfl, ?_⟩) | ((with_reducible refine gate_callee (f := 31) rfl ?_); refine goesL_ (some 60) rfl rfl func31 (by kernel_rfl) rfl #[.int .i64 a0, .int .u64 a2_1, .int .i64 (wrap64 (t196 + 1))] rfl (by (try simp only [map_toArray, map_cons, map_nil]); first | done | rfl) ?_; (with_reducible refine (node_Up.calls k a0 a2_1 (wrap64 (t196 + 1)) t198 t199 _ A33.out).mono ?_); rintro e w' ⟨rfl, ⟨nd, rfl⟩⟩; refine ⟨_, rfl, ?_⟩) | ((with_reducible refine gate_dst (N := 78) rfl ?_); refine Kd.R_lit k24 _ 24 ?hg (N := 78) ?hd (xs := ([(⟨a2_0, t198⟩ : S24), (⟨t198, a2_1⟩ : S24)] : List (S24))) (inner := [.int .u64 a2_0, .int .u64 t198, .int .u64 t198, .int .u64 a2_1]) (ok := fun _ => True) (okp := fun _ => True) ?hr ?hp (fun _ hk => hk) trivial (Below.refl _ _) (Nat.le_refl _) (by simp) ?_; (case hd => rfl); (case hg => rfl); (case hr => first | (go_simp; done) | (go_simp; rfl)); (case hp => exact (Reps.c2 (show Kd.M k24 _ _ _ (⟨a2_0, t198⟩ : S24) [.int .u64 a2_0, .int .u64 t198] from (k24_mkM _ _ _ (⟨a2_0, t198⟩ : S24) )) (Reps.c2 (show Kd.M k24 _ _ _ (⟨t198, a2_1⟩ : S24) [.int .u64 t198, .int .u64 a2_1] from (k24_mkM _ _ _ (⟨t198, a2_1⟩ : S24) )) (Reps.none _ _)))); intro v204 w50 ho51 hb hg_ hnew_; clear hg_ hnew_; (first | rw [← Ny203.out] at ho51 | (simp only [Int.reduceToNat] at ho51; rw [← Ny203.out] at ho51)); have n0_ := ak_ (Kd.R_lower (Kd.R_newB ho51 (g := gb186) (o := .cells #[.int .u64 a2_0, .int .u64 a2_1] 24 (0, 0)) (kl_ BK186)) (bz_ (by repeat (first | (with_reducible first | exact HB.out | apply ba_ | apply bn_ | apply bd_ | refine below_set ?_ GE186.out) | exact HB.out)))); have n1_ := ak_ (kb_ (g := gb186) (o := .cells #[.int .u64 a2_0, .int .u64 a2_1] 24 (0, 0)) (kl_ BK186) hb); have n2_ := ak_ (bt_ (by repeat (first | (with_reducible first | exact HB.out | apply ba_ | apply bn_ | apply bd_ | refine below_set ?_ GE186.out) | exact HB.out)) hb); clear BK186; clear HB; have HO205 := n0_; have BK186 := n1_; have HB := n2_; clear n0_ n1_ n2_; clear hb ho51))
         go_ret2
         exact ⟨_, by first | rfl | (simp <;> rfl) | (simp [*] <;> rfl), by (with_reducible repeat (first | apply Kd.R_alloc | apply Kd.R_drewN | apply Kd.R_drew)); exact Kd.R_mono HO205.out (fun _ hk => trivial), by repeat (first | (with_reducible first | exact HB.out | apply ba_ | apply bn_ | apply bd_ | refine below_set ?_ GE186.out) | exact HB.out)⟩
       ·rw [if_neg c34] at H
        have c34b0 : (t199 == 0) = false := beq_eq_false_iff_ne.mpr c34
        have c34b1 : (t199 != 0) = true := bne_iff_ne.mpr c34
        simp only [some.injEq, Prod.mk.injEq] at H
        obtain ⟨rfl, rfl⟩ := H
        go_enter func10, ntmps10
        go_wp2_with (first | ((with_reducible refine gate_dst (N := 5) rfl ?_); refine box_event ?hg (N := 5) ?hd (cs := #[.int .u64 a2_0, .int .u64 a2_1]) (t := 24) ?hr ?_; (case hd => rfl); (case hg => rfl); (case hr => first | (go_simp; done) | (go_simp; rfl)); intro gb186 hg w52 hbox hb; have n0_ := ak_ (bt_ (bl_ HB) hb); have n1_ := ak_ (hbox); have n2_ := ak_ ((gs_ hg HB)); have n3_ := ak_ ((gs_ hg HB)); clear HB; have HB := n0_; have BK186 := n1_; have GW186 := n2_; have GE186 := n3_; clear n0_ n1_ n2_ n3_; clear hb hbox hg; have hcz53_0 : w52.cell? ⟨gb186, 0, none⟩ = some (.int .u64 a2_0) := (kc_ BK186.out 0).trans rfl; have hcz53_1 : w52.cell? ⟨gb186, 1, none⟩ = some (.int .u64 a2_1) := (kc_ BK186.out 1).trans rfl; have hfz53_0 := kf_ BK186.out 0; have hfz53_1 := kf_ BK186.out 1) | ((with_reducible refine gate_callee (f := 28) rfl ?_); refine goesL_ (some 17) rfl rfl func28 (by kernel_rfl) rfl #[.int .i64 a0, .int .i64 a1, .agg #[.int .u64 a2_0, .int .u64 a2_1]] rfl (by (try simp only [map_toArray, map_cons, map_nil]); first | done | rfl) ?_; (with_reducible refine (trace_fits.calls k a0 a1 a2_0 a2_1 true _ A4.out).mono ?_); rintro e w54 ⟨rfl, hb⟩; refine ⟨_, rfl, ?_⟩; have n0_ := ak_ (kb_ (g := gb186) (o := .cells #[.int .u64 a2_0, .int .u64 a2_1] 24 (0, 0)) (kl_ BK186) hb); have n1_ := ak_ (bt_ (by repeat (first | (with_reducible first | exact HB.out | apply ba_ | apply bn_ | apply bd_ | refine below_set ?_ GE186.out) | exact HB.out)) hb); clear BK186; clear HB; have BK186 := n0_; have HB := n1_; clear n0_ n1_; (try clear hb); (try clear hk); have hcz55_0 : w54.cell? ⟨gb186, 0, none⟩ = some (.int .u64 a2_0) := (kc_ BK186.out 0).trans rfl; have hcz55_1 : w54.cell? ⟨gb186, 1, none⟩ = some (.int .u64 a2_1) := (kc_ BK186.out 1).trans rfl; have hfz55_0 := kf_ BK186.out 0; have hfz55_1 := kf_ BK186.out 1) | ((with_reducible refine gate_callee (f := 29) rfl ?_); refine goesL_ (some 22) rfl rfl func29 (by kernel_rfl) rfl #[.int .i64 a0, .agg #[.int .u64 a2_0, .int .u64 a2_1]] rfl (by (try simp only [map_toArray, map_cons, map_nil]); first | done | rfl) ?_; (with_reducible refine (trace_only.calls k a0 a2_0 a2_1 t188 false _ A6.out).mono ?_); rintro e w56 ⟨rfl, hb⟩; refine ⟨_, rfl, ?_⟩; have n0_ := ak_ (kb_ (g := gb186) (o := .cells #[.int .u64 a2_0, .int .u64 a2_1] 24 (0, 0)) (kl_ BK186) hb); have n1_ := ak_ (bt_ (by repeat (first | (with_reducible first | exact HB.out | apply ba_ | apply bn_ | apply bd_ | refine below_set ?_ GE186.out) | exact HB.out)) hb); clear BK186; clear HB; have BK186 := n0_; have HB := n1_; clear n0_ n1_; (try clear hb); (try clear hk); have hcz57_0 : w56.cell? ⟨gb186, 0, none⟩ = some (.int .u64 a2_0) := (kc_ BK186.out 0).trans rfl; have hcz57_1 : w56.cell? ⟨gb186, 1, none⟩ = some (.int .u64 a2_1) := (kc_ BK186.out 1).trans rfl; have hfz57_0 := kf_ BK186.out 0; have hfz57_1 := kf_ BK186.out 1) | ((with_reducible refine gate_callee (f := 30) rfl ?_); refine goesL_ (some 48) rfl rfl func30 (by kernel_rfl) rfl #[.int .i64 a0, .int .u64 a2_0] rfl (by (try simp only [map_toArray, map_cons, map_nil]); first | done | rfl) ?_; (with_reducible refine (node_Depth.calls k a0 a2_0 t196 t197 _ A31.out).mono ?_); rintro e w' ⟨rfl, ⟨nd, rfl⟩⟩; refine ⟨_, rfl, ?_⟩) | ((with_reducible refine gate_callee (f := 31) rfl ?_); refine goesL_ (some 60) rfl rfl func31 (by kernel_rfl) rfl #[.int .i64 a0, .int .u64 a2_1, .int .i64 (wrap64 (t196 + 1))] rfl (by (try simp only [map_toArray, map_cons, map_nil]); first | done | rfl) ?_; (with_reducible refine (node_Up.calls k a0 a2_1 (wrap64 (t196 + 1)) t198 t199 _ A33.out).mono ?_); rintro e w' ⟨rfl, ⟨nd, rfl⟩⟩; refine ⟨_, rfl, ?_⟩))
        go_ret2
        exact ⟨_, by first | rfl | (simp <;> rfl) | (simp [*] <;> rfl), by first | exact Kd.R_nil _ _ _ _ _ | exact Kd.N_nil _ _ _ _ _ | exact Kd.V_nil _ _ _ _ _ | exact Kd.Q_nil _ _ _ _ _ | exact Kd.S_nil _ _ _ _ _, by repeat (first | (with_reducible first | exact HB.out | apply ba_ | apply bn_ | apply bd_ | refine below_set ?_ GE186.out) | exact HB.out)⟩
      ·rw [if_neg c32] at H
       have c32b0 : (t197 == 0) = false := beq_eq_false_iff_ne.mpr c32
       have c32b1 : (t197 != 0) = true := bne_iff_ne.mpr c32
       simp only [some.injEq, Prod.mk.injEq] at H
       obtain ⟨rfl, rfl⟩ := H
       go_enter func10, ntmps10
       go_wp2_with (first | ((with_reducible refine gate_dst (N := 5) rfl ?_); refine box_event ?hg (N := 5) ?hd (cs := #[.int .u64 a2_0, .int .u64 a2_1]) (t := 24) ?hr ?_; (case hd => rfl); (case hg => rfl); (case hr => first | (go_simp; done) | (go_simp; rfl)); intro gb186 hg w58 hbox hb; have n0_ := ak_ (bt_ (bl_ HB) hb); have n1_ := ak_ (hbox); have n2_ := ak_ ((gs_ hg HB)); have n3_ := ak_ ((gs_ hg HB)); clear HB; have HB := n0_; have BK186 := n1_; have GW186 := n2_; have GE186 := n3_; clear n0_ n1_ n2_ n3_; clear hb hbox hg; have hcz59_0 : w58.cell? ⟨gb186, 0, none⟩ = some (.int .u64 a2_0) := (kc_ BK186.out 0).trans rfl; have hcz59_1 : w58.cell? ⟨gb186, 1, none⟩ = some (.int .u64 a2_1) := (kc_ BK186.out 1).trans rfl; have hfz59_0 := kf_ BK186.out 0; have hfz59_1 := kf_ BK186.out 1) | ((with_reducible refine gate_callee (f := 28) rfl ?_); refine goesL_ (some 17) rfl rfl func28 (by kernel_rfl) rfl #[.int .i64 a0, .int .i64 a1, .agg #[.int .u64 a2_0, .int .u64 a2_1]] rfl (by (try simp only [map_toArray, map_cons, map_nil]); first | done | rfl) ?_; (with_reducible refine (trace_fits.calls k a0 a1 a2_0 a2_1 true _ A4.out).mono ?_); rintro e w60 ⟨rfl, hb⟩; refine ⟨_, rfl, ?_⟩; have n0_ := ak_ (kb_ (g := gb186) (o := .cells #[.int .u64 a2_0, .int .u64 a2_1] 24 (0, 0)) (kl_ BK186) hb); have n1_ := ak_ (bt_ (by repeat (first | (with_reducible first | exact HB.out | apply ba_ | apply bn_ | apply bd_ | refine below_set ?_ GE186.out) | exact HB.out)) hb); clear BK186; clear HB; have BK186 := n0_; have HB := n1_; clear n0_ n1_; (try clear hb); (try clear hk); have hcz61_0 : w60.cell? ⟨gb186, 0, none⟩ = some (.int .u64 a2_0) := (kc_ BK186.out 0).trans rfl; have hcz61_1 : w60.cell? ⟨gb186, 1, none⟩ = some (.int .u64 a2_1) := (kc_ BK186.out 1).trans rfl; have hfz61_0 := kf_ BK186.out 0; have hfz61_1 := kf_ BK186.out 1) | ((with_reducible refine gate_callee (f := 29) rfl ?_); refine goesL_ (some 22) rfl rfl func29 (by kernel_rfl) rfl #[.int .i64 a0, .agg #[.int .u64 a2_0, .int .u64 a2_1]] rfl (by (try simp only [map_toArray, map_cons, map_nil]); first | done | rfl) ?_; (with_reducible refine (trace_only.calls k a0 a2_0 a2_1 t188 false _ A6.out).mono ?_); rintro e w62 ⟨rfl, hb⟩; refine ⟨_, rfl, ?_⟩; have n0_ := ak_ (kb_ (g := gb186) (o := .cells #[.int .u64 a2_0, .int .u64 a2_1] 24 (0, 0)) (kl_ BK186) hb); have n1_ := ak_ (bt_ (by repeat (first | (with_reducible first | exact HB.out | apply ba_ | apply bn_ | apply bd_ | refine below_set ?_ GE186.out) | exact HB.out)) hb); clear BK186; clear HB; have BK186 := n0_; have HB := n1_; clear n0_ n1_; (try clear hb); (try clear hk); have hcz63_0 : w62.cell? ⟨gb186, 0, none⟩ = some (.int .u64 a2_0) := (kc_ BK186.out 0).trans rfl; have hcz63_1 : w62.cell? ⟨gb186, 1, none⟩ = some (.int .u64 a2_1) := (kc_ BK186.out 1).trans rfl; have hfz63_0 := kf_ BK186.out 0; have hfz63_1 := kf_ BK186.out 1) | ((with_reducible refine gate_callee (f := 30) rfl ?_); refine goesL_ (some 48) rfl rfl func30 (by kernel_rfl) rfl #[.int .i64 a0, .int .u64 a2_0] rfl (by (try simp only [map_toArray, map_cons, map_nil]); first | done | rfl) ?_; (with_reducible refine (node_Depth.calls k a0 a2_0 t196 t197 _ A31.out).mono ?_); rintro e w' ⟨rfl, ⟨nd, rfl⟩⟩; refine ⟨_, rfl, ?_⟩))
       go_ret2
       exact ⟨_, by first | rfl | (simp <;> rfl) | (simp [*] <;> rfl), by first | exact Kd.R_nil _ _ _ _ _ | exact Kd.N_nil _ _ _ _ _ | exact Kd.V_nil _ _ _ _ _ | exact Kd.Q_nil _ _ _ _ _ | exact Kd.S_nil _ _ _ _ _, by repeat (first | (with_reducible first | exact HB.out | apply ba_ | apply bn_ | apply bd_ | refine below_set ?_ GE186.out) | exact HB.out)⟩
  ·replace c5 := Bool.eq_false_iff.mpr c5
   subst c5
   have H1 : (some (([] : List (S24)), 1)) = some (r1, r2) := by rw [if_neg (show ¬ (false = true) by decide)] at H; exact H
   clear H
   have H := H1
   clear H1
   simp only [some.injEq, Prod.mk.injEq] at H
   obtain ⟨rfl, rfl⟩ := H
   go_enter func10, ntmps10
   go_wp2_with (first | ((with_reducible refine gate_dst (N := 5) rfl ?_); refine box_event ?hg (N := 5) ?hd (cs := #[.int .u64 a2_0, .int .u64 a2_1]) (t := 24) ?hr ?_; (case hd => rfl); (case hg => rfl); (case hr => first | (go_simp; done) | (go_simp; rfl)); intro gb186 hg w64 hbox hb; have n0_ := ak_ (bt_ (bl_ HB) hb); have n1_ := ak_ (hbox); have n2_ := ak_ ((gs_ hg HB)); have n3_ := ak_ ((gs_ hg HB)); clear HB; have HB := n0_; have BK186 := n1_; have GW186 := n2_; have GE186 := n3_; clear n0_ n1_ n2_ n3_; clear hb hbox hg; have hcz65_0 : w64.cell? ⟨gb186, 0, none⟩ = some (.int .u64 a2_0) := (kc_ BK186.out 0).trans rfl; have hcz65_1 : w64.cell? ⟨gb186, 1, none⟩ = some (.int .u64 a2_1) := (kc_ BK186.out 1).trans rfl; have hfz65_0 := kf_ BK186.out 0; have hfz65_1 := kf_ BK186.out 1) | ((with_reducible refine gate_callee (f := 28) rfl ?_); refine goesL_ (some 17) rfl rfl func28 (by kernel_rfl) rfl #[.int .i64 a0, .int .i64 a1, .agg #[.int .u64 a2_0, .int .u64 a2_1]] rfl (by (try simp only [map_toArray, map_cons, map_nil]); first | done | rfl) ?_; (with_reducible refine (trace_fits.calls k a0 a1 a2_0 a2_1 false _ A4.out).mono ?_); rintro e w66 ⟨rfl, hb⟩; refine ⟨_, rfl, ?_⟩; have n0_ := ak_ (kb_ (g := gb186) (o := .cells #[.int .u64 a2_0, .int .u64 a2_1] 24 (0, 0)) (kl_ BK186) hb); have n1_ := ak_ (bt_ (by repeat (first | (with_reducible first | exact HB.out | apply ba_ | apply bn_ | apply bd_ | refine below_set ?_ GE186.out) | exact HB.out)) hb); clear BK186; clear HB; have BK186 := n0_; have HB := n1_; clear n0_ n1_; (try clear hb); (try clear hk)))
   go_ret2
   exact ⟨_, by first | rfl | (simp <;> rfl) | (simp [*] <;> rfl), by first | exact Kd.R_nil _ _ _ _ _ | exact Kd.N_nil _ _ _ _ _ | exact Kd.V_nil _ _ _ _ _ | exact Kd.Q_nil _ _ _ _ _ | exact Kd.S_nil _ _ _ _ _, by repeat (first | (with_reducible first | exact HB.out | apply ba_ | apply bn_ | apply bd_ | refine below_set ?_ GE186.out) | exact HB.out)⟩
def node_Leaf.f (a0 : Int) (a1 : Int) : Option (Int × Int) := (node_high.f a0).bind fun t206 => (if t206 = true then (if 0 ≤ a0 then (if (shr .u64 a1 a0) > 0 then (some (0, 4)) else (some (Go.bits .or .u64 (shl .u64 1 a0) a1, 0))) else (none)) else (some (0, 1)))
set_option maxHeartbeats 8000000 in
set_option maxRecDepth 100000 in
theorem node_Leaf.calls (a0 : Int) (a1 : Int) (r1 : Int) (r2 : Int) (w : World) (h : node_Leaf.f a0 a1 = some (r1, r2)) :
   Calls Try.prog 64 #[.int .i64 a0, .int .u64 a1] w fun e w' => e = .returned (.tuple #[.int .u64 r1, .int .i64 r2]) ∧ Drawn0 w w' := by
  have H : ((node_high.f a0).bind fun t206 => (if t206 = true then (if 0 ≤ a0 then (if (shr .u64 a1 a0) > 0 then (some (0, 4)) else (some (Go.bits .or .u64 (shl .u64 1 a0) a1, 0))) else (none)) else (some (0, 1)))) = some (r1, r2) := h
  clear h
  replace H := bind_eq_some_iff.mp H
  obtain ⟨t206, A30, H⟩ := H
  replace H : (if t206 = true then (if 0 ≤ a0 then (if (shr .u64 a1 a0) > 0 then (some (0, 4)) else (some (Go.bits .or .u64 (shl .u64 1 a0) a1, 0))) else (none)) else (some (0, 1))) = some (r1, r2) := H
  have A3 := ak_ A30
  clear A30
  by_cases c4 : t206 = true
  ·subst c4
   have H1 : (if 0 ≤ a0 then (if (shr .u64 a1 a0) > 0 then (some (0, 4)) else (some (Go.bits .or .u64 (shl .u64 1 a0) a1, 0))) else (none)) = some (r1, r2) := by rw [if_pos rfl] at H; exact H
   clear H
   have H := H1
   clear H1
   by_cases c5 : 0 ≤ a0
   ·rw [if_pos c5] at H
    have c5b0 := eq_true c5
    have c5b1 := decide_eq_true c5
    clear c5
    obtain ⟨ji6, hji6⟩ : ∃ j_ : Int, (shr .u64 a1 a0) = j_ := ⟨_, rfl⟩
    replace H : (if (ji6) > 0 then (some (0, 4)) else (some (Go.bits .or .u64 (shl .u64 1 a0) a1, 0))) = some (r1, r2) := by first | (rw [hji6] at H; exact H) | (simp only [hji6] at H ⊢; exact H)
    (try rw [hji6] at A3)
    have hji6_ : (a1 / 2 ^ min a0.toNat 64) = ji6 := hji6
    have hji6z : a0 ≤ 64 → (a1 / 2 ^ a0.toNat) = ji6 := shr_small hji6
    by_cases c7 : (ji6) > 0
    ·rw [if_pos c7] at H
     have c7b0 : decide (0 < (ji6)) = true := decide_eq_true c7
     clear c7
     simp only [some.injEq, Prod.mk.injEq] at H
     obtain ⟨rfl, rfl⟩ := H
     go_enter func64, ntmps64
     go_wp2_with (first | ((with_reducible refine gate_callee (f := 63) rfl ?_); refine goesL_ (some 8) rfl rfl func63 (by kernel_rfl) rfl #[.int .i64 a0] rfl (by (try simp only [map_toArray, map_cons, map_nil]); first | done | rfl) ?_; (with_reducible refine (node_high.calls a0 true _ A3.out).mono ?_); rintro e w' ⟨rfl, ⟨nd, rfl⟩⟩; refine ⟨_, rfl, ?_⟩))
     go_ret2
     exact ⟨by first | rfl | (simp; done) | (simp only [← hji6] <;> (first | rfl | simp)) | (simp [*]; done), by repeat (first | exact Drawn0.refl _ | apply Drawn0.step)⟩
    ·rw [if_neg c7] at H
     have c7b0 : decide (0 < (ji6)) = false := decide_eq_false c7
     clear c7
     have c8b0 := eq_true (od_ (by first | (with_reducible assumption) | assumption) : 0 ≤ a0)
     obtain ⟨ji9, hji9⟩ : ∃ j_ : Int, (shl .u64 1 a0) = j_ := ⟨_, rfl⟩
     replace H : (some (Go.bits .or .u64 (ji9) a1, 0)) = some (r1, r2) := by first | (rw [hji9] at H; exact H) | (simp only [hji9] at H ⊢; exact H)
     (try rw [hji9] at A3)
     have hji9_ : (IntKind.u64.wrap (1 * 2 ^ min a0.toNat 64)) = ji9 := hji9
     have hji9z : a0 ≤ 64 → (IntKind.u64.wrap (1 * 2 ^ a0.toNat)) = ji9 := shl_small hji9
     have hji9u : (IntKind.u64.wrap (2 ^ min a0.toNat 64)) = ji9 := by have h_ := hji9_; rw [Int.one_mul] at h_; exact h_
     have hji9v : a0 ≤ 64 → (IntKind.u64.wrap (2 ^ a0.toNat)) = ji9 := fun hle_ => by have h_ := hji9z hle_; rw [Int.one_mul] at h_; exact h_
     simp only [some.injEq, Prod.mk.injEq] at H
     obtain ⟨rfl, rfl⟩ := H
     go_enter func64, ntmps64
     go_wp2_with (first | ((with_reducible refine gate_callee (f := 63) rfl ?_); refine goesL_ (some 8) rfl rfl func63 (by kernel_rfl) rfl #[.int .i64 a0] rfl (by (try simp only [map_toArray, map_cons, map_nil]); first | done | rfl) ?_; (with_reducible refine (node_high.calls a0 true _ A3.out).mono ?_); rintro e w' ⟨rfl, ⟨nd, rfl⟩⟩; refine ⟨_, rfl, ?_⟩))
     go_ret2
     exact ⟨by first | rfl | (simp; done) | (simp only [← hji6, ← hji9] <;> (first | rfl | simp)) | (simp [*]; done), by repeat (first | exact Drawn0.refl _ | apply Drawn0.step)⟩
   ·rw [if_neg c5] at H
    exact absurd H (by simp)
  ·replace c4 := Bool.eq_false_iff.mpr c4
   subst c4
   have H1 : (some (0, 1)) = some (r1, r2) := by rw [if_neg (show ¬ (false = true) by decide)] at H; exact H
   clear H
   have H := H1
   clear H1
   simp only [some.injEq, Prod.mk.injEq] at H
   obtain ⟨rfl, rfl⟩ := H
   go_enter func64, ntmps64
   go_wp2_with (first | ((with_reducible refine gate_callee (f := 63) rfl ?_); refine goesL_ (some 8) rfl rfl func63 (by kernel_rfl) rfl #[.int .i64 a0] rfl (by (try simp only [map_toArray, map_cons, map_nil]); first | done | rfl) ?_; (with_reducible refine (node_high.calls a0 false _ A3.out).mono ?_); rintro e w' ⟨rfl, ⟨nd, rfl⟩⟩; refine ⟨_, rfl, ?_⟩))
   go_ret2
   exact ⟨by first | rfl | (simp; done) | (simp [*]; done), by repeat (first | exact Drawn0.refl _ | apply Drawn0.step)⟩
def leaf_is.f (a0 : Int) (a1 : Int) : Option (Bool) := (node_Leaf.f a0 a1).bind fun bt207 => (some (bt207.2 == 0))
set_option maxHeartbeats 8000000 in
set_option maxRecDepth 100000 in
theorem leaf_is.calls (a0 : Int) (a1 : Int) (r : Bool) (w : World) (h : leaf_is.f a0 a1 = some r) :
   Calls Try.prog 34 #[.int .i64 a0, .int .u64 a1] w fun e w' => e = .returned (.bool r) ∧ Drawn0 w w' := by
  have H : ((node_Leaf.f a0 a1).bind fun bt207 => (some (bt207.2 == 0))) = some r := h
  clear h
  replace H := bind_eq_some_iff.mp H
  obtain ⟨⟨t207, t208⟩, A30, H⟩ := H
  replace H : (some (t208 == 0)) = some r := H
  have A3 := ak_ A30
  clear A30
  obtain rfl := Option.some.inj H
  go_enter func34, ntmps34
  go_wp2_with (first | ((with_reducible refine gate_callee (f := 64) rfl ?_); refine goesL_ (some 10) rfl rfl func64 (by kernel_rfl) rfl #[.int .i64 a0, .int .u64 a1] rfl (by (try simp only [map_toArray, map_cons, map_nil]); first | done | rfl) ?_; (with_reducible refine (node_Leaf.calls a0 a1 t207 t208 _ A3.out).mono ?_); rintro e w' ⟨rfl, ⟨nd, rfl⟩⟩; refine ⟨_, rfl, ?_⟩))
  go_ret
  exact ⟨by first | rfl | (simp; done) | (simp [*]; done), by repeat (first | exact Drawn0.refl _ | apply Drawn0.step)⟩
mutual
def leaf_Check.j0 : Nat → Int → List Int → Bool → Option (Int)
  | 0, _, _, _ => none
  | k + 1, x0, x1, x14 => if x14 = true then (some 1) else (leaf_Check.l0 k x0 x1 x1 (x1.length : Int) 0)
def leaf_Check.l0 : Nat → Int → List Int → List Int → Int → Int → Option (Int)
  | 0, _, _, _, _, _ => none
  | k + 1, x0, x1, x15, x16, x17 => if x17 < x16 then (if 0 ≤ x17 then (if x17 < (x15.length : Int) then ((leaf_is.f x0 (rd x15 x17)).bind fun t211 => (if t211 = true then (if x17 > 0 then (if 0 ≤ (wrap64 (x17 - 1)) then (if (wrap64 (x17 - 1)) < (x1.length : Int) then (if (rd x1 (wrap64 (x17 - 1))) ≥ (rd x15 x17) then (some 1) else (leaf_Check.l0 k x0 x1 x15 x16 (wrap64 (x17 + 1)))) else (none)) else (none)) else (leaf_Check.l0 k x0 x1 x15 x16 (wrap64 (x17 + 1)))) else (some 1))) else (none)) else (none)) else (some 0)
end
def leaf_Check.f (k : Nat) (a0 : Int) (l1 : List Int) : Option (Int) := (node_Check.f k a0 1).bind fun t209 => (if t209 = 0 then (leaf_Check.j0 k a0 l1 (decide ((l1.length : Int) > 1024))) else (leaf_Check.j0 k a0 l1 true))
theorem leaf_Check.mono_l : ∀ k, (∀ y0 y1 y2, LeO (leaf_Check.j0 k y0 y1 y2) (leaf_Check.j0 (k + 1) y0 y1 y2)) ∧ (∀ y0 y1 y2 y3 y4, LeO (leaf_Check.l0 k y0 y1 y2 y3 y4) (leaf_Check.l0 (k + 1) y0 y1 y2 y3 y4))
  | 0 => ⟨fun _ _ _ r h => by simp [leaf_Check.j0] at h, fun _ _ _ _ _ r h => by simp [leaf_Check.l0] at h⟩
  | k + 1 => by
   obtain ⟨ih0, ih1⟩ := leaf_Check.mono_l k
   refine ⟨?_, ?_⟩
   ·intro y0 y1 y2
    unfold leaf_Check.j0
    repeat' first
    | (with_reducible exact ih0 _ _ _)
    | (with_reducible exact ih1 _ _ _ _ _)
    | (with_reducible exact node_Check.mono _ _ _)
    | (with_reducible exact LeO.refl _)
    | (with_reducible exact LeO.none _)
    | (with_reducible refine LeO.ite ?_ ?_)
    | (with_reducible refine LeO.bind ?_ (fun _ => ?_))
    | exact ih0 _ _ _
    | exact ih1 _ _ _ _ _
    | exact node_Check.mono _ _ _
    | exact LeO.none _
    | refine LeO.ite ?_ ?_
    | refine LeO.bind ?_ (fun _ => ?_)
   ·intro y0 y1 y2 y3 y4
    unfold leaf_Check.l0
    repeat' first
    | (with_reducible exact ih0 _ _ _)
    | (with_reducible exact ih1 _ _ _ _ _)
    | (with_reducible exact node_Check.mono _ _ _)
    | (with_reducible exact LeO.refl _)
    | (with_reducible exact LeO.none _)
    | (with_reducible refine LeO.ite ?_ ?_)
    | (with_reducible refine LeO.bind ?_ (fun _ => ?_))
    | exact ih0 _ _ _
    | exact ih1 _ _ _ _ _
    | exact node_Check.mono _ _ _
    | exact LeO.none _
    | refine LeO.ite ?_ ?_
    | refine LeO.bind ?_ (fun _ => ?_)
theorem leaf_Check.mono : ∀ a0 a1 k, LeO (leaf_Check.f k a0 a1) (leaf_Check.f (k + 1) a0 a1) := by
  intro a0 a1 k
  obtain ⟨ih0, ih1⟩ := leaf_Check.mono_l k
  unfold leaf_Check.f
  repeat' first
    | (with_reducible exact ih0 _ _ _)
    | (with_reducible exact ih1 _ _ _ _ _)
    | (with_reducible exact node_Check.mono _ _ _)
    | (with_reducible exact LeO.refl _)
    | (with_reducible exact LeO.none _)
    | (with_reducible refine LeO.ite ?_ ?_)
    | (with_reducible refine LeO.bind ?_ (fun _ => ?_))
    | exact ih0 _ _ _
    | exact ih1 _ _ _ _ _
    | exact node_Check.mono _ _ _
    | exact LeO.none _
    | refine LeO.ite ?_ ?_
    | refine LeO.bind ?_ (fun _ => ?_)
set_option maxHeartbeats 8000000 in
set_option maxRecDepth 100000 in
theorem leaf_Check.calls (k : Nat) (a0 : Int) (A1 : Option Addr) (c1 : Nat) (l1 : List Int) (r : Int) (w : World) (hr1 : Kd.C (Kd.int .u64) w A1 l1.length l1) (hc1 : l1.length ≤ c1) (h : leaf_Check.f k a0 l1 = some r) :
   Calls Try.prog 27 #[.int .i64 a0, .slice A1 l1.length c1] w fun e w' => e = .returned (.int .i64 r) ∧ Drawn0 w w' := by
  have HR1 := ak_ hr1
  have HC1 := ak_ hc1
  clear hr1 hc1
  have H : ((node_Check.f k a0 1).bind fun t209 => (if t209 = 0 then (leaf_Check.j0 k a0 l1 (decide ((l1.length : Int) > 1024))) else (leaf_Check.j0 k a0 l1 true))) = some r := h
  clear h
  have HC3 := ak_ H
  clear H
  go_enter func27, ntmps27
  go_upto_region 1 with (fail)
  go_cut [14] (fun v14 wc => ∃ (kq : Nat) (x14_2 : Bool), v14 = .bool x14_2 ∧ Aside0 (leaf_Check.j0 kq a0 l1 x14_2 = some r) ∧ Aside0 (kq ≤ k) ∧ Drawn0 w wc)
  case first =>
   have H := HC3.out
   clear HC3
   replace H := bind_eq_some_iff.mp H
   obtain ⟨t209, A40, H⟩ := H
   replace H : (if t209 = 0 then (leaf_Check.j0 k a0 l1 (decide ((l1.length : Int) > 1024))) else (leaf_Check.j0 k a0 l1 true)) = some r := H
   have A4 := ak_ A40
   clear A40
   by_cases c5 : t209 = 0
   ·rw [if_pos c5] at H
    have c5b0 : (t209 == 0) = true := beq_iff_eq.mpr c5
    have c5b1 : (t209 != 0) = false := bne_eq_false_iff_eq.mpr c5
    clear c5
    (first | rw [c5b0] | (simp only [i64_w, i32_w]; rw [c5b0]) | skip)
    have H' := ak_ H
    clear H
    go_wp2_with (first | ((with_reducible refine gate_callee (f := 33) rfl ?_); refine goesL_ (some 8) rfl rfl func33 (by kernel_rfl) rfl #[.int .i64 a0, .int .u64 1] rfl (by (try simp only [map_toArray, map_cons, map_nil]); first | done | rfl) ?_; (with_reducible refine (node_Check.calls k a0 1 t209 _ A4.out).mono ?_); rintro e w' ⟨rfl, ⟨nd, rfl⟩⟩; refine ⟨_, rfl, ?_⟩))
    go_meet
    case rel => exact ⟨_, (decide ((l1.length : Int) > 1024)), (by first | rfl | (simp; done) | (simp [*]; done)), H', ⟨by first | omega | exact Nat.le_refl _⟩, by repeat (first | exact Drawn0.refl _ | apply Drawn0.step)⟩
   ·rw [if_neg c5] at H
    have c5b0 : (t209 == 0) = false := beq_eq_false_iff_ne.mpr c5
    have c5b1 : (t209 != 0) = true := bne_iff_ne.mpr c5
    (first | rw [c5b0] | (simp only [i64_w, i32_w]; rw [c5b0]) | skip)
    have H' := ak_ H
    clear H
    go_wp2_with (first | ((with_reducible refine gate_callee (f := 33) rfl ?_); refine goesL_ (some 8) rfl rfl func33 (by kernel_rfl) rfl #[.int .i64 a0, .int .u64 1] rfl (by (try simp only [map_toArray, map_cons, map_nil]); first | done | rfl) ?_; (with_reducible refine (node_Check.calls k a0 1 t209 _ A4.out).mono ?_); rintro e w' ⟨rfl, ⟨nd, rfl⟩⟩; refine ⟨_, rfl, ?_⟩))
    go_meet
    case rel => exact ⟨_, (true), (by first | rfl | (simp; done) | (simp [*]; done)), H', ⟨by first | omega | exact Nat.le_refl _⟩, by repeat (first | exact Drawn0.refl _ | apply Drawn0.step)⟩
  case rest =>
   clear HC3
   try clear c1
   try clear c2
   try clear p2
   try clear c3
   try clear c5
   try clear c5b0
   try clear c5b1
   obtain ⟨kq, x14_2, rfl, HA, HJ2, ⟨mc2, rfl⟩⟩ := hcut
   cases kq with
   | zero => exact absurd HA.out (by simp [leaf_Check.j0])
   | succ kj2 =>
    have H := HA.out
    clear HA
    simp only [leaf_Check.j0] at H
    by_cases c6 : x14_2 = true
    ·subst c6
     have H1 : (some 1) = some r := by rw [if_pos rfl] at H; exact H
     clear H
     have H := H1
     clear H1
     obtain rfl := Option.some.inj H
     go_wp2
     go_ret
     exact ⟨by first | rfl | (simp; done) | (simp [*]; done), by repeat (first | exact Drawn0.refl _ | apply Drawn0.step)⟩
    ·replace c6 := Bool.eq_false_iff.mpr c6
     subst c6
     have H1 : (leaf_Check.l0 kj2 a0 l1 l1 (l1.length : Int) 0) = some r := by rw [if_neg (show ¬ (false = true) by decide)] at H; exact H
     clear H
     have H := H1
     clear H1
     have H' := ak_ H
     clear H
     go_wp2
     go_loopg [17] kj2 (fun kq v17 w' => ∃ (x17_2 : Int), v17 = .int .i64 x17_2 ∧ Aside0 (leaf_Check.l0 kq a0 l1 l1 (l1.length : Int) x17_2 = some r) ∧ Aside0 (kq ≤ kj2) ∧ Drawn0 w w')
     case atStart => exact ⟨(0), (by first | rfl | (simp; done) | (simp [*]; done)), H', ⟨Nat.le_refl _⟩, by repeat (first | exact Drawn0.refl _ | apply Drawn0.step)⟩
     case round =>
      clear H'
      try clear c1
      try clear c2
      try clear p2
      try clear c3
      try clear c5
      try clear c5b0
      try clear c5b1
      try clear c6
      try clear p2
      obtain ⟨x17_2, rfl, HA, HK2, ⟨m2, rfl⟩⟩ := hrel
      cases gk with
      | zero => exact absurd HA.out (by simp [leaf_Check.l0])
      | succ k2 =>
       have H := HA.out
       clear HA
       simp only [leaf_Check.l0] at H
       by_cases c7 : x17_2 < (l1.length : Int)
       ·rw [if_pos c7] at H
        have c7b0 := decide_eq_true c7
        clear c7
        by_cases c8 : 0 ≤ x17_2
        ·rw [if_pos c8] at H
         have c8b0 := decide_eq_true c8
         clear c8
         by_cases c9 : x17_2 < (l1.length : Int)
         ·rw [if_pos c9] at H
          have c9b0 := decide_eq_true c9
          clear c9
          replace H := bind_eq_some_iff.mp H
          obtain ⟨t211, A100, H⟩ := H
          replace H : (if t211 = true then (if x17_2 > 0 then (if 0 ≤ (wrap64 (x17_2 - 1)) then (if (wrap64 (x17_2 - 1)) < (l1.length : Int) then (if (rd l1 (wrap64 (x17_2 - 1))) ≥ (rd l1 x17_2) then (some 1) else (leaf_Check.l0 k2 a0 l1 l1 (l1.length : Int) (wrap64 (x17_2 + 1)))) else (none)) else (none)) else (leaf_Check.l0 k2 a0 l1 l1 (l1.length : Int) (wrap64 (x17_2 + 1)))) else (some 1)) = some r := H
          have A10 := ak_ A100
          clear A100
          by_cases c11 : t211 = true
          ·subst c11
           have H1 : (if x17_2 > 0 then (if 0 ≤ (wrap64 (x17_2 - 1)) then (if (wrap64 (x17_2 - 1)) < (l1.length : Int) then (if (rd l1 (wrap64 (x17_2 - 1))) ≥ (rd l1 x17_2) then (some 1) else (leaf_Check.l0 k2 a0 l1 l1 (l1.length : Int) (wrap64 (x17_2 + 1)))) else (none)) else (none)) else (leaf_Check.l0 k2 a0 l1 l1 (l1.length : Int) (wrap64 (x17_2 + 1)))) = some r := by rw [if_pos rfl] at H; exact H
           clear H
           have H := H1
           clear H1
           by_cases c12 : x17_2 > 0
           ·rw [if_pos c12] at H
            have c12b0 : decide (0 < x17_2) = true := decide_eq_true c12
            clear c12
            obtain ⟨ji13, hji13⟩ : ∃ j_ : Int, (wrap64 (x17_2 - 1)) = j_ := ⟨_, rfl⟩
            replace H : (if 0 ≤ (ji13) then (if (ji13) < (l1.length : Int) then (if (rd l1 (ji13)) ≥ (rd l1 x17_2) then (some 1) else (leaf_Check.l0 k2 a0 l1 l1 (l1.length : Int) (wrap64 (x17_2 + 1)))) else (none)) else (none)) = some r := by first | (rw [hji13] at H; exact H) | (simp only [hji13] at H ⊢; exact H)
            (try rw [hji13] at A10)
            have hji13w : (IntKind.i64.wrap (x17_2 - 1)) = ji13 := (i64_w _).trans hji13
            by_cases c14 : 0 ≤ (ji13)
            ·rw [if_pos c14] at H
             have c14b0 := decide_eq_true c14
             clear c14
             by_cases c15 : (ji13) < (l1.length : Int)
             ·rw [if_pos c15] at H
              have c15b0 := decide_eq_true c15
              clear c15
              by_cases c16 : (rd l1 (ji13)) ≥ (rd l1 x17_2)
              ·rw [if_pos c16] at H
               have c16b0 : decide ((rd l1 x17_2) ≤ (rd l1 (ji13))) = true := decide_eq_true c16
               clear c16
               obtain rfl := Option.some.inj H
               have p210 : 0 ≤ (x17_2 : Int) := od_ (by first | (with_reducible assumption) | assumption)
               have q210 : x17_2 < (l1.length : Int) := od_ (by first | (with_reducible assumption) | assumption)
               obtain ⟨ad210, e210, hx210_0⟩ := Kd.at_int HR1.out x17_2 p210 q210
               cases e210
               replace p210 := eq_true p210
               replace q210 := eq_true q210
               go_wp2_with (first | ((with_reducible refine gate_callee (f := 34) rfl ?_); refine goesL_ (some 24) rfl rfl func34 (by kernel_rfl) rfl #[.int .i64 a0, .int .u64 (rd l1 x17_2)] rfl (by (try simp only [map_toArray, map_cons, map_nil]); first | done | rfl) ?_; (with_reducible refine (leaf_is.calls a0 (rd l1 x17_2) true _ A10.out).mono ?_); rintro e w' ⟨rfl, ⟨nd, rfl⟩⟩; refine ⟨_, rfl, ?_⟩; have p212 : 0 ≤ ((ji13) : Int) := od_ (by first | (with_reducible assumption) | assumption); have q212 : (ji13) < (l1.length : Int) := od_ (by first | (with_reducible assumption) | assumption); obtain ⟨ad212, e212, hx212_0⟩ := Kd.at_int HR1.out (ji13) p212 q212; obtain rfl : ad210 = ad212 := (by injection e212); replace p212 := eq_true p212; replace q212 := eq_true q212))
               go_ret
               exact ⟨by first | rfl | (simp; done) | (simp only [← hji13] <;> (first | rfl | simp)) | (simp [*]; done), by repeat (first | exact Drawn0.refl _ | apply Drawn0.step)⟩
              ·rw [if_neg c16] at H
               have c16b0 : decide ((rd l1 x17_2) ≤ (rd l1 (ji13))) = false := decide_eq_false c16
               clear c16
               have H' := ak_ H
               clear H
               have p210 : 0 ≤ (x17_2 : Int) := od_ (by first | (with_reducible assumption) | assumption)
               have q210 : x17_2 < (l1.length : Int) := od_ (by first | (with_reducible assumption) | assumption)
               obtain ⟨ad210, e210, hx210_0⟩ := Kd.at_int HR1.out x17_2 p210 q210
               cases e210
               replace p210 := eq_true p210
               replace q210 := eq_true q210
               go_wp2_with (first | ((with_reducible refine gate_callee (f := 34) rfl ?_); refine goesL_ (some 24) rfl rfl func34 (by kernel_rfl) rfl #[.int .i64 a0, .int .u64 (rd l1 x17_2)] rfl (by (try simp only [map_toArray, map_cons, map_nil]); first | done | rfl) ?_; (with_reducible refine (leaf_is.calls a0 (rd l1 x17_2) true _ A10.out).mono ?_); rintro e w' ⟨rfl, ⟨nd, rfl⟩⟩; refine ⟨_, rfl, ?_⟩; have p212 : 0 ≤ ((ji13) : Int) := od_ (by first | (with_reducible assumption) | assumption); have q212 : (ji13) < (l1.length : Int) := od_ (by first | (with_reducible assumption) | assumption); obtain ⟨ad212, e212, hx212_0⟩ := Kd.at_int HR1.out (ji13) p212 q212; obtain rfl : ad210 = ad212 := (by injection e212); replace p212 := eq_true p212; replace q212 := eq_true q212))
               go_roundg k2
               case measure => have := HJ2.out; have := HK2.out; omega
               case rel => exact ⟨(wrap64 (x17_2 + 1)), (by first | rfl | (simp; done) | (simp [*]; done)), H', ⟨by have := HJ2.out; have := HK2.out; omega⟩, by repeat (first | exact Drawn0.refl _ | apply Drawn0.step)⟩
             ·rw [if_neg c15] at H
              exact absurd H (by simp)
            ·rw [if_neg c14] at H
             exact absurd H (by simp)
           ·rw [if_neg c12] at H
            have c12b0 : decide (0 < x17_2) = false := decide_eq_false c12
            clear c12
            have H' := ak_ H
            clear H
            have p210 : 0 ≤ (x17_2 : Int) := od_ (by first | (with_reducible assumption) | assumption)
            have q210 : x17_2 < (l1.length : Int) := od_ (by first | (with_reducible assumption) | assumption)
            obtain ⟨ad210, e210, hx210_0⟩ := Kd.at_int HR1.out x17_2 p210 q210
            cases e210
            replace p210 := eq_true p210
            replace q210 := eq_true q210
            go_wp2_with (first | ((with_reducible refine gate_callee (f := 34) rfl ?_); refine goesL_ (some 24) rfl rfl func34 (by kernel_rfl) rfl #[.int .i64 a0, .int .u64 (rd l1 x17_2)] rfl (by (try simp only [map_toArray, map_cons, map_nil]); first | done | rfl) ?_; (with_reducible refine (leaf_is.calls a0 (rd l1 x17_2) true _ A10.out).mono ?_); rintro e w' ⟨rfl, ⟨nd, rfl⟩⟩; refine ⟨_, rfl, ?_⟩))
            go_roundg k2
            case measure => have := HJ2.out; have := HK2.out; omega
            case rel => exact ⟨(wrap64 (x17_2 + 1)), (by first | rfl | (simp; done) | (simp [*]; done)), H', ⟨by have := HJ2.out; have := HK2.out; omega⟩, by repeat (first | exact Drawn0.refl _ | apply Drawn0.step)⟩
          ·replace c11 := Bool.eq_false_iff.mpr c11
           subst c11
           have H1 : (some 1) = some r := by rw [if_neg (show ¬ (false = true) by decide)] at H; exact H
           clear H
           have H := H1
           clear H1
           obtain rfl := Option.some.inj H
           have p210 : 0 ≤ (x17_2 : Int) := od_ (by first | (with_reducible assumption) | assumption)
           have q210 : x17_2 < (l1.length : Int) := od_ (by first | (with_reducible assumption) | assumption)
           obtain ⟨ad210, e210, hx210_0⟩ := Kd.at_int HR1.out x17_2 p210 q210
           cases e210
           replace p210 := eq_true p210
           replace q210 := eq_true q210
           go_wp2_with (first | ((with_reducible refine gate_callee (f := 34) rfl ?_); refine goesL_ (some 24) rfl rfl func34 (by kernel_rfl) rfl #[.int .i64 a0, .int .u64 (rd l1 x17_2)] rfl (by (try simp only [map_toArray, map_cons, map_nil]); first | done | rfl) ?_; (with_reducible refine (leaf_is.calls a0 (rd l1 x17_2) false _ A10.out).mono ?_); rintro e w' ⟨rfl, ⟨nd, rfl⟩⟩; refine ⟨_, rfl, ?_⟩))
           go_ret
           exact ⟨by first | rfl | (simp; done) | (simp [*]; done), by repeat (first | exact Drawn0.refl _ | apply Drawn0.step)⟩
         ·rw [if_neg c9] at H
          exact absurd H (by simp)
        ·rw [if_neg c8] at H
         exact absurd H (by simp)
       ·rw [if_neg c7] at H
        have c7b0 := decide_eq_false c7
        clear c7
        obtain rfl := Option.some.inj H
        go_wp2
        go_ret
        exact ⟨by first | rfl | (simp; done) | (simp [*]; done), by repeat (first | exact Drawn0.refl _ | apply Drawn0.step)⟩
def cmp_isNaN_uint64.f (a0 : Int) : Option (Bool) := some (a0 != a0)
set_option maxHeartbeats 8000000 in
set_option maxRecDepth 100000 in
theorem cmp_isNaN_uint64.calls (a0 : Int) (r : Bool) (w : World) (h : cmp_isNaN_uint64.f a0 = some r) :
   Calls Try.prog 109 #[.int .u64 a0] w fun e w' => e = .returned (.bool r) ∧ Drawn0 w w' := by
  have H : (some (a0 != a0)) = some r := h
  clear h
  obtain rfl := Option.some.inj H
  go_enter func109, ntmps109
  go_wp2
  go_ret
  exact ⟨by first | rfl | (simp; done) | (simp [*]; done), by repeat (first | exact Drawn0.refl _ | apply Drawn0.step)⟩
def cmp_Less_uint64.f (a0 : Int) (a1 : Int) : Option (Bool) := (cmp_isNaN_uint64.f a0).bind fun t213 => (if t213 = true then ((cmp_isNaN_uint64.f a1).bind fun t214 => (if t214 = true then (some (decide (a0 < a1))) else (some true))) else (some (decide (a0 < a1))))
set_option maxHeartbeats 8000000 in
set_option maxRecDepth 100000 in
theorem cmp_Less_uint64.calls (a0 : Int) (a1 : Int) (r : Bool) (w : World) (h : cmp_Less_uint64.f a0 a1 = some r) :
   Calls Try.prog 98 #[.int .u64 a0, .int .u64 a1] w fun e w' => e = .returned (.bool r) ∧ Drawn0 w w' := by
  have H : ((cmp_isNaN_uint64.f a0).bind fun t213 => (if t213 = true then ((cmp_isNaN_uint64.f a1).bind fun t214 => (if t214 = true then (some (decide (a0 < a1))) else (some true))) else (some (decide (a0 < a1))))) = some r := h
  clear h
  replace H := bind_eq_some_iff.mp H
  obtain ⟨t213, A30, H⟩ := H
  replace H : (if t213 = true then ((cmp_isNaN_uint64.f a1).bind fun t214 => (if t214 = true then (some (decide (a0 < a1))) else (some true))) else (some (decide (a0 < a1)))) = some r := H
  have A3 := ak_ A30
  clear A30
  by_cases c4 : t213 = true
  ·subst c4
   have H1 : ((cmp_isNaN_uint64.f a1).bind fun t214 => (if t214 = true then (some (decide (a0 < a1))) else (some true))) = some r := by rw [if_pos rfl] at H; exact H
   clear H
   have H := H1
   clear H1
   replace H := bind_eq_some_iff.mp H
   obtain ⟨t214, A50, H⟩ := H
   replace H : (if t214 = true then (some (decide (a0 < a1))) else (some true)) = some r := H
   have A5 := ak_ A50
   clear A50
   by_cases c6 : t214 = true
   ·subst c6
    have H1 : (some (decide (a0 < a1))) = some r := by rw [if_pos rfl] at H; exact H
    clear H
    have H := H1
    clear H1
    obtain rfl := Option.some.inj H
    go_enter func98, ntmps98
    go_wp2_with (first | ((with_reducible refine gate_callee (f := 109) rfl ?_); refine goesL_ (some 6) rfl rfl func109 (by kernel_rfl) rfl #[.int .u64 a0] rfl (by (try simp only [map_toArray, map_cons, map_nil]); first | done | rfl) ?_; (with_reducible refine (cmp_isNaN_uint64.calls a0 true _ A3.out).mono ?_); rintro e w' ⟨rfl, ⟨nd, rfl⟩⟩; refine ⟨_, rfl, ?_⟩) | (go_at_call 109; (with_reducible refine (cmp_isNaN_uint64.calls a1 true _ A5.out).mono ?_); rintro e w' ⟨rfl, ⟨nd, rfl⟩⟩))
    go_ret
    exact ⟨by first | rfl | (simp; done) | (simp [*]; done), by repeat (first | exact Drawn0.refl _ | apply Drawn0.step)⟩
   ·replace c6 := Bool.eq_false_iff.mpr c6
    subst c6
    have H1 : (some true) = some r := by rw [if_neg (show ¬ (false = true) by decide)] at H; exact H
    clear H
    have H := H1
    clear H1
    obtain rfl := Option.some.inj H
    go_enter func98, ntmps98
    go_wp2_with (first | ((with_reducible refine gate_callee (f := 109) rfl ?_); refine goesL_ (some 6) rfl rfl func109 (by kernel_rfl) rfl #[.int .u64 a0] rfl (by (try simp only [map_toArray, map_cons, map_nil]); first | done | rfl) ?_; (with_reducible refine (cmp_isNaN_uint64.calls a0 true _ A3.out).mono ?_); rintro e w' ⟨rfl, ⟨nd, rfl⟩⟩; refine ⟨_, rfl, ?_⟩) | (go_at_call 109; (with_reducible refine (cmp_isNaN_uint64.calls a1 false _ A5.out).mono ?_); rintro e w' ⟨rfl, ⟨nd, rfl⟩⟩))
    go_ret
    exact ⟨by first | rfl | (simp; done) | (simp [*]; done), by repeat (first | exact Drawn0.refl _ | apply Drawn0.step)⟩
  ·replace c4 := Bool.eq_false_iff.mpr c4
   subst c4
   have H1 : (some (decide (a0 < a1))) = some r := by rw [if_neg (show ¬ (false = true) by decide)] at H; exact H
   clear H
   have H := H1
   clear H1
   obtain rfl := Option.some.inj H
   go_enter func98, ntmps98
   go_wp2_with (first | ((with_reducible refine gate_callee (f := 109) rfl ?_); refine goesL_ (some 6) rfl rfl func109 (by kernel_rfl) rfl #[.int .u64 a0] rfl (by (try simp only [map_toArray, map_cons, map_nil]); first | done | rfl) ?_; (with_reducible refine (cmp_isNaN_uint64.calls a0 false _ A3.out).mono ?_); rintro e w' ⟨rfl, ⟨nd, rfl⟩⟩; refine ⟨_, rfl, ?_⟩))
   go_ret
   exact ⟨by first | rfl | (simp; done) | (simp [*]; done), by repeat (first | exact Drawn0.refl _ | apply Drawn0.step)⟩
def slices_isNaN_uint64.f (a0 : Int) : Option (Bool) := some (a0 != a0)
set_option maxHeartbeats 8000000 in
set_option maxRecDepth 100000 in
theorem slices_isNaN_uint64.calls (a0 : Int) (r : Bool) (w : World) (h : slices_isNaN_uint64.f a0 = some r) :
   Calls Try.prog 99 #[.int .u64 a0] w fun e w' => e = .returned (.bool r) ∧ Drawn0 w w' := by
  have H : (some (a0 != a0)) = some r := h
  clear h
  obtain rfl := Option.some.inj H
  go_enter func99, ntmps99
  go_wp2
  go_ret
  exact ⟨by first | rfl | (simp; done) | (simp [*]; done), by repeat (first | exact Drawn0.refl _ | apply Drawn0.step)⟩
def slices_BinarySearch_uint64_uint64.l0 : Nat → List Int → Int → Int → Int → Int → Option (Int × Bool)
  | 0, _, _, _, _, _ => none
  | k + 1, x0, x1, x6, x7, x8 => if x7 < x8 then (if 0 ≤ (wrap64 ((IntKind.u64.wrap (wrap64 (x7 + x8))) / 2)) then (if (wrap64 ((IntKind.u64.wrap (wrap64 (x7 + x8))) / 2)) < (x0.length : Int) then ((cmp_Less_uint64.f (rd x0 (wrap64 ((IntKind.u64.wrap (wrap64 (x7 + x8))) / 2))) x1).bind fun t216 => (if t216 = true then (slices_BinarySearch_uint64_uint64.l0 k x0 x1 x6 (wrap64 ((wrap64 ((IntKind.u64.wrap (wrap64 (x7 + x8))) / 2)) + 1)) x8) else (slices_BinarySearch_uint64_uint64.l0 k x0 x1 x6 x7 (wrap64 ((IntKind.u64.wrap (wrap64 (x7 + x8))) / 2))))) else (none)) else (none)) else (if x7 < x6 then (if 0 ≤ x7 then (if x7 < (x0.length : Int) then (if (rd x0 x7) = x1 then (some (x7, true)) else ((slices_isNaN_uint64.f (rd x0 x7)).bind fun t219 => (if t219 = true then ((slices_isNaN_uint64.f x1).bind fun t220 => (some (x7, t220))) else (some (x7, false))))) else (none)) else (none)) else (some (x7, false)))
def slices_BinarySearch_uint64_uint64.f (k : Nat) (l0 : List Int) (a1 : Int) : Option (Int × Bool) := slices_BinarySearch_uint64_uint64.l0 k l0 a1 (l0.length : Int) 0 (l0.length : Int)
theorem slices_BinarySearch_uint64_uint64.mono_l : ∀ k, (∀ y0 y1 y2 y3 y4, LeO (slices_BinarySearch_uint64_uint64.l0 k y0 y1 y2 y3 y4) (slices_BinarySearch_uint64_uint64.l0 (k + 1) y0 y1 y2 y3 y4))
  | 0 => fun _ _ _ _ _ r h => by simp [slices_BinarySearch_uint64_uint64.l0] at h
  | k + 1 => by
   have ih0 := slices_BinarySearch_uint64_uint64.mono_l k
   ·intro y0 y1 y2 y3 y4
    unfold slices_BinarySearch_uint64_uint64.l0
    repeat' first
    | (with_reducible exact ih0 _ _ _ _ _)
    | (with_reducible exact LeO.refl _)
    | (with_reducible exact LeO.none _)
    | (with_reducible refine LeO.ite ?_ ?_)
    | (with_reducible refine LeO.bind ?_ (fun _ => ?_))
    | exact ih0 _ _ _ _ _
    | exact LeO.none _
    | refine LeO.ite ?_ ?_
    | refine LeO.bind ?_ (fun _ => ?_)
theorem slices_BinarySearch_uint64_uint64.mono : ∀ a0 a1 k, LeO (slices_BinarySearch_uint64_uint64.f k a0 a1) (slices_BinarySearch_uint64_uint64.f (k + 1) a0 a1) := by
  intro a0 a1 k
  have ih0 := slices_BinarySearch_uint64_uint64.mono_l k
  unfold slices_BinarySearch_uint64_uint64.f
  repeat' first
    | (with_reducible exact ih0 _ _ _ _ _)
    | (with_reducible exact LeO.refl _)
    | (with_reducible exact LeO.none _)
    | (with_reducible refine LeO.ite ?_ ?_)
    | (with_reducible refine LeO.bind ?_ (fun _ => ?_))
    | exact ih0 _ _ _ _ _
    | exact LeO.none _
    | refine LeO.ite ?_ ?_
    | refine LeO.bind ?_ (fun _ => ?_)
set_option maxHeartbeats 8000000 in
set_option maxRecDepth 100000 in
theorem slices_BinarySearch_uint64_uint64.calls (k : Nat) (A0 : Option Addr) (c0 : Nat) (l0 : List Int) (a1 : Int) (r1 : Int) (r2 : Bool) (w : World) (hr0 : Kd.C (Kd.int .u64) w A0 l0.length l0) (hc0 : l0.length ≤ c0) (h : slices_BinarySearch_uint64_uint64.f k l0 a1 = some (r1, r2)) :
   Calls Try.prog 76 #[.slice A0 l0.length c0, .int .u64 a1] w fun e w' => e = .returned (.tuple #[.int .i64 r1, .bool r2]) ∧ Drawn0 w w' := by
  have HR0 := ak_ hr0
  have HC0 := ak_ hc0
  clear hr0 hc0
  have H : (slices_BinarySearch_uint64_uint64.l0 k l0 a1 (l0.length : Int) 0 (l0.length : Int)) = some (r1, r2) := h
  clear h
  have H' := ak_ H
  clear H
  go_enter func76, ntmps76
  go_wp2
  go_loopg [7, 8] k (fun kq v7 v8 w' => ∃ (x7_1 : Int) (x8_1 : Int), v7 = .int .i64 x7_1 ∧ v8 = .int .i64 x8_1 ∧ Aside0 (slices_BinarySearch_uint64_uint64.l0 kq l0 a1 (l0.length : Int) x7_1 x8_1 = some (r1, r2)) ∧ Aside0 (kq ≤ k) ∧ Drawn0 w w')
  case atStart => exact ⟨(0), ((l0.length : Int)), (by first | rfl | (simp; done) | (simp [*]; done)), (by first | rfl | (simp; done) | (simp [*]; done)), H', ⟨Nat.le_refl _⟩, by repeat (first | exact Drawn0.refl _ | apply Drawn0.step)⟩
  case round =>
   clear H'
   try clear p2
   obtain ⟨x7_1, x8_1, rfl, rfl, HA, HK1, ⟨m1, rfl⟩⟩ := hrel
   cases gk with
   | zero => exact absurd HA.out (by simp [slices_BinarySearch_uint64_uint64.l0])
   | succ k1 =>
    have H := HA.out
    clear HA
    simp only [slices_BinarySearch_uint64_uint64.l0] at H
    by_cases c3 : x7_1 < x8_1
    ·rw [if_pos c3] at H
     have c3b0 := decide_eq_true c3
     clear c3
     obtain ⟨ji4, hji4⟩ : ∃ j_ : Int, (wrap64 ((IntKind.u64.wrap (wrap64 (x7_1 + x8_1))) / 2)) = j_ := ⟨_, rfl⟩
     replace H : (if 0 ≤ (ji4) then (if (ji4) < (l0.length : Int) then ((cmp_Less_uint64.f (rd l0 (ji4)) a1).bind fun t216 => (if t216 = true then (slices_BinarySearch_uint64_uint64.l0 k1 l0 a1 (l0.length : Int) (wrap64 ((ji4) + 1)) x8_1) else (slices_BinarySearch_uint64_uint64.l0 k1 l0 a1 (l0.length : Int) x7_1 ji4))) else (none)) else (none)) = some (r1, r2) := by first | (rw [hji4] at H; exact H) | (simp only [hji4] at H ⊢; exact H)
     have hji4w : (IntKind.i64.wrap ((IntKind.u64.wrap (wrap64 (x7_1 + x8_1))) / 2)) = ji4 := (i64_w _).trans hji4
     by_cases c5 : 0 ≤ (ji4)
     ·rw [if_pos c5] at H
      have c5b0 := decide_eq_true c5
      clear c5
      by_cases c6 : (ji4) < (l0.length : Int)
      ·rw [if_pos c6] at H
       have c6b0 := decide_eq_true c6
       clear c6
       replace H := bind_eq_some_iff.mp H
       obtain ⟨t216, A70, H⟩ := H
       replace H : (if t216 = true then (slices_BinarySearch_uint64_uint64.l0 k1 l0 a1 (l0.length : Int) (wrap64 ((ji4) + 1)) x8_1) else (slices_BinarySearch_uint64_uint64.l0 k1 l0 a1 (l0.length : Int) x7_1 ji4)) = some (r1, r2) := H
       have A7 := ak_ A70
       clear A70
       by_cases c8 : t216 = true
       ·subst c8
        have H1 : (slices_BinarySearch_uint64_uint64.l0 k1 l0 a1 (l0.length : Int) (wrap64 ((ji4) + 1)) x8_1) = some (r1, r2) := by rw [if_pos rfl] at H; exact H
        clear H
        have H := H1
        clear H1
        have H' := ak_ H
        clear H
        have p215 : 0 ≤ ((ji4) : Int) := od_ (by first | (with_reducible assumption) | assumption)
        have q215 : (ji4) < (l0.length : Int) := od_ (by first | (with_reducible assumption) | assumption)
        obtain ⟨ad215, e215, hx215_0⟩ := Kd.at_int HR0.out (ji4) p215 q215
        cases e215
        replace p215 := eq_true p215
        replace q215 := eq_true q215
        go_wp2_with (first | ((with_reducible refine gate_callee (f := 98) rfl ?_); refine goesL_ (some 27) rfl rfl func98 (by kernel_rfl) rfl #[.int .u64 (rd l0 (ji4)), .int .u64 a1] rfl (by (try simp only [map_toArray, map_cons, map_nil]); first | done | (simp only [hji4]; rfl) | rfl | (simp only [length_drop, length_take]; rfl)) ?_; (with_reducible refine (cmp_Less_uint64.calls (rd l0 (ji4)) a1 true _ A7.out).mono ?_); rintro e w' ⟨rfl, ⟨nd, rfl⟩⟩; refine ⟨_, rfl, ?_⟩))
        go_roundg k1
        case measure => have := HK1.out; omega
        case rel => exact ⟨(wrap64 ((ji4) + 1)), (x8_1), (by first | rfl | (simp; done) | (simp only [← hji4] <;> (first | rfl | simp)) | (simp [*]; done)), (by first | rfl | (simp; done) | (simp [*]; done)), H', ⟨by have := HK1.out; omega⟩, by repeat (first | exact Drawn0.refl _ | apply Drawn0.step)⟩
       ·replace c8 := Bool.eq_false_iff.mpr c8
        subst c8
        have H1 : (slices_BinarySearch_uint64_uint64.l0 k1 l0 a1 (l0.length : Int) x7_1 ji4) = some (r1, r2) := by rw [if_neg (show ¬ (false = true) by decide)] at H; exact H
        clear H
        have H := H1
        clear H1
        have H' := ak_ H
        clear H
        have p215 : 0 ≤ ((ji4) : Int) := od_ (by first | (with_reducible assumption) | assumption)
        have q215 : (ji4) < (l0.length : Int) := od_ (by first | (with_reducible assumption) | assumption)
        obtain ⟨ad215, e215, hx215_0⟩ := Kd.at_int HR0.out (ji4) p215 q215
        cases e215
        replace p215 := eq_true p215
        replace q215 := eq_true q215
        go_wp2_with (first | ((with_reducible refine gate_callee (f := 98) rfl ?_); refine goesL_ (some 27) rfl rfl func98 (by kernel_rfl) rfl #[.int .u64 (rd l0 (ji4)), .int .u64 a1] rfl (by (try simp only [map_toArray, map_cons, map_nil]); first | done | (simp only [hji4]; rfl) | rfl | (simp only [length_drop, length_take]; rfl)) ?_; (with_reducible refine (cmp_Less_uint64.calls (rd l0 (ji4)) a1 false _ A7.out).mono ?_); rintro e w' ⟨rfl, ⟨nd, rfl⟩⟩; refine ⟨_, rfl, ?_⟩))
        go_roundg k1
        case measure => have := HK1.out; omega
        case rel => exact ⟨(x7_1), (ji4), (by first | rfl | (simp; done) | (simp [*]; done)), (by first | rfl | (simp; done) | (simp only [← hji4] <;> (first | rfl | simp)) | (simp [*]; done)), H', ⟨by have := HK1.out; omega⟩, by repeat (first | exact Drawn0.refl _ | apply Drawn0.step)⟩
      ·rw [if_neg c6] at H
       exact absurd H (by simp)
     ·rw [if_neg c5] at H
      exact absurd H (by simp)
    ·rw [if_neg c3] at H
     have c3b0 := decide_eq_false c3
     clear c3
     by_cases c9 : x7_1 < (l0.length : Int)
     ·rw [if_pos c9] at H
      have c9b0 := decide_eq_true c9
      clear c9
      by_cases c10 : 0 ≤ x7_1
      ·rw [if_pos c10] at H
       have c10b0 := decide_eq_true c10
       clear c10
       by_cases c11 : x7_1 < (l0.length : Int)
       ·rw [if_pos c11] at H
        have c11b0 := decide_eq_true c11
        clear c11
        by_cases c12 : (rd l0 x7_1) = a1
        ·rw [if_pos c12] at H
         have c12b0 : ((rd l0 x7_1) == a1) = true := beq_iff_eq.mpr c12
         have c12b1 : ((rd l0 x7_1) != a1) = false := bne_eq_false_iff_eq.mpr c12
         clear c12
         simp only [some.injEq, Prod.mk.injEq] at H
         obtain ⟨rfl, rfl⟩ := H
         have p217 : 0 ≤ (x7_1 : Int) := od_ (by first | (with_reducible assumption) | assumption)
         have q217 : x7_1 < (l0.length : Int) := od_ (by first | (with_reducible assumption) | assumption)
         obtain ⟨ad217, e217, hx217_0⟩ := Kd.at_int HR0.out x7_1 p217 q217
         cases e217
         replace p217 := eq_true p217
         replace q217 := eq_true q217
         go_wp2
         go_ret2
         exact ⟨by first | rfl | (simp; done) | (simp [*]; done), by repeat (first | exact Drawn0.refl _ | apply Drawn0.step)⟩
        ·rw [if_neg c12] at H
         have c12b0 : ((rd l0 x7_1) == a1) = false := beq_eq_false_iff_ne.mpr c12
         have c12b1 : ((rd l0 x7_1) != a1) = true := bne_iff_ne.mpr c12
         replace H := bind_eq_some_iff.mp H
         obtain ⟨t219, A130, H⟩ := H
         replace H : (if t219 = true then ((slices_isNaN_uint64.f a1).bind fun t220 => (some (x7_1, t220))) else (some (x7_1, false))) = some (r1, r2) := H
         have A13 := ak_ A130
         clear A130
         by_cases c14 : t219 = true
         ·subst c14
          have H1 : ((slices_isNaN_uint64.f a1).bind fun t220 => (some (x7_1, t220))) = some (r1, r2) := by rw [if_pos rfl] at H; exact H
          clear H
          have H := H1
          clear H1
          replace H := bind_eq_some_iff.mp H
          obtain ⟨t220, A150, H⟩ := H
          replace H : (some (x7_1, t220)) = some (r1, r2) := H
          have A15 := ak_ A150
          clear A150
          simp only [some.injEq, Prod.mk.injEq] at H
          obtain ⟨rfl, rfl⟩ := H
          have p217 : 0 ≤ (x7_1 : Int) := od_ (by first | (with_reducible assumption) | assumption)
          have q217 : x7_1 < (l0.length : Int) := od_ (by first | (with_reducible assumption) | assumption)
          obtain ⟨ad217, e217, hx217_0⟩ := Kd.at_int HR0.out x7_1 p217 q217
          cases e217
          replace p217 := eq_true p217
          replace q217 := eq_true q217
          have p218 : 0 ≤ (x7_1 : Int) := od_ (by first | (with_reducible assumption) | assumption)
          have q218 : x7_1 < (l0.length : Int) := od_ (by first | (with_reducible assumption) | assumption)
          obtain ⟨ad218, e218, hx218_0⟩ := Kd.at_int HR0.out x7_1 p218 q218
          obtain rfl : ad217 = ad218 := (by injection e218)
          replace p218 := eq_true p218
          replace q218 := eq_true q218
          go_wp2_with (first | (go_at_call 99; (with_reducible refine (slices_isNaN_uint64.calls (rd l0 x7_1) true _ A13.out).mono ?_); rintro e w' ⟨rfl, ⟨nd, rfl⟩⟩) | (go_at_call 99; (with_reducible refine (slices_isNaN_uint64.calls a1 t220 _ A15.out).mono ?_); rintro e w' ⟨rfl, ⟨nd, rfl⟩⟩))
          go_ret2
          exact ⟨by first | rfl | (simp; done) | (simp [*]; done), by repeat (first | exact Drawn0.refl _ | apply Drawn0.step)⟩
         ·replace c14 := Bool.eq_false_iff.mpr c14
          subst c14
          have H1 : (some (x7_1, false)) = some (r1, r2) := by rw [if_neg (show ¬ (false = true) by decide)] at H; exact H
          clear H
          have H := H1
          clear H1
          simp only [some.injEq, Prod.mk.injEq] at H
          obtain ⟨rfl, rfl⟩ := H
          have p217 : 0 ≤ (x7_1 : Int) := od_ (by first | (with_reducible assumption) | assumption)
          have q217 : x7_1 < (l0.length : Int) := od_ (by first | (with_reducible assumption) | assumption)
          obtain ⟨ad217, e217, hx217_0⟩ := Kd.at_int HR0.out x7_1 p217 q217
          cases e217
          replace p217 := eq_true p217
          replace q217 := eq_true q217
          have p218 : 0 ≤ (x7_1 : Int) := od_ (by first | (with_reducible assumption) | assumption)
          have q218 : x7_1 < (l0.length : Int) := od_ (by first | (with_reducible assumption) | assumption)
          obtain ⟨ad218, e218, hx218_0⟩ := Kd.at_int HR0.out x7_1 p218 q218
          obtain rfl : ad217 = ad218 := (by injection e218)
          replace p218 := eq_true p218
          replace q218 := eq_true q218
          go_wp2_with (first | (go_at_call 99; (with_reducible refine (slices_isNaN_uint64.calls (rd l0 x7_1) false _ A13.out).mono ?_); rintro e w' ⟨rfl, ⟨nd, rfl⟩⟩))
          go_ret2
          exact ⟨by first | rfl | (simp; done) | (simp [*]; done), by repeat (first | exact Drawn0.refl _ | apply Drawn0.step)⟩
       ·rw [if_neg c11] at H
        exact absurd H (by simp)
      ·rw [if_neg c10] at H
       exact absurd H (by simp)
     ·rw [if_neg c9] at H
      have c9b0 := decide_eq_false c9
      clear c9
      simp only [some.injEq, Prod.mk.injEq] at H
      obtain ⟨rfl, rfl⟩ := H
      go_wp2
      go_ret2
      exact ⟨by first | rfl | (simp; done) | (simp [*]; done), by repeat (first | exact Drawn0.refl _ | apply Drawn0.step)⟩
def leaf_find.f (k : Nat) (a0 : Int) (l1 : List Int) (a2 : Int) : Option (Int × Bool × Int) := (leaf_Check.f k a0 l1).bind fun t221 => (if t221 = 0 then ((leaf_is.f a0 a2).bind fun t222 => (if t222 = true then ((slices_BinarySearch_uint64_uint64.f k l1 a2).bind fun bt223 => (some (bt223.1, bt223.2, 0))) else (some (0, false, 1)))) else (some (0, false, 1)))
theorem leaf_find.mono : ∀ a0 a1 a2 k, LeO (leaf_find.f k a0 a1 a2) (leaf_find.f (k + 1) a0 a1 a2) := by
  intro a0 a1 a2 k
  unfold leaf_find.f
  repeat' first
    | (with_reducible exact leaf_Check.mono _ _ _)
    | (with_reducible exact slices_BinarySearch_uint64_uint64.mono _ _ _)
    | (with_reducible exact LeO.refl _)
    | (with_reducible exact LeO.none _)
    | (with_reducible refine LeO.ite ?_ ?_)
    | (with_reducible refine LeO.bind ?_ (fun _ => ?_))
    | exact leaf_Check.mono _ _ _
    | exact slices_BinarySearch_uint64_uint64.mono _ _ _
    | exact LeO.none _
    | refine LeO.ite ?_ ?_
    | refine LeO.bind ?_ (fun _ => ?_)
set_option maxHeartbeats 8000000 in
set_option maxRecDepth 100000 in
theorem leaf_find.calls (k : Nat) (a0 : Int) (A1 : Option Addr) (c1 : Nat) (l1 : List Int) (a2 : Int) (r1 : Int) (r2 : Bool) (r3 : Int) (w : World) (hr1 : Kd.C (Kd.int .u64) w A1 l1.length l1) (hc1 : l1.length ≤ c1) (h : leaf_find.f k a0 l1 a2 = some (r1, r2, r3)) :
   Calls Try.prog 54 #[.int .i64 a0, .slice A1 l1.length c1, .int .u64 a2] w fun e w' => e = .returned (.tuple #[.int .i64 r1, .bool r2, .int .i64 r3]) ∧ Drawn0 w w' := by
  have HR1 := ak_ hr1
  have HC1 := ak_ hc1
  clear hr1 hc1
  have H : ((leaf_Check.f k a0 l1).bind fun t221 => (if t221 = 0 then ((leaf_is.f a0 a2).bind fun t222 => (if t222 = true then ((slices_BinarySearch_uint64_uint64.f k l1 a2).bind fun bt223 => (some (bt223.1, bt223.2, 0))) else (some (0, false, 1)))) else (some (0, false, 1)))) = some (r1, r2, r3) := h
  clear h
  replace H := bind_eq_some_iff.mp H
  obtain ⟨t221, A40, H⟩ := H
  replace H : (if t221 = 0 then ((leaf_is.f a0 a2).bind fun t222 => (if t222 = true then ((slices_BinarySearch_uint64_uint64.f k l1 a2).bind fun bt223 => (some (bt223.1, bt223.2, 0))) else (some (0, false, 1)))) else (some (0, false, 1))) = some (r1, r2, r3) := H
  have A4 := ak_ A40
  clear A40
  by_cases c5 : t221 = 0
  ·rw [if_pos c5] at H
   have c5b0 : (t221 == 0) = true := beq_iff_eq.mpr c5
   have c5b1 : (t221 != 0) = false := bne_eq_false_iff_eq.mpr c5
   clear c5
   replace H := bind_eq_some_iff.mp H
   obtain ⟨t222, A60, H⟩ := H
   replace H : (if t222 = true then ((slices_BinarySearch_uint64_uint64.f k l1 a2).bind fun bt223 => (some (bt223.1, bt223.2, 0))) else (some (0, false, 1))) = some (r1, r2, r3) := H
   have A6 := ak_ A60
   clear A60
   by_cases c7 : t222 = true
   ·subst c7
    have H1 : ((slices_BinarySearch_uint64_uint64.f k l1 a2).bind fun bt223 => (some (bt223.1, bt223.2, 0))) = some (r1, r2, r3) := by rw [if_pos rfl] at H; exact H
    clear H
    have H := H1
    clear H1
    replace H := bind_eq_some_iff.mp H
    obtain ⟨⟨t223, t224⟩, A80, H⟩ := H
    replace H : (some (t223, t224, 0)) = some (r1, r2, r3) := H
    have A8 := ak_ A80
    clear A80
    simp only [some.injEq, Prod.mk.injEq] at H
    obtain ⟨rfl, rfl, rfl⟩ := H
    go_enter func54, ntmps54
    go_wp2_with (first | ((with_reducible refine gate_callee (f := 27) rfl ?_); refine goesL_ (some 13) rfl rfl func27 (by kernel_rfl) rfl #[.int .i64 a0, .slice A1 l1.length c1] rfl (by (try simp only [map_toArray, map_cons, map_nil]); first | done | rfl) ?_; (with_reducible refine (leaf_Check.calls k a0 _ _ l1 t221 _ ?side1 ?side2 A4.out).mono ?_); (case side1 => repeat (first | exact HR1.out | (with_reducible refine Kd.C_alloc ?_ _) | (with_reducible refine Kd.C_drewN ?_ _) | (with_reducible refine Kd.C_drew ?_))); (case side2 => exact HC1.out); rintro e w' ⟨rfl, ⟨nd, rfl⟩⟩; refine ⟨_, rfl, ?_⟩) | (go_at_call 34; (with_reducible refine (leaf_is.calls a0 a2 true _ A6.out).mono ?_); rintro e w' ⟨rfl, ⟨nd, rfl⟩⟩) | ((with_reducible refine gate_callee (f := 76) rfl ?_); refine goesL_ (some 24) rfl rfl func76 (by kernel_rfl) rfl #[.slice A1 l1.length c1, .int .u64 a2] rfl (by (try simp only [map_toArray, map_cons, map_nil]); first | done | rfl) ?_; (with_reducible refine (slices_BinarySearch_uint64_uint64.calls k _ _ l1 a2 t223 t224 _ ?side1 ?side2 A8.out).mono ?_); (case side1 => repeat (first | exact HR1.out | (with_reducible refine Kd.C_alloc ?_ _) | (with_reducible refine Kd.C_drewN ?_ _) | (with_reducible refine Kd.C_drew ?_))); (case side2 => exact HC1.out); rintro e w' ⟨rfl, ⟨nd, rfl⟩⟩; refine ⟨_, rfl, ?_⟩))
    go_ret3
    exact ⟨by first | rfl | (simp; done) | (simp [*]; done), by repeat (first | exact Drawn0.refl _ | apply Drawn0.step)⟩
   ·replace c7 := Bool.eq_false_iff.mpr c7
    subst c7
    have H1 : (some (0, false, 1)) = some (r1, r2, r3) := by rw [if_neg (show ¬ (false = true) by decide)] at H; exact H
    clear H
    have H := H1
    clear H1
    simp only [some.injEq, Prod.mk.injEq] at H
    obtain ⟨rfl, rfl, rfl⟩ := H
    go_enter func54, ntmps54
    go_wp2_with (first | ((with_reducible refine gate_callee (f := 27) rfl ?_); refine goesL_ (some 13) rfl rfl func27 (by kernel_rfl) rfl #[.int .i64 a0, .slice A1 l1.length c1] rfl (by (try simp only [map_toArray, map_cons, map_nil]); first | done | rfl) ?_; (with_reducible refine (leaf_Check.calls k a0 _ _ l1 t221 _ ?side1 ?side2 A4.out).mono ?_); (case side1 => repeat (first | exact HR1.out | (with_reducible refine Kd.C_alloc ?_ _) | (with_reducible refine Kd.C_drewN ?_ _) | (with_reducible refine Kd.C_drew ?_))); (case side2 => exact HC1.out); rintro e w' ⟨rfl, ⟨nd, rfl⟩⟩; refine ⟨_, rfl, ?_⟩) | (go_at_call 34; (with_reducible refine (leaf_is.calls a0 a2 false _ A6.out).mono ?_); rintro e w' ⟨rfl, ⟨nd, rfl⟩⟩))
    go_ret3
    exact ⟨by first | rfl | (simp; done) | (simp [*]; done), by repeat (first | exact Drawn0.refl _ | apply Drawn0.step)⟩
  ·rw [if_neg c5] at H
   have c5b0 : (t221 == 0) = false := beq_eq_false_iff_ne.mpr c5
   have c5b1 : (t221 != 0) = true := bne_iff_ne.mpr c5
   simp only [some.injEq, Prod.mk.injEq] at H
   obtain ⟨rfl, rfl, rfl⟩ := H
   go_enter func54, ntmps54
   go_wp2_with (first | ((with_reducible refine gate_callee (f := 27) rfl ?_); refine goesL_ (some 13) rfl rfl func27 (by kernel_rfl) rfl #[.int .i64 a0, .slice A1 l1.length c1] rfl (by (try simp only [map_toArray, map_cons, map_nil]); first | done | rfl) ?_; (with_reducible refine (leaf_Check.calls k a0 _ _ l1 t221 _ ?side1 ?side2 A4.out).mono ?_); (case side1 => repeat (first | exact HR1.out | (with_reducible refine Kd.C_alloc ?_ _) | (with_reducible refine Kd.C_drewN ?_ _) | (with_reducible refine Kd.C_drew ?_))); (case side2 => exact HC1.out); rintro e w' ⟨rfl, ⟨nd, rfl⟩⟩; refine ⟨_, rfl, ?_⟩))
   go_ret3
   exact ⟨by first | rfl | (simp; done) | (simp [*]; done), by repeat (first | exact Drawn0.refl _ | apply Drawn0.step)⟩
def leaf_Has.f (k : Nat) (a0 : Int) (l1 : List Int) (a2 : Int) : Option (Bool × Int) := (leaf_find.f k a0 l1 a2).bind fun bt225 => (some (bt225.2.1, bt225.2.2))
theorem leaf_Has.mono : ∀ a0 a1 a2 k, LeO (leaf_Has.f k a0 a1 a2) (leaf_Has.f (k + 1) a0 a1 a2) := by
  intro a0 a1 a2 k
  unfold leaf_Has.f
  repeat' first
    | (with_reducible exact leaf_find.mono _ _ _ _)
    | (with_reducible exact LeO.refl _)
    | (with_reducible exact LeO.none _)
    | (with_reducible refine LeO.ite ?_ ?_)
    | (with_reducible refine LeO.bind ?_ (fun _ => ?_))
    | exact leaf_find.mono _ _ _ _
    | exact LeO.none _
    | refine LeO.ite ?_ ?_
    | refine LeO.bind ?_ (fun _ => ?_)
set_option maxHeartbeats 8000000 in
set_option maxRecDepth 100000 in
theorem leaf_Has.calls (k : Nat) (a0 : Int) (A1 : Option Addr) (c1 : Nat) (l1 : List Int) (a2 : Int) (r1 : Bool) (r2 : Int) (w : World) (hr1 : Kd.C (Kd.int .u64) w A1 l1.length l1) (hc1 : l1.length ≤ c1) (h : leaf_Has.f k a0 l1 a2 = some (r1, r2)) :
   Calls Try.prog 35 #[.int .i64 a0, .slice A1 l1.length c1, .int .u64 a2] w fun e w' => e = .returned (.tuple #[.bool r1, .int .i64 r2]) ∧ Drawn0 w w' := by
  have HR1 := ak_ hr1
  have HC1 := ak_ hc1
  clear hr1 hc1
  have H : ((leaf_find.f k a0 l1 a2).bind fun bt225 => (some (bt225.2.1, bt225.2.2))) = some (r1, r2) := h
  clear h
  replace H := bind_eq_some_iff.mp H
  obtain ⟨⟨t225, t226, t227⟩, A40, H⟩ := H
  replace H : (some (t226, t227)) = some (r1, r2) := H
  have A4 := ak_ A40
  clear A40
  simp only [some.injEq, Prod.mk.injEq] at H
  obtain ⟨rfl, rfl⟩ := H
  go_enter func35, ntmps35
  go_wp2_with (first | ((with_reducible refine gate_callee (f := 54) rfl ?_); refine goesL_ (some 15) rfl rfl func54 (by kernel_rfl) rfl #[.int .i64 a0, .slice A1 l1.length c1, .int .u64 a2] rfl (by (try simp only [map_toArray, map_cons, map_nil]); first | done | rfl) ?_; (with_reducible refine (leaf_find.calls k a0 _ _ l1 a2 t225 t226 t227 _ ?side1 ?side2 A4.out).mono ?_); (case side1 => repeat (first | exact HR1.out | (with_reducible refine Kd.C_alloc ?_ _) | (with_reducible refine Kd.C_drewN ?_ _) | (with_reducible refine Kd.C_drew ?_))); (case side2 => exact HC1.out); rintro e w' ⟨rfl, ⟨nd, rfl⟩⟩; refine ⟨_, rfl, ?_⟩))
  go_ret2
  exact ⟨by first | rfl | (simp; done) | (simp [*]; done), by repeat (first | exact Drawn0.refl _ | apply Drawn0.step)⟩
end Go.Proofs.Ytnbiddloiiljjaa.MP
