-- written by a program of this session (wip/tools/mprint.sh) for this seat
import Derived.Test.YtmffkfakcbopcaaGreatMPx0
import Derived.Test.YtmffkfakcbopcaaGreatMPx2
import Derived.Test.YtmffkfakcbopcaaGreatMPx3
import Derived.Test.YtmffkfakcbopcaaGreatMPx4
import Derived.Test.YtmffkfakcbopcaaGreatMPx5
namespace Go.Proofs.YtmffkfakcbopcaaGreat.MP
open Go.RowKit Go.Proofs.YtmffkfakcbopcaaGreatW.PrintWords Go.Proofs.YtmffkfakcbopcaaGreatW.PrintLast Go.Proofs.YtmffkfakcbopcaaGreatW.PrintMore
open Option (bind_eq_some_iff some.injEq)
open _root_.Go.Proofs.Tryz
open List (setIfInBounds_toArray set_cons_zero set_cons_succ map_toArray map_cons map_nil length_drop length_take)
attribute [local go_sem] max2_int min2_int max_two min_two max_three min_three max_four min_four
set_option linter.unusedVariables false
set_option linter.unusedSimpArgs false
def bA6 (k n : Nat) : Array Bool := (Array.range n).map fun i => decide (i < k)
def medlarref08_Useful.f (k : Nat) (a0 : Int) (a1_0 : Int) (a1_1 : Int) : Option (Bool × Int) := (medlarref08_Check.f k a0 a1_0 a1_1).bind fun t494 => (if t494 = 0 then (if a1_1 = 0 then (some ((a1_0 == 1), 0)) else ((medlarref08_depth.f k a1_0).bind fun t495 => ((medlarref08_special.f k a0 t495).bind fun t496 => (if t496 = true then (some (true, 0)) else ((medlarref08_depth.f k a1_0).bind fun t497 => ((medlarref08_next.f k a0 t497).bind fun t498 => ((medlarref08_depth.f k a1_1).bind fun t499 => (some (decide (t498 ≥ t499), 0))))))))) else (some (false, 1)))
def medlarref08_Useful.T5 : Bool × List (List Nat × List Nat) := (true, [([], []), ([], []), ([1], [1]), ([2], [2]), ([0, 3, 3], [0, 3]), ([4, 4], [4]), ([5], [5]), ([5], [5]), ([7, 5], [5, 7]), ([8, 5, 5], [5, 8]), ([6, 9, 9, 5], [5, 6, 9]), ([5], [5]), ([11, 5], [5, 11]), ([12, 10, 5], [5, 12]), ([10, 13, 5], [5, 10, 13]), ([5, 14], [5, 14]), ([15, 13, 0, 1, 2, 3, 4, 5, 6, 7, 8, 9, 10, 11, 12, 13, 14, 15], [15]), ([16, 0, 1, 2, 3, 4, 5, 6, 7, 8, 9, 10, 11, 12, 13, 14, 15, 16], [])])
def medlarref08_Useful.B5 : List Nat := [0, 0, 2, 6, 15, 31, 63, 63, 191, 447, 1023, 63, 2111, 8191, 16383, 32767, 65535, 131071]
theorem medlarref08_Useful.tab5 : rtab .any (opsOf Tryz.f31 5) = medlarref08_Useful.T5 := by kernel_rfl
theorem medlarref08_Useful.bits5 : waitsOk medlarref08_Useful.T5.2 medlarref08_Useful.B5 = true := by kernel_rfl
set_option maxHeartbeats 8000000 in
set_option maxRecDepth 100000 in
theorem medlarref08_Useful.calls (k : Nat) (a0 : Int) (a1_0 : Int) (a1_1 : Int) (r1 : Bool) (r2 : Int) (w : World) (h : medlarref08_Useful.f k a0 a1_0 a1_1 = some (r1, r2)) :
   Calls Tryz.prog 31 #[.int .i64 a0, .agg #[.int .u64 a1_0, .int .u64 a1_1]] w fun e w' => e = .returned (.tuple #[.bool r1, .int .i64 r2]) ∧ Below w.heap.size w w' := by
  have hu25 := underlying25
  have HB := ak_ (Below.refl w.heap.size w)
  have H : ((medlarref08_Check.f k a0 a1_0 a1_1).bind fun t494 => (if t494 = 0 then (if a1_1 = 0 then (some ((a1_0 == 1), 0)) else ((medlarref08_depth.f k a1_0).bind fun t495 => ((medlarref08_special.f k a0 t495).bind fun t496 => (if t496 = true then (some (true, 0)) else ((medlarref08_depth.f k a1_0).bind fun t497 => ((medlarref08_next.f k a0 t497).bind fun t498 => ((medlarref08_depth.f k a1_1).bind fun t499 => (some (decide (t498 ≥ t499), 0))))))))) else (some (false, 1)))) = some (r1, r2) := h
  clear h
  replace H := bind_eq_some_iff.mp H
  obtain ⟨t494, A30, H⟩ := H
  replace H : (if t494 = 0 then (if a1_1 = 0 then (some ((a1_0 == 1), 0)) else ((medlarref08_depth.f k a1_0).bind fun t495 => ((medlarref08_special.f k a0 t495).bind fun t496 => (if t496 = true then (some (true, 0)) else ((medlarref08_depth.f k a1_0).bind fun t497 => ((medlarref08_next.f k a0 t497).bind fun t498 => ((medlarref08_depth.f k a1_1).bind fun t499 => (some (decide (t498 ≥ t499), 0))))))))) else (some (false, 1))) = some (r1, r2) := H
  have A3 := ak_ A30
  clear A30
  by_cases c4 : t494 = 0
  ·rw [if_pos c4] at H
   have c4b0 : (t494 == 0) = true := beq_iff_eq.mpr c4
   have c4b1 : (t494 != 0) = false := bne_eq_false_iff_eq.mpr c4
   clear c4
   by_cases c5 : a1_1 = 0
   ·rw [if_pos c5] at H
    have c5b0 : (a1_1 == 0) = true := beq_iff_eq.mpr c5
    have c5b1 : (a1_1 != 0) = false := bne_eq_false_iff_eq.mpr c5
    clear c5
    simp only [some.injEq, Prod.mk.injEq] at H
    obtain ⟨rfl, rfl⟩ := H
    go_enter func31, ntmps31
    go_wp2_with (first | ((with_reducible refine gate_dst (N := 3) rfl ?_); refine box_event ?hg (N := 3) ?hd (cs := #[.int .u64 a1_0, .int .u64 a1_1]) (t := 25) ?hr ?_; (case hd => rfl); (case hg => rfl); (case hr => first | (go_simp; done) | (go_simp; rfl)); intro gb493 hg w6 hbox hb; have n0_ := ak_ (bt_ (bl_ HB) hb); have n1_ := ak_ (hbox); have n2_ := ak_ ((gs_ hg HB)); have n3_ := ak_ ((gs_ hg HB)); clear HB; have HB := n0_; have BK493 := n1_; have GW493 := n2_; have GE493 := n3_; clear n0_ n1_ n2_ n3_; clear hb hbox hg; have hcz7_0 : w6.cell? ⟨gb493, 0, none⟩ = some (.int .u64 a1_0) := (kc_ BK493.out 0).trans rfl; have hcz7_1 : w6.cell? ⟨gb493, 1, none⟩ = some (.int .u64 a1_1) := (kc_ BK493.out 1).trans rfl; have hfz7_0 := kf_ BK493.out 0; have hfz7_1 := kf_ BK493.out 1) | ((with_reducible refine gate_callee (f := 30) rfl ?_); refine goesL_ (some 8) rfl rfl func30 (by kernel_rfl) rfl #[.int .i64 a0, .agg #[.int .u64 a1_0, .int .u64 a1_1]] rfl (by (try simp only [map_toArray, map_cons, map_nil]); first | done | rfl) ?_; (with_reducible refine (medlarref08_Check.calls k a0 a1_0 a1_1 t494 _ A3.out).mono ?_); rintro e w8 ⟨rfl, hb⟩; refine ⟨_, rfl, ?_⟩; have n0_ := ak_ (kb_ (g := gb493) (o := .cells #[.int .u64 a1_0, .int .u64 a1_1] 25 (0, 0)) (kl_ BK493) hb); have n1_ := ak_ (bt_ (by repeat (first | (with_reducible first | exact HB.out | apply ba_ | apply bn_ | apply bd_ | refine below_set ?_ GE493.out) | exact HB.out)) hb); clear BK493; clear HB; have BK493 := n0_; have HB := n1_; clear n0_ n1_; (try clear hb); (try clear hk); have hcz9_0 : w8.cell? ⟨gb493, 0, none⟩ = some (.int .u64 a1_0) := (kc_ BK493.out 0).trans rfl; have hcz9_1 : w8.cell? ⟨gb493, 1, none⟩ = some (.int .u64 a1_1) := (kc_ BK493.out 1).trans rfl; have hfz9_0 := kf_ BK493.out 0; have hfz9_1 := kf_ BK493.out 1))
    go_ret2
    exact ⟨by first | rfl | (simp <;> rfl) | (simp [*] <;> rfl), by repeat (first | (with_reducible first | exact HB.out | apply ba_ | apply bn_ | apply bd_ | refine below_set ?_ GE493.out) | exact HB.out)⟩
   ·rw [if_neg c5] at H
    have c5b0 : (a1_1 == 0) = false := beq_eq_false_iff_ne.mpr c5
    have c5b1 : (a1_1 != 0) = true := bne_iff_ne.mpr c5
    replace H := bind_eq_some_iff.mp H
    obtain ⟨t495, A100, H⟩ := H
    replace H : ((medlarref08_special.f k a0 t495).bind fun t496 => (if t496 = true then (some (true, 0)) else ((medlarref08_depth.f k a1_0).bind fun t497 => ((medlarref08_next.f k a0 t497).bind fun t498 => ((medlarref08_depth.f k a1_1).bind fun t499 => (some (decide (t498 ≥ t499), 0))))))) = some (r1, r2) := H
    have A10 := ak_ A100
    clear A100
    replace H := bind_eq_some_iff.mp H
    obtain ⟨t496, A110, H⟩ := H
    replace H : (if t496 = true then (some (true, 0)) else ((medlarref08_depth.f k a1_0).bind fun t497 => ((medlarref08_next.f k a0 t497).bind fun t498 => ((medlarref08_depth.f k a1_1).bind fun t499 => (some (decide (t498 ≥ t499), 0)))))) = some (r1, r2) := H
    have A11 := ak_ A110
    clear A110
    by_cases c12 : t496 = true
    ·subst c12
     have H1 : (some (true, 0)) = some (r1, r2) := by rw [if_pos rfl] at H; exact H
     clear H
     have H := H1
     clear H1
     simp only [some.injEq, Prod.mk.injEq] at H
     obtain ⟨rfl, rfl⟩ := H
     go_enter func31, ntmps31
     try go_wp2_with (first | ((with_reducible refine gate_dst (N := 3) rfl ?_); refine box_event ?hg (N := 3) ?hd (cs := #[.int .u64 a1_0, .int .u64 a1_1]) (t := 25) ?hr ?_; (case hd => rfl); (case hg => rfl); (case hr => first | (go_simp; done) | (go_simp; rfl)); intro gb493 hg w13 hbox hb; have n0_ := ak_ (bt_ (bl_ HB) hb); have n1_ := ak_ (hbox); have n2_ := ak_ ((gs_ hg HB)); have n3_ := ak_ ((gs_ hg HB)); clear HB; have HB := n0_; have BK493 := n1_; have GW493 := n2_; have GE493 := n3_; clear n0_ n1_ n2_ n3_; clear hb hbox hg; have hcz14_0 : w13.cell? ⟨gb493, 0, none⟩ = some (.int .u64 a1_0) := (kc_ BK493.out 0).trans rfl; have hcz14_1 : w13.cell? ⟨gb493, 1, none⟩ = some (.int .u64 a1_1) := (kc_ BK493.out 1).trans rfl; have hfz14_0 := kf_ BK493.out 0; have hfz14_1 := kf_ BK493.out 1) | ((with_reducible refine gate_callee (f := 30) rfl ?_); refine goesL_ (some 8) rfl rfl func30 (by kernel_rfl) rfl #[.int .i64 a0, .agg #[.int .u64 a1_0, .int .u64 a1_1]] rfl (by (try simp only [map_toArray, map_cons, map_nil]); first | done | rfl) ?_; (with_reducible refine (medlarref08_Check.calls k a0 a1_0 a1_1 t494 _ A3.out).mono ?_); rintro e w15 ⟨rfl, hb⟩; refine ⟨_, rfl, ?_⟩; have n0_ := ak_ (kb_ (g := gb493) (o := .cells #[.int .u64 a1_0, .int .u64 a1_1] 25 (0, 0)) (kl_ BK493) hb); have n1_ := ak_ (bt_ (by repeat (first | (with_reducible first | exact HB.out | apply ba_ | apply bn_ | apply bd_ | refine below_set ?_ GE493.out) | exact HB.out)) hb); clear BK493; clear HB; have BK493 := n0_; have HB := n1_; clear n0_ n1_; (try clear hb); (try clear hk); have hcz16_0 : w15.cell? ⟨gb493, 0, none⟩ = some (.int .u64 a1_0) := (kc_ BK493.out 0).trans rfl; have hcz16_1 : w15.cell? ⟨gb493, 1, none⟩ = some (.int .u64 a1_1) := (kc_ BK493.out 1).trans rfl; have hfz16_0 := kf_ BK493.out 0; have hfz16_1 := kf_ BK493.out 1))
     have n0_ := ak_ (kd_ BK493.out)
     have n1_ := ak_ (bd_ HB.out)
     clear BK493
     clear HB
     have BK493 := n0_
     have HB := n1_
     clear n0_ n1_
     refine start_ (n := 18) (S := fun w' => w'.cell? ⟨gb493, 0, none⟩ = some (.int .u64 a1_0) ∧ w'.cell? ⟨gb493, 1, none⟩ = some (.int .u64 a1_1)) (ds := []) #[false, false, false, false, false, false, false, false, false, false, false, false, false, false, false, false, false, false] (by kernel_rfl) rfl rfl ⟨(kc_ BK493.out 0).trans rfl, (kc_ BK493.out 1).trans rfl⟩ (fun hHeld => ?_); refine with_tabW medlarref08_Useful.tab5 medlarref08_Useful.bits5 (fun HT_ HW_ => ?_)
     generalize w15.drew = w17 at BK493 HB hHeld ⊢
     refine pure_ (i := 0) (N := some 16) (v := ?_) (a' := ?_) (bA6 1 18) rfl rfl (any_of HT_.out (by kernel_rfl)) (fun _ _ _ h => h) (Or.inl ⟨by rfl, ?_⟩) ?_ ?_; rotate_left; (intro w'; go_simp; with_reducible rfl); rotate_left; (simp only [Act.put, setIfInBounds_toArray, set_cons_zero, set_cons_succ, i64_w, i32_w]; rfl)
     refine pure_ (i := 1) (N := some 17) (v := ?_) (a' := ?_) (bA6 2 18) rfl rfl (any_of HT_.out (by kernel_rfl)) (fun _ _ _ h => h) (Or.inl ⟨by rfl, ?_⟩) ?_ ?_; rotate_left; (intro w'; go_simp; with_reducible rfl); rotate_left; (simp only [Act.put, setIfInBounds_toArray, set_cons_zero, set_cons_succ, i64_w, i32_w]; rfl)
     refine take_ (i := 2) (N := some 18) (v := ?_) (a' := ?_) (bA6 3 18) rfl rfl (take_ofW HT_.out HW_.out (by kernel_rfl)) (fun _ _ _ h => h) (Or.inl ⟨by rfl, ?_⟩) hHeld ?_ ?_
     rotate_left
     ·rintro w' ⟨s0, s1⟩
      go_simp
      with_reducible rfl
     rotate_left
     ·simp only [Act.put, setIfInBounds_toArray, set_cons_zero, set_cons_succ, i64_w, i32_w]
      rfl
     refine one_ (i := 3) (N := some 19) (bA6 4 18) rfl rfl (one_of HT_.out (by kernel_rfl)) (by decide) (fun K hK => ?_)
     refine goes_ func56 (by kernel_rfl) rfl #[.int .u64 a1_0] (by rfl) rfl rfl (by (try simp only [map_toArray, map_cons, map_nil]); first | done | rfl | (simp only [length_drop, length_take]; rfl)) ?_
     with_reducible refine (medlarref08_depth.calls k a1_0 t495 _ A10.out).mono ?_
     rintro e w18 ⟨rfl, hb⟩
     refine ⟨_, rfl, ?_⟩
     have n0_ := ak_ (kb_ (g := gb493) (o := .cells #[.int .u64 a1_0, .int .u64 a1_1] 25 (0, 0)) (kl_ BK493) hb)
     have n1_ := ak_ (bt_ (by repeat (first | (with_reducible first | exact HB.out | apply ba_ | apply bn_ | apply bd_ | refine below_set ?_ GE493.out) | exact HB.out)) hb)
     clear BK493
     clear HB
     have BK493 := n0_
     have HB := n1_
     clear n0_ n1_
     (try clear hb)
     (try clear hb2)
     (try clear hk)
     (try clear hi)
     refine hK.out _ _ ⟨(kc_ BK493.out 0).trans rfl, (kc_ BK493.out 1).trans rfl⟩ (fun hHeld => ?_)
     clear hK K
     refine norm_ (a' := ?_) ?_ ?_
     rotate_left
     ·show Act.put _ (some 19) _ = _
      simp only [Act.put, setIfInBounds_toArray, set_cons_zero, set_cons_succ, i64_w, i32_w]
      rfl
     refine one_ (i := 4) (N := some 20) (bA6 5 18) rfl rfl (one_of HT_.out (by kernel_rfl)) (by decide) (fun K hK => ?_)
     refine goes_ func63 (by kernel_rfl) rfl #[.int .i64 a0, .int .i64 t495] (by rfl) rfl rfl (by (try simp only [map_toArray, map_cons, map_nil]); first | done | rfl | (simp only [length_drop, length_take]; rfl)) ?_
     with_reducible refine (medlarref08_special.calls k a0 t495 true _ A11.out).mono ?_
     rintro e w' ⟨rfl, ⟨nd, rfl⟩⟩
     refine ⟨_, rfl, ?_⟩
     refine hK.out _ _ ⟨(kc_ BK493.out 0).trans rfl, (kc_ BK493.out 1).trans rfl⟩ (fun hHeld => ?_)
     clear hK K
     refine norm_ (a' := ?_) ?_ ?_
     rotate_left
     ·show Act.put _ (some 20) _ = _
      simp only [Act.put, setIfInBounds_toArray, set_cons_zero, set_cons_succ, i64_w, i32_w]
      rfl
     refine pure_ (i := 5) (N := some 21) (v := ?_) (a' := ?_) (bA6 6 18) rfl rfl (any_of HT_.out (by kernel_rfl)) (fun _ _ _ h => h) (Or.inl ⟨by rfl, ?_⟩) ?_ ?_; rotate_left; (intro w'; go_simp; with_reducible rfl); rotate_left; (simp only [Act.put, setIfInBounds_toArray, set_cons_zero, set_cons_succ, i64_w, i32_w]; rfl)
     refine pure_ (i := 6) (N := some 22) (v := undef) (a' := ?_) (bA6 7 18) rfl rfl (any_of HT_.out (by kernel_rfl)) (fun _ _ _ h => h) (Or.inr ⟨by rfl, rfl⟩) ?_ ?_
     rotate_left
     ·simp only [Act.put, setIfInBounds_toArray, set_cons_zero, set_cons_succ, i64_w, i32_w]
      rfl
     refine pure_ (i := 7) (N := some 23) (v := undef) (a' := ?_) (bA6 8 18) rfl rfl (any_of HT_.out (by kernel_rfl)) (fun _ _ _ h => h) (Or.inr ⟨by rfl, rfl⟩) ?_ ?_
     rotate_left
     ·simp only [Act.put, setIfInBounds_toArray, set_cons_zero, set_cons_succ, i64_w, i32_w]
      rfl
     refine pure_ (i := 8) (N := some 24) (v := undef) (a' := ?_) (bA6 9 18) rfl rfl (any_of HT_.out (by kernel_rfl)) (fun _ _ _ h => h) (Or.inr ⟨by rfl, rfl⟩) ?_ ?_
     rotate_left
     ·simp only [Act.put, setIfInBounds_toArray, set_cons_zero, set_cons_succ, i64_w, i32_w]
      rfl
     refine pure_ (i := 9) (N := some 25) (v := undef) (a' := ?_) (bA6 10 18) rfl rfl (any_of HT_.out (by kernel_rfl)) (fun _ _ _ h => h) (Or.inr ⟨by rfl, rfl⟩) ?_ ?_
     rotate_left
     ·simp only [Act.put, setIfInBounds_toArray, set_cons_zero, set_cons_succ, i64_w, i32_w]
      rfl
     refine pure_ (i := 10) (N := some 26) (v := undef) (a' := ?_) (bA6 11 18) rfl rfl (any_of HT_.out (by kernel_rfl)) (fun _ _ _ h => h) (Or.inr ⟨by rfl, rfl⟩) ?_ ?_
     rotate_left
     ·simp only [Act.put, setIfInBounds_toArray, set_cons_zero, set_cons_succ, i64_w, i32_w]
      rfl
     refine pure_ (i := 11) (N := some 27) (v := undef) (a' := ?_) (bA6 12 18) rfl rfl (any_of HT_.out (by kernel_rfl)) (fun _ _ _ h => h) (Or.inr ⟨by rfl, rfl⟩) ?_ ?_
     rotate_left
     ·simp only [Act.put, setIfInBounds_toArray, set_cons_zero, set_cons_succ, i64_w, i32_w]
      rfl
     refine pure_ (i := 12) (N := some 28) (v := undef) (a' := ?_) (bA6 13 18) rfl rfl (any_of HT_.out (by kernel_rfl)) (fun _ _ _ h => h) (Or.inr ⟨by rfl, rfl⟩) ?_ ?_
     rotate_left
     ·simp only [Act.put, setIfInBounds_toArray, set_cons_zero, set_cons_succ, i64_w, i32_w]
      rfl
     refine pure_ (i := 13) (N := some 29) (v := undef) (a' := ?_) (bA6 14 18) rfl rfl (any_of HT_.out (by kernel_rfl)) (fun _ _ _ h => h) (Or.inr ⟨by rfl, rfl⟩) ?_ ?_
     rotate_left
     ·simp only [Act.put, setIfInBounds_toArray, set_cons_zero, set_cons_succ, i64_w, i32_w]
      rfl
     refine pure_ (i := 14) (N := some 30) (v := undef) (a' := ?_) (bA6 15 18) rfl rfl (any_of HT_.out (by kernel_rfl)) (fun _ _ _ h => h) (Or.inr ⟨by rfl, rfl⟩) ?_ ?_
     rotate_left
     ·simp only [Act.put, setIfInBounds_toArray, set_cons_zero, set_cons_succ, i64_w, i32_w]
      rfl
     refine pure_ (i := 15) (N := some 31) (v := ?_) (a' := ?_) (bA6 16 18) rfl rfl (any_of HT_.out (by kernel_rfl)) (fun _ _ _ h => h) (Or.inl ⟨by rfl, ?_⟩) ?_ ?_; rotate_left; (intro w'; go_simp; with_reducible rfl); rotate_left; (simp only [Act.put, setIfInBounds_toArray, set_cons_zero, set_cons_succ, i64_w, i32_w]; rfl)
     refine pure_ (i := 16) (N := some 4) (v := ?_) (a' := ?_) (bA6 17 18) rfl rfl (any_of HT_.out (by kernel_rfl)) (fun _ _ _ h => h) (Or.inl ⟨by rfl, ?_⟩) ?_ ?_; rotate_left; (intro w'; go_simp; with_reducible rfl); rotate_left; (simp only [Act.put, setIfInBounds_toArray, set_cons_zero, set_cons_succ, i64_w, i32_w]; rfl)
     refine pure_ (i := 17) (N := some 5) (v := ?_) (a' := ?_) (bA6 18 18) rfl rfl (any_of HT_.out (by kernel_rfl)) (fun _ _ _ h => h) (Or.inl ⟨by rfl, ?_⟩) ?_ ?_; rotate_left; (intro w'; go_simp; with_reducible rfl); rotate_left; (simp only [Act.put, setIfInBounds_toArray, set_cons_zero, set_cons_succ, i64_w, i32_w]; rfl)
     refine done_ (done_of HT_.out (by kernel_rfl)) ?_
     try go_wp2
     go_ret2
     exact ⟨by first | rfl | (simp <;> rfl) | (simp [*] <;> rfl), by repeat (first | (with_reducible first | exact HB.out | apply ba_ | apply bn_ | apply bd_ | refine below_set ?_ GE493.out) | exact HB.out)⟩
    ·replace c12 := Bool.eq_false_iff.mpr c12
     subst c12
     have H1 : ((medlarref08_depth.f k a1_0).bind fun t497 => ((medlarref08_next.f k a0 t497).bind fun t498 => ((medlarref08_depth.f k a1_1).bind fun t499 => (some (decide (t498 ≥ t499), 0))))) = some (r1, r2) := by rw [if_neg (show ¬ (false = true) by decide)] at H; exact H
     clear H
     have H := H1
     clear H1
     replace H := bind_eq_some_iff.mp H
     obtain ⟨t497, A190, H⟩ := H
     replace H : ((medlarref08_next.f k a0 t497).bind fun t498 => ((medlarref08_depth.f k a1_1).bind fun t499 => (some (decide (t498 ≥ t499), 0)))) = some (r1, r2) := H
     have A19 := ak_ A190
     clear A190
     replace H := bind_eq_some_iff.mp H
     obtain ⟨t498, A200, H⟩ := H
     replace H : ((medlarref08_depth.f k a1_1).bind fun t499 => (some (decide (t498 ≥ t499), 0))) = some (r1, r2) := H
     have A20 := ak_ A200
     clear A200
     replace H := bind_eq_some_iff.mp H
     obtain ⟨t499, A210, H⟩ := H
     replace H : (some (decide (t498 ≥ t499), 0)) = some (r1, r2) := H
     have A21 := ak_ A210
     clear A210
     simp only [some.injEq, Prod.mk.injEq] at H
     obtain ⟨rfl, rfl⟩ := H
     go_enter func31, ntmps31
     try go_wp2_with (first | ((with_reducible refine gate_dst (N := 3) rfl ?_); refine box_event ?hg (N := 3) ?hd (cs := #[.int .u64 a1_0, .int .u64 a1_1]) (t := 25) ?hr ?_; (case hd => rfl); (case hg => rfl); (case hr => first | (go_simp; done) | (go_simp; rfl)); intro gb493 hg w22 hbox hb; have n0_ := ak_ (bt_ (bl_ HB) hb); have n1_ := ak_ (hbox); have n2_ := ak_ ((gs_ hg HB)); have n3_ := ak_ ((gs_ hg HB)); clear HB; have HB := n0_; have BK493 := n1_; have GW493 := n2_; have GE493 := n3_; clear n0_ n1_ n2_ n3_; clear hb hbox hg; have hcz23_0 : w22.cell? ⟨gb493, 0, none⟩ = some (.int .u64 a1_0) := (kc_ BK493.out 0).trans rfl; have hcz23_1 : w22.cell? ⟨gb493, 1, none⟩ = some (.int .u64 a1_1) := (kc_ BK493.out 1).trans rfl; have hfz23_0 := kf_ BK493.out 0; have hfz23_1 := kf_ BK493.out 1) | ((with_reducible refine gate_callee (f := 30) rfl ?_); refine goesL_ (some 8) rfl rfl func30 (by kernel_rfl) rfl #[.int .i64 a0, .agg #[.int .u64 a1_0, .int .u64 a1_1]] rfl (by (try simp only [map_toArray, map_cons, map_nil]); first | done | rfl) ?_; (with_reducible refine (medlarref08_Check.calls k a0 a1_0 a1_1 t494 _ A3.out).mono ?_); rintro e w24 ⟨rfl, hb⟩; refine ⟨_, rfl, ?_⟩; have n0_ := ak_ (kb_ (g := gb493) (o := .cells #[.int .u64 a1_0, .int .u64 a1_1] 25 (0, 0)) (kl_ BK493) hb); have n1_ := ak_ (bt_ (by repeat (first | (with_reducible first | exact HB.out | apply ba_ | apply bn_ | apply bd_ | refine below_set ?_ GE493.out) | exact HB.out)) hb); clear BK493; clear HB; have BK493 := n0_; have HB := n1_; clear n0_ n1_; (try clear hb); (try clear hk); have hcz25_0 : w24.cell? ⟨gb493, 0, none⟩ = some (.int .u64 a1_0) := (kc_ BK493.out 0).trans rfl; have hcz25_1 : w24.cell? ⟨gb493, 1, none⟩ = some (.int .u64 a1_1) := (kc_ BK493.out 1).trans rfl; have hfz25_0 := kf_ BK493.out 0; have hfz25_1 := kf_ BK493.out 1))
     have n0_ := ak_ (kd_ BK493.out)
     have n1_ := ak_ (bd_ HB.out)
     clear BK493
     clear HB
     have BK493 := n0_
     have HB := n1_
     clear n0_ n1_
     refine start_ (n := 18) (S := fun w' => w'.cell? ⟨gb493, 0, none⟩ = some (.int .u64 a1_0) ∧ w'.cell? ⟨gb493, 1, none⟩ = some (.int .u64 a1_1)) (ds := []) #[false, false, false, false, false, false, false, false, false, false, false, false, false, false, false, false, false, false] (by kernel_rfl) rfl rfl ⟨(kc_ BK493.out 0).trans rfl, (kc_ BK493.out 1).trans rfl⟩ (fun hHeld => ?_); refine with_tabW medlarref08_Useful.tab5 medlarref08_Useful.bits5 (fun HT_ HW_ => ?_)
     generalize w24.drew = w26 at BK493 HB hHeld ⊢
     refine pure_ (i := 0) (N := some 16) (v := ?_) (a' := ?_) (bA6 1 18) rfl rfl (any_of HT_.out (by kernel_rfl)) (fun _ _ _ h => h) (Or.inl ⟨by rfl, ?_⟩) ?_ ?_; rotate_left; (intro w'; go_simp; with_reducible rfl); rotate_left; (simp only [Act.put, setIfInBounds_toArray, set_cons_zero, set_cons_succ, i64_w, i32_w]; rfl)
     refine pure_ (i := 1) (N := some 17) (v := ?_) (a' := ?_) (bA6 2 18) rfl rfl (any_of HT_.out (by kernel_rfl)) (fun _ _ _ h => h) (Or.inl ⟨by rfl, ?_⟩) ?_ ?_; rotate_left; (intro w'; go_simp; with_reducible rfl); rotate_left; (simp only [Act.put, setIfInBounds_toArray, set_cons_zero, set_cons_succ, i64_w, i32_w]; rfl)
     refine take_ (i := 2) (N := some 18) (v := ?_) (a' := ?_) (bA6 3 18) rfl rfl (take_ofW HT_.out HW_.out (by kernel_rfl)) (fun _ _ _ h => h) (Or.inl ⟨by rfl, ?_⟩) hHeld ?_ ?_
     rotate_left
     ·rintro w' ⟨s0, s1⟩
      go_simp
      with_reducible rfl
     rotate_left
     ·simp only [Act.put, setIfInBounds_toArray, set_cons_zero, set_cons_succ, i64_w, i32_w]
      rfl
     refine one_ (i := 3) (N := some 19) (bA6 4 18) rfl rfl (one_of HT_.out (by kernel_rfl)) (by decide) (fun K hK => ?_)
     refine goes_ func56 (by kernel_rfl) rfl #[.int .u64 a1_0] (by rfl) rfl rfl (by (try simp only [map_toArray, map_cons, map_nil]); first | done | rfl | (simp only [length_drop, length_take]; rfl)) ?_
     with_reducible refine (medlarref08_depth.calls k a1_0 t495 _ A10.out).mono ?_
     rintro e w27 ⟨rfl, hb⟩
     refine ⟨_, rfl, ?_⟩
     have n0_ := ak_ (kb_ (g := gb493) (o := .cells #[.int .u64 a1_0, .int .u64 a1_1] 25 (0, 0)) (kl_ BK493) hb)
     have n1_ := ak_ (bt_ (by repeat (first | (with_reducible first | exact HB.out | apply ba_ | apply bn_ | apply bd_ | refine below_set ?_ GE493.out) | exact HB.out)) hb)
     clear BK493
     clear HB
     have BK493 := n0_
     have HB := n1_
     clear n0_ n1_
     (try clear hb)
     (try clear hb2)
     (try clear hk)
     (try clear hi)
     refine hK.out _ _ ⟨(kc_ BK493.out 0).trans rfl, (kc_ BK493.out 1).trans rfl⟩ (fun hHeld => ?_)
     clear hK K
     refine norm_ (a' := ?_) ?_ ?_
     rotate_left
     ·show Act.put _ (some 19) _ = _
      simp only [Act.put, setIfInBounds_toArray, set_cons_zero, set_cons_succ, i64_w, i32_w]
      rfl
     refine one_ (i := 4) (N := some 20) (bA6 5 18) rfl rfl (one_of HT_.out (by kernel_rfl)) (by decide) (fun K hK => ?_)
     refine goes_ func63 (by kernel_rfl) rfl #[.int .i64 a0, .int .i64 t495] (by rfl) rfl rfl (by (try simp only [map_toArray, map_cons, map_nil]); first | done | rfl | (simp only [length_drop, length_take]; rfl)) ?_
     with_reducible refine (medlarref08_special.calls k a0 t495 false _ A11.out).mono ?_
     rintro e w' ⟨rfl, ⟨nd, rfl⟩⟩
     refine ⟨_, rfl, ?_⟩
     refine hK.out _ _ ⟨(kc_ BK493.out 0).trans rfl, (kc_ BK493.out 1).trans rfl⟩ (fun hHeld => ?_)
     clear hK K
     refine norm_ (a' := ?_) ?_ ?_
     rotate_left
     ·show Act.put _ (some 20) _ = _
      simp only [Act.put, setIfInBounds_toArray, set_cons_zero, set_cons_succ, i64_w, i32_w]
      rfl
     refine pure_ (i := 5) (N := some 21) (v := ?_) (a' := ?_) (bA6 6 18) rfl rfl (any_of HT_.out (by kernel_rfl)) (fun _ _ _ h => h) (Or.inl ⟨by rfl, ?_⟩) ?_ ?_; rotate_left; (intro w'; go_simp; with_reducible rfl); rotate_left; (simp only [Act.put, setIfInBounds_toArray, set_cons_zero, set_cons_succ, i64_w, i32_w]; rfl)
     refine pure_ (i := 6) (N := some 22) (v := ?_) (a' := ?_) (bA6 7 18) rfl rfl (any_of HT_.out (by kernel_rfl)) (fun _ _ _ h => h) (Or.inl ⟨by rfl, ?_⟩) ?_ ?_; rotate_left; (intro w'; go_simp; with_reducible rfl); rotate_left; (simp only [Act.put, setIfInBounds_toArray, set_cons_zero, set_cons_succ, i64_w, i32_w]; rfl)
     refine pure_ (i := 7) (N := some 23) (v := ?_) (a' := ?_) (bA6 8 18) rfl rfl (any_of HT_.out (by kernel_rfl)) (fun _ _ _ h => h) (Or.inl ⟨by rfl, ?_⟩) ?_ ?_; rotate_left; (intro w'; go_simp; with_reducible rfl); rotate_left; (simp only [Act.put, setIfInBounds_toArray, set_cons_zero, set_cons_succ, i64_w, i32_w]; rfl)
     refine pure_ (i := 11) (N := some 27) (v := ?_) (a' := ?_) #[true, true, true, true, true, true, true, true, false, false, false, true, false, false, false, false, false, false] rfl rfl (any_of HT_.out (by kernel_rfl)) (fun _ _ _ h => h) (Or.inl ⟨by rfl, ?_⟩) ?_ ?_; rotate_left; (intro w'; go_simp; with_reducible rfl); rotate_left; (simp only [Act.put, setIfInBounds_toArray, set_cons_zero, set_cons_succ, i64_w, i32_w]; rfl)
     refine take_ (i := 8) (N := some 24) (v := ?_) (a' := ?_) #[true, true, true, true, true, true, true, true, true, false, false, true, false, false, false, false, false, false] rfl rfl (take_ofW HT_.out HW_.out (by kernel_rfl)) (fun _ _ _ h => h) (Or.inl ⟨by rfl, ?_⟩) hHeld ?_ ?_
     rotate_left
     ·rintro w' ⟨s0, s1⟩
      go_simp
      with_reducible rfl
     rotate_left
     ·simp only [Act.put, setIfInBounds_toArray, set_cons_zero, set_cons_succ, i64_w, i32_w]
      rfl
     refine take_ (i := 12) (N := some 28) (v := ?_) (a' := ?_) #[true, true, true, true, true, true, true, true, true, false, false, true, true, false, false, false, false, false] rfl rfl (take_ofW HT_.out HW_.out (by kernel_rfl)) (fun _ _ _ h => h) (Or.inl ⟨by rfl, ?_⟩) hHeld ?_ ?_
     rotate_left
     ·rintro w' ⟨s0, s1⟩
      go_simp
      with_reducible rfl
     rotate_left
     ·simp only [Act.put, setIfInBounds_toArray, set_cons_zero, set_cons_succ, i64_w, i32_w]
      rfl
     refine one_ (i := 9) (N := some 25) #[true, true, true, true, true, true, true, true, true, true, false, true, true, false, false, false, false, false] rfl rfl (one_of HT_.out (by kernel_rfl)) (by decide) (fun K hK => ?_)
     refine goes_ func56 (by kernel_rfl) rfl #[.int .u64 a1_0] (by rfl) rfl rfl (by (try simp only [map_toArray, map_cons, map_nil]); first | done | rfl | (simp only [length_drop, length_take]; rfl)) ?_
     with_reducible refine (medlarref08_depth.calls k a1_0 t497 _ A19.out).mono ?_
     rintro e w28 ⟨rfl, hb⟩
     refine ⟨_, rfl, ?_⟩
     have n0_ := ak_ (kb_ (g := gb493) (o := .cells #[.int .u64 a1_0, .int .u64 a1_1] 25 (0, 0)) (kl_ BK493) hb)
     have n1_ := ak_ (bt_ (by repeat (first | (with_reducible first | exact HB.out | apply ba_ | apply bn_ | apply bd_ | refine below_set ?_ GE493.out) | exact HB.out)) hb)
     clear BK493
     clear HB
     have BK493 := n0_
     have HB := n1_
     clear n0_ n1_
     (try clear hb)
     (try clear hb2)
     (try clear hk)
     (try clear hi)
     refine hK.out _ _ ⟨(kc_ BK493.out 0).trans rfl, (kc_ BK493.out 1).trans rfl⟩ (fun hHeld => ?_)
     clear hK K
     refine norm_ (a' := ?_) ?_ ?_
     rotate_left
     ·show Act.put _ (some 25) _ = _
      simp only [Act.put, setIfInBounds_toArray, set_cons_zero, set_cons_succ, i64_w, i32_w]
      rfl
     refine one_ (i := 10) (N := some 26) (bA6 13 18) rfl rfl (one_of HT_.out (by kernel_rfl)) (by decide) (fun K hK => ?_)
     refine goes_ func55 (by kernel_rfl) rfl #[.int .i64 a0, .int .i64 t497] (by rfl) rfl rfl (by (try simp only [map_toArray, map_cons, map_nil]); first | done | rfl | (simp only [length_drop, length_take]; rfl)) ?_
     with_reducible refine (medlarref08_next.calls k a0 t497 t498 _ A20.out).mono ?_
     rintro e w' ⟨rfl, ⟨nd, rfl⟩⟩
     refine ⟨_, rfl, ?_⟩
     refine hK.out _ _ ⟨(kc_ BK493.out 0).trans rfl, (kc_ BK493.out 1).trans rfl⟩ (fun hHeld => ?_)
     clear hK K
     refine norm_ (a' := ?_) ?_ ?_
     rotate_left
     ·show Act.put _ (some 26) _ = _
      simp only [Act.put, setIfInBounds_toArray, set_cons_zero, set_cons_succ, i64_w, i32_w]
      rfl
     refine one_ (i := 13) (N := some 29) (bA6 14 18) rfl rfl (one_of HT_.out (by kernel_rfl)) (by decide) (fun K hK => ?_)
     refine goes_ func56 (by kernel_rfl) rfl #[.int .u64 a1_1] (by rfl) rfl rfl (by (try simp only [map_toArray, map_cons, map_nil]); first | done | rfl | (simp only [length_drop, length_take]; rfl)) ?_
     with_reducible refine (medlarref08_depth.calls k a1_1 t499 _ A21.out).mono ?_
     rintro e w29 ⟨rfl, hb⟩
     refine ⟨_, rfl, ?_⟩
     have n0_ := ak_ (kb_ (g := gb493) (o := .cells #[.int .u64 a1_0, .int .u64 a1_1] 25 (0, 0)) (kl_ BK493) hb)
     have n1_ := ak_ (bt_ (by repeat (first | (with_reducible first | exact HB.out | apply ba_ | apply bn_ | apply bd_ | refine below_set ?_ GE493.out) | exact HB.out)) hb)
     clear BK493
     clear HB
     have BK493 := n0_
     have HB := n1_
     clear n0_ n1_
     (try clear hb)
     (try clear hb2)
     (try clear hk)
     (try clear hi)
     refine hK.out _ _ ⟨(kc_ BK493.out 0).trans rfl, (kc_ BK493.out 1).trans rfl⟩ (fun hHeld => ?_)
     clear hK K
     refine norm_ (a' := ?_) ?_ ?_
     rotate_left
     ·show Act.put _ (some 29) _ = _
      simp only [Act.put, setIfInBounds_toArray, set_cons_zero, set_cons_succ, i64_w, i32_w]
      rfl
     refine pure_ (i := 14) (N := some 30) (v := ?_) (a' := ?_) (bA6 15 18) rfl rfl (any_of HT_.out (by kernel_rfl)) (fun _ _ _ h => h) (Or.inl ⟨by rfl, ?_⟩) ?_ ?_; rotate_left; (intro w'; go_simp; with_reducible rfl); rotate_left; (simp only [Act.put, setIfInBounds_toArray, set_cons_zero, set_cons_succ, i64_w, i32_w]; rfl)
     refine pure_ (i := 15) (N := some 31) (v := ?_) (a' := ?_) (bA6 16 18) rfl rfl (any_of HT_.out (by kernel_rfl)) (fun _ _ _ h => h) (Or.inl ⟨by rfl, ?_⟩) ?_ ?_; rotate_left; (intro w'; go_simp; with_reducible rfl); rotate_left; (simp only [Act.put, setIfInBounds_toArray, set_cons_zero, set_cons_succ, i64_w, i32_w]; rfl)
     refine pure_ (i := 16) (N := some 4) (v := ?_) (a' := ?_) (bA6 17 18) rfl rfl (any_of HT_.out (by kernel_rfl)) (fun _ _ _ h => h) (Or.inl ⟨by rfl, ?_⟩) ?_ ?_; rotate_left; (intro w'; go_simp; with_reducible rfl); rotate_left; (simp only [Act.put, setIfInBounds_toArray, set_cons_zero, set_cons_succ, i64_w, i32_w]; rfl)
     refine pure_ (i := 17) (N := some 5) (v := ?_) (a' := ?_) (bA6 18 18) rfl rfl (any_of HT_.out (by kernel_rfl)) (fun _ _ _ h => h) (Or.inl ⟨by rfl, ?_⟩) ?_ ?_; rotate_left; (intro w'; go_simp; with_reducible rfl); rotate_left; (simp only [Act.put, setIfInBounds_toArray, set_cons_zero, set_cons_succ, i64_w, i32_w]; rfl)
     refine done_ (done_of HT_.out (by kernel_rfl)) ?_
     try go_wp2
     go_ret2
     exact ⟨by first | rfl | (simp <;> rfl) | (simp [*] <;> rfl), by repeat (first | (with_reducible first | exact HB.out | apply ba_ | apply bn_ | apply bd_ | refine below_set ?_ GE493.out) | exact HB.out)⟩
  ·rw [if_neg c4] at H
   have c4b0 : (t494 == 0) = false := beq_eq_false_iff_ne.mpr c4
   have c4b1 : (t494 != 0) = true := bne_iff_ne.mpr c4
   simp only [some.injEq, Prod.mk.injEq] at H
   obtain ⟨rfl, rfl⟩ := H
   go_enter func31, ntmps31
   go_wp2_with (first | ((with_reducible refine gate_dst (N := 3) rfl ?_); refine box_event ?hg (N := 3) ?hd (cs := #[.int .u64 a1_0, .int .u64 a1_1]) (t := 25) ?hr ?_; (case hd => rfl); (case hg => rfl); (case hr => first | (go_simp; done) | (go_simp; rfl)); intro gb493 hg w30 hbox hb; have n0_ := ak_ (bt_ (bl_ HB) hb); have n1_ := ak_ (hbox); have n2_ := ak_ ((gs_ hg HB)); have n3_ := ak_ ((gs_ hg HB)); clear HB; have HB := n0_; have BK493 := n1_; have GW493 := n2_; have GE493 := n3_; clear n0_ n1_ n2_ n3_; clear hb hbox hg; have hcz31_0 : w30.cell? ⟨gb493, 0, none⟩ = some (.int .u64 a1_0) := (kc_ BK493.out 0).trans rfl; have hcz31_1 : w30.cell? ⟨gb493, 1, none⟩ = some (.int .u64 a1_1) := (kc_ BK493.out 1).trans rfl; have hfz31_0 := kf_ BK493.out 0; have hfz31_1 := kf_ BK493.out 1) | ((with_reducible refine gate_callee (f := 30) rfl ?_); refine goesL_ (some 8) rfl rfl func30 (by kernel_rfl) rfl #[.int .i64 a0, .agg #[.int .u64 a1_0, .int .u64 a1_1]] rfl (by (try simp only [map_toArray, map_cons, map_nil]); first | done | rfl) ?_; (with_reducible refine (medlarref08_Check.calls k a0 a1_0 a1_1 t494 _ A3.out).mono ?_); rintro e w32 ⟨rfl, hb⟩; refine ⟨_, rfl, ?_⟩; have n0_ := ak_ (kb_ (g := gb493) (o := .cells #[.int .u64 a1_0, .int .u64 a1_1] 25 (0, 0)) (kl_ BK493) hb); have n1_ := ak_ (bt_ (by repeat (first | (with_reducible first | exact HB.out | apply ba_ | apply bn_ | apply bd_ | refine below_set ?_ GE493.out) | exact HB.out)) hb); clear BK493; clear HB; have BK493 := n0_; have HB := n1_; clear n0_ n1_; (try clear hb); (try clear hk)))
   go_ret2
   exact ⟨by first | rfl | (simp <;> rfl) | (simp [*] <;> rfl), by repeat (first | (with_reducible first | exact HB.out | apply ba_ | apply bn_ | apply bd_ | refine below_set ?_ GE493.out) | exact HB.out)⟩
def medlarref01_Up.f (k : Nat) (a0 : Int) (a1 : Int) (a2 : Int) : Option (Int × Int) := (medlarref01_May.f k a0 a1).bind fun t500 => (if t500 = true then ((medlarref01_Chain.f k a1).bind fun t501 => (if a2 < 0 then (some (0, 4)) else (if a2 ≥ (t501.length : Int) then (some (0, 4)) else (if 0 ≤ a2 then (if a2 < (t501.length : Int) then (some (rd t501 a2, 0)) else (none)) else (none))))) else (some (0, 1)))
set_option maxHeartbeats 8000000 in
set_option maxRecDepth 100000 in
theorem medlarref01_Up.calls (k : Nat) (a0 : Int) (a1 : Int) (a2 : Int) (r1 : Int) (r2 : Int) (w : World) (h : medlarref01_Up.f k a0 a1 a2 = some (r1, r2)) :
   Calls Tryz.prog 54 #[.int .i64 a0, .int .u64 a1, .int .i64 a2] w fun e w' => e = .returned (.tuple #[.int .u64 r1, .int .i64 r2]) ∧ Below w.heap.size w w' := by
  have HB := ak_ (Below.refl w.heap.size w)
  have H : ((medlarref01_May.f k a0 a1).bind fun t500 => (if t500 = true then ((medlarref01_Chain.f k a1).bind fun t501 => (if a2 < 0 then (some (0, 4)) else (if a2 ≥ (t501.length : Int) then (some (0, 4)) else (if 0 ≤ a2 then (if a2 < (t501.length : Int) then (some (rd t501 a2, 0)) else (none)) else (none))))) else (some (0, 1)))) = some (r1, r2) := h
  clear h
  replace H := bind_eq_some_iff.mp H
  obtain ⟨t500, A40, H⟩ := H
  replace H : (if t500 = true then ((medlarref01_Chain.f k a1).bind fun t501 => (if a2 < 0 then (some (0, 4)) else (if a2 ≥ (t501.length : Int) then (some (0, 4)) else (if 0 ≤ a2 then (if a2 < (t501.length : Int) then (some (rd t501 a2, 0)) else (none)) else (none))))) else (some (0, 1))) = some (r1, r2) := H
  have A4 := ak_ A40
  clear A40
  by_cases c5 : t500 = true
  ·subst c5
   have H1 : ((medlarref01_Chain.f k a1).bind fun t501 => (if a2 < 0 then (some (0, 4)) else (if a2 ≥ (t501.length : Int) then (some (0, 4)) else (if 0 ≤ a2 then (if a2 < (t501.length : Int) then (some (rd t501 a2, 0)) else (none)) else (none))))) = some (r1, r2) := by rw [if_pos rfl] at H; exact H
   clear H
   have H := H1
   clear H1
   replace H := bind_eq_some_iff.mp H
   obtain ⟨t501, A60, H⟩ := H
   replace H : (if a2 < 0 then (some (0, 4)) else (if a2 ≥ (t501.length : Int) then (some (0, 4)) else (if 0 ≤ a2 then (if a2 < (t501.length : Int) then (some (rd t501 a2, 0)) else (none)) else (none)))) = some (r1, r2) := H
   have A6 := ak_ A60
   clear A60
   by_cases c7 : a2 < 0
   ·rw [if_pos c7] at H
    have c7b0 := decide_eq_true c7
    clear c7
    simp only [some.injEq, Prod.mk.injEq] at H
    obtain ⟨rfl, rfl⟩ := H
    go_enter func54, ntmps54
    go_wp2_with (first | ((with_reducible refine gate_callee (f := 50) rfl ?_); refine goesL_ (some 11) rfl rfl func50 (by kernel_rfl) rfl #[.int .i64 a0, .int .u64 a1] rfl (by (try simp only [map_toArray, map_cons, map_nil]); first | done | rfl) ?_; (with_reducible refine (medlarref01_May.calls k a0 a1 true _ A4.out).mono ?_); rintro e w' ⟨rfl, ⟨nd, rfl⟩⟩; refine ⟨_, rfl, ?_⟩) | ((with_reducible refine gate_callee (f := 34) rfl ?_); refine goesL_ (some 14) rfl rfl func34 (by kernel_rfl) rfl #[.int .u64 a1] rfl (by (try simp only [map_toArray, map_cons, map_nil]); first | done | rfl) ?_; (with_reducible refine (medlarref01_Chain.calls k a1 t501 _ A6.out).mono ?_); rintro e w8 ⟨v502, rfl, ho0, hb⟩; refine ⟨_, rfl, ?_⟩; have n0_ := ak_ (Kd.R_lower ho0 (bz_ (bl_ HB))); have n1_ := ak_ (bt_ (bl_ HB) hb); clear HB; have HO503 := n0_; have HB := n1_; clear n0_ n1_; (try clear hb); (try clear hk); (try clear ho0)))
    go_ret2
    exact ⟨by first | rfl | (simp <;> rfl) | (simp [*] <;> rfl), bl_ HB⟩
   ·rw [if_neg c7] at H
    have c7b0 := decide_eq_false c7
    clear c7
    by_cases c9 : a2 ≥ (t501.length : Int)
    ·rw [if_pos c9] at H
     have c9b0 : decide ((t501.length : Int) ≤ a2) = true := decide_eq_true c9
     clear c9
     simp only [some.injEq, Prod.mk.injEq] at H
     obtain ⟨rfl, rfl⟩ := H
     go_enter func54, ntmps54
     go_wp2_with (first | ((with_reducible refine gate_callee (f := 50) rfl ?_); refine goesL_ (some 11) rfl rfl func50 (by kernel_rfl) rfl #[.int .i64 a0, .int .u64 a1] rfl (by (try simp only [map_toArray, map_cons, map_nil]); first | done | rfl) ?_; (with_reducible refine (medlarref01_May.calls k a0 a1 true _ A4.out).mono ?_); rintro e w' ⟨rfl, ⟨nd, rfl⟩⟩; refine ⟨_, rfl, ?_⟩) | ((with_reducible refine gate_callee (f := 34) rfl ?_); refine goesL_ (some 14) rfl rfl func34 (by kernel_rfl) rfl #[.int .u64 a1] rfl (by (try simp only [map_toArray, map_cons, map_nil]); first | done | rfl) ?_; (with_reducible refine (medlarref01_Chain.calls k a1 t501 _ A6.out).mono ?_); rintro e w10 ⟨v502, rfl, ho0, hb⟩; refine ⟨_, rfl, ?_⟩; have n0_ := ak_ (Kd.R_lower ho0 (bz_ (bl_ HB))); have n1_ := ak_ (bt_ (bl_ HB) hb); clear HB; have HO503 := n0_; have HB := n1_; clear n0_ n1_; (try clear hb); (try clear hk); (try clear ho0); obtain ⟨Ao11, co11, eo11⟩ := Kd.R_slice HO503.out; subst eo11))
     go_ret2
     exact ⟨by first | rfl | (simp <;> rfl) | (simp [*] <;> rfl), bl_ HB⟩
    ·rw [if_neg c9] at H
     have c9b0 : decide ((t501.length : Int) ≤ a2) = false := decide_eq_false c9
     clear c9
     by_cases c12 : 0 ≤ a2
     ·rw [if_pos c12] at H
      have c12b0 := decide_eq_true c12
      clear c12
      by_cases c13 : a2 < (t501.length : Int)
      ·rw [if_pos c13] at H
       have c13b0 := decide_eq_true c13
       clear c13
       simp only [some.injEq, Prod.mk.injEq] at H
       obtain ⟨rfl, rfl⟩ := H
       go_enter func54, ntmps54
       go_wp2_with (first | ((with_reducible refine gate_callee (f := 50) rfl ?_); refine goesL_ (some 11) rfl rfl func50 (by kernel_rfl) rfl #[.int .i64 a0, .int .u64 a1] rfl (by (try simp only [map_toArray, map_cons, map_nil]); first | done | rfl) ?_; (with_reducible refine (medlarref01_May.calls k a0 a1 true _ A4.out).mono ?_); rintro e w' ⟨rfl, ⟨nd, rfl⟩⟩; refine ⟨_, rfl, ?_⟩) | ((with_reducible refine gate_callee (f := 34) rfl ?_); refine goesL_ (some 14) rfl rfl func34 (by kernel_rfl) rfl #[.int .u64 a1] rfl (by (try simp only [map_toArray, map_cons, map_nil]); first | done | rfl) ?_; (with_reducible refine (medlarref01_Chain.calls k a1 t501 _ A6.out).mono ?_); rintro e w14 ⟨v502, rfl, ho0, hb⟩; refine ⟨_, rfl, ?_⟩; have n0_ := ak_ (Kd.R_lower ho0 (bz_ (bl_ HB))); have n1_ := ak_ (bt_ (bl_ HB) hb); clear HB; have HO503 := n0_; have HB := n1_; clear n0_ n1_; (try clear hb); (try clear hk); (try clear ho0); obtain ⟨Ao15, co15, eo15⟩ := Kd.R_slice HO503.out; subst eo15; have p504 : 0 ≤ (a2 : Int) := od_ (by first | (with_reducible assumption) | assumption); have q504 : a2 < (t501.length : Int) := od_ (by first | (with_reducible assumption) | assumption); obtain ⟨ad504, e504, hx504_0⟩ := Kd.at_int (Kd.R_reads' HO503.out).2.2 a2 p504 q504; cases e504; replace p504 := eq_true p504; replace q504 := eq_true q504))
       go_ret2
       exact ⟨by first | rfl | (simp <;> rfl) | (simp [*] <;> rfl), bl_ HB⟩
      ·rw [if_neg c13] at H
       exact absurd H (by simp)
     ·rw [if_neg c12] at H
      exact absurd H (by simp)
  ·replace c5 := Bool.eq_false_iff.mpr c5
   subst c5
   have H1 : (some (0, 1)) = some (r1, r2) := by rw [if_neg (show ¬ (false = true) by decide)] at H; exact H
   clear H
   have H := H1
   clear H1
   simp only [some.injEq, Prod.mk.injEq] at H
   obtain ⟨rfl, rfl⟩ := H
   go_enter func54, ntmps54
   go_wp2_with (first | ((with_reducible refine gate_callee (f := 50) rfl ?_); refine goesL_ (some 11) rfl rfl func50 (by kernel_rfl) rfl #[.int .i64 a0, .int .u64 a1] rfl (by (try simp only [map_toArray, map_cons, map_nil]); first | done | rfl) ?_; (with_reducible refine (medlarref01_May.calls k a0 a1 false _ A4.out).mono ?_); rintro e w' ⟨rfl, ⟨nd, rfl⟩⟩; refine ⟨_, rfl, ?_⟩))
   go_ret2
   exact ⟨by first | rfl | (simp <;> rfl) | (simp [*] <;> rfl), bl_ HB⟩
def medlarref08_Split.j0 : Nat → Int → Bool → Int → Int → Option ((List (S25)) × Int)
  | 0, _, _, _, _ => none
  | k + 1, x0, x24, x506000, x506001 => if x24 = true then (some ((([(⟨x506000, x506001⟩ : S25)] : List (S25))), 0)) else ((medlarref08_depth.f k x506000).bind fun t511 => ((medlarref08_next.f k x0 t511).bind fun t512 => ((medlarref01_Up.f k x0 x506001 t512).bind fun bt513 => (some ((([(⟨x506000, bt513.1⟩ : S25), (⟨bt513.1, x506001⟩ : S25)] : List (S25))), 0)))))
def medlarref08_Split.f (k : Nat) (a0 : Int) (a1_0 : Int) (a1_1 : Int) : Option ((List (S25)) × Int) := (medlarref08_Useful.f k a0 a1_0 a1_1).bind fun bt506 => (if bt506.2 = 0 then (if bt506.1 = true then (medlarref08_Split.j0 k a0 true a1_0 a1_1) else (medlarref08_Split.j0 k a0 (a1_1 == 0) a1_0 a1_1)) else (some (([] : List (S25)), bt506.2)))
def medlarref08_Split.T6 : Bool × List (List Nat × List Nat) := (true, [([], []), ([], []), ([1], [1]), ([], []), ([], []), ([4], [4]), ([5], [5]), ([3, 6, 6], [3, 6]), ([0, 2, 7, 7], [0, 2, 7]), ([8], [8]), ([9], [9]), ([9], [9]), ([10, 8, 0, 1, 2, 3, 4, 5, 6, 7, 8, 9, 10], [10]), ([11, 12, 0, 1, 2, 3, 4, 5, 6, 7, 8, 9, 10, 11, 12], [11])])
def medlarref08_Split.B6 : List Nat := [0, 0, 2, 0, 0, 16, 48, 120, 255, 511, 1023, 1023, 2047, 8191]
theorem medlarref08_Split.tab6 : rtab .any (opsOf Tryz.f22 6) = medlarref08_Split.T6 := by kernel_rfl
theorem medlarref08_Split.bits6 : waitsOk medlarref08_Split.T6.2 medlarref08_Split.B6 = true := by kernel_rfl
set_option maxHeartbeats 8000000 in
set_option maxRecDepth 100000 in
theorem medlarref08_Split.calls (k : Nat) (a0 : Int) (a1_0 : Int) (a1_1 : Int) (r1 : List (S25)) (r2 : Int) (w : World) (h : medlarref08_Split.f k a0 a1_0 a1_1 = some (r1, r2)) :
   Calls Tryz.prog 22 #[.int .i64 a0, .agg #[.int .u64 a1_0, .int .u64 a1_1]] w fun e w' => ∃ v0_ : Value, e = .returned (.tuple #[v0_, .int .i64 r2]) ∧ Kd.R k25 25 w' w.heap.size (fun _ => True) v0_ r1 ∧ Below w.heap.size w w' := by
  have hu25 := underlying25
  have HB := ak_ (Below.refl w.heap.size w)
  have H : ((medlarref08_Useful.f k a0 a1_0 a1_1).bind fun bt506 => (if bt506.2 = 0 then (if bt506.1 = true then (medlarref08_Split.j0 k a0 true a1_0 a1_1) else (medlarref08_Split.j0 k a0 (a1_1 == 0) a1_0 a1_1)) else (some (([] : List (S25)), bt506.2)))) = some (r1, r2) := h
  clear h
  replace H := bind_eq_some_iff.mp H
  obtain ⟨⟨t506, t507⟩, A30, H⟩ := H
  replace H : (if t507 = 0 then (if t506 = true then (medlarref08_Split.j0 k a0 true a1_0 a1_1) else (medlarref08_Split.j0 k a0 (a1_1 == 0) a1_0 a1_1)) else (some (([] : List (S25)), t507))) = some (r1, r2) := H
  have A3 := ak_ A30
  clear A30
  by_cases c4 : t507 = 0
  ·rw [if_pos c4] at H
   have c4b0 : (t507 == 0) = true := beq_iff_eq.mpr c4
   have c4b1 : (t507 != 0) = false := bne_eq_false_iff_eq.mpr c4
   clear c4
   have HC5 := ak_ H
   clear H
   go_enter func22, ntmps22
   go_upto_region 4 with (first | ((with_reducible refine gate_dst (N := 3) rfl ?_); refine box_event ?hg (N := 3) ?hd (cs := #[.int .u64 a1_0, .int .u64 a1_1]) (t := 25) ?hr ?_; (case hd => rfl); (case hg => rfl); (case hr => first | (go_simp; done) | (go_simp; rfl)); intro gb505 hg w6 hbox hb; have n0_ := ak_ (bt_ (bl_ HB) hb); have n1_ := ak_ (hbox); have n2_ := ak_ ((gs_ hg HB)); have n3_ := ak_ ((gs_ hg HB)); clear HB; have HB := n0_; have BK505 := n1_; have GW505 := n2_; have GE505 := n3_; clear n0_ n1_ n2_ n3_; clear hb hbox hg; have hcz7_0 : w6.cell? ⟨gb505, 0, none⟩ = some (.int .u64 a1_0) := (kc_ BK505.out 0).trans rfl; have hcz7_1 : w6.cell? ⟨gb505, 1, none⟩ = some (.int .u64 a1_1) := (kc_ BK505.out 1).trans rfl; have hfz7_0 := kf_ BK505.out 0; have hfz7_1 := kf_ BK505.out 1) | ((with_reducible refine gate_callee (f := 31) rfl ?_); refine goesL_ (some 13) rfl rfl func31 (by kernel_rfl) rfl #[.int .i64 a0, .agg #[.int .u64 a1_0, .int .u64 a1_1]] rfl (by (try simp only [map_toArray, map_cons, map_nil]); first | done | rfl) ?_; (with_reducible refine (medlarref08_Useful.calls k a0 a1_0 a1_1 t506 t507 _ A3.out).mono ?_); rintro e w8 ⟨rfl, hb⟩; refine ⟨_, rfl, ?_⟩; have n0_ := ak_ (kb_ (g := gb505) (o := .cells #[.int .u64 a1_0, .int .u64 a1_1] 25 (0, 0)) (kl_ BK505) hb); have n1_ := ak_ (bt_ (by repeat (first | (with_reducible first | exact HB.out | apply ba_ | apply bn_ | apply bd_ | refine below_set ?_ GE505.out) | exact HB.out)) hb); clear BK505; clear HB; have BK505 := n0_; have HB := n1_; clear n0_ n1_; (try clear hb); (try clear hk)))
   (try simp only [Act.put, setIfInBounds_toArray, set_cons_zero, set_cons_succ])
   go_cut [24] (fun v24 wc => ∃ (kq : Nat) (x24_4 : Bool), v24 = .bool x24_4 ∧ Aside0 (medlarref08_Split.j0 kq a0 x24_4 a1_0 a1_1 = some (r1, r2)) ∧ Aside0 (kq ≤ k) ∧ Aside0 (wc.heap[gb505]? = some (.cells #[.int .u64 a1_0, .int .u64 a1_1] 25 (0, 0))) ∧ Aside0 (Below w.heap.size w wc))
   case first =>
    have H := HC5.out
    clear HC5
    by_cases c9 : t506 = true
    ·subst c9
     have H1 : (medlarref08_Split.j0 k a0 true a1_0 a1_1) = some (r1, r2) := by rw [if_pos rfl] at H; exact H
     clear H
     have H := H1
     clear H1
     have H' := ak_ H
     clear H
     go_wp2
     go_meet
     case rel => exact ⟨_, (true), (by first | rfl | (simp; done) | (simp [*]; done)), H', ⟨by first | omega | exact Nat.le_refl _⟩, ⟨kl_ BK505⟩, ⟨by repeat (first | (with_reducible first | exact HB.out | apply ba_ | apply bn_ | apply bd_ | refine below_set ?_ GE505.out) | exact HB.out)⟩⟩
    ·replace c9 := Bool.eq_false_iff.mpr c9
     subst c9
     have H1 : (medlarref08_Split.j0 k a0 (a1_1 == 0) a1_0 a1_1) = some (r1, r2) := by rw [if_neg (show ¬ (false = true) by decide)] at H; exact H
     clear H
     have H := H1
     clear H1
     have H' := ak_ H
     clear H
     have hcz10_0 : w8.cell? ⟨gb505, 0, none⟩ = some (.int .u64 a1_0) := (kc_ BK505.out 0).trans rfl
     have hcz10_1 : w8.cell? ⟨gb505, 1, none⟩ = some (.int .u64 a1_1) := (kc_ BK505.out 1).trans rfl
     have hfz10_0 := kf_ BK505.out 0
     have hfz10_1 := kf_ BK505.out 1
     go_wp2
     go_meet
     case rel => exact ⟨_, ((a1_1 == 0)), (by first | rfl | (simp; done) | (simp [*]; done)), H', ⟨by first | omega | exact Nat.le_refl _⟩, ⟨kl_ BK505⟩, ⟨by repeat (first | (with_reducible first | exact HB.out | apply ba_ | apply bn_ | apply bd_ | refine below_set ?_ GE505.out) | exact HB.out)⟩⟩
   case rest =>
    clear HC5
    try clear c2
    try clear p2
    try clear c3
    try clear c4
    try clear c4b0
    try clear c4b1
    try clear c9
    try clear hcz10_0
    try clear hcz10_1
    try clear hcz7_0
    try clear hcz7_1
    try clear hfz10_0
    try clear hfz10_1
    try clear hfz7_0
    try clear hfz7_1
    obtain ⟨kq, x24_4, rfl, HA, HJ4, BK505, HB⟩ := hcut
    cases kq with
    | zero => exact absurd HA.out (by simp [medlarref08_Split.j0])
    | succ kj4 =>
     have H := HA.out
     clear HA
     simp only [medlarref08_Split.j0] at H
     by_cases c11 : x24_4 = true
     ·subst c11
      have H1 : (some ((([(⟨a1_0, a1_1⟩ : S25)] : List (S25))), 0)) = some (r1, r2) := by rw [if_pos rfl] at H; exact H
      clear H
      have H := H1
      clear H1
      obtain ⟨y508, hy508⟩ : ∃ y_ : List (S25), y_ = (([(⟨a1_0, a1_1⟩ : S25)] : List (S25))) := ⟨_, rfl⟩
      replace H : (some (y508, 0)) = some (r1, r2) := by first | (rw [hy508]; with_reducible exact H) | (have H2_ := (Option.bind_some _ _).symm.trans H; rw [hy508]; with_reducible exact H2_) | (have H2_ := (Option.bind_some _ _).symm.trans H; with_reducible exact H2_) | with_reducible exact H | (rw [hy508]; exact H) | exact H
      have Ny508 := ak_ hy508
      clear hy508
      simp only [some.injEq, Prod.mk.injEq] at H
      obtain ⟨rfl, rfl⟩ := H
      have hcz12_0 : wc.cell? ⟨gb505, 0, none⟩ = some (.int .u64 a1_0) := (kc_ BK505.out 0).trans rfl
      have hcz12_1 : wc.cell? ⟨gb505, 1, none⟩ = some (.int .u64 a1_1) := (kc_ BK505.out 1).trans rfl
      have hfz12_0 := kf_ BK505.out 0
      have hfz12_1 := kf_ BK505.out 1
      go_wp2_with (first | ((with_reducible refine gate_dst (N := 26) rfl ?_); refine Kd.R_lit k25 _ 25 ?hg (N := 26) ?hd (xs := ([(⟨a1_0, a1_1⟩ : S25)] : List (S25))) (inner := [.int .u64 a1_0, .int .u64 a1_1]) (ok := fun _ => True) (okp := fun _ => True) ?hr ?hp (fun _ hk => hk) trivial (Below.refl _ _) (Nat.le_refl _) (by simp) ?_; (case hd => rfl); (case hg => rfl); (case hr => first | (go_simp; done) | (go_simp; rfl)); (case hp => exact (Reps.c2 (show Kd.M k25 _ _ _ (⟨a1_0, a1_1⟩ : S25) [.int .u64 a1_0, .int .u64 a1_1] from (k25_mkM _ _ _ (⟨a1_0, a1_1⟩ : S25) )) (Reps.none _ _))); intro v509 w13 ho14 hb hg_ hnew_; clear hg_ hnew_; (first | rw [← Ny508.out] at ho14 | (simp only [Int.reduceToNat] at ho14; rw [← Ny508.out] at ho14)); have n0_ := ak_ (Kd.R_lower (Kd.R_newB ho14 (g := gb505) (o := .cells #[.int .u64 a1_0, .int .u64 a1_1] 25 (0, 0)) (kl_ BK505)) (bz_ (by repeat (first | (with_reducible first | exact HB.out | apply ba_ | apply bn_ | apply bd_ | refine below_set ?_ GE505.out) | exact HB.out)))); have n1_ := ak_ (kb_ (g := gb505) (o := .cells #[.int .u64 a1_0, .int .u64 a1_1] 25 (0, 0)) (kl_ BK505) hb); have n2_ := ak_ (bt_ (by repeat (first | (with_reducible first | exact HB.out | apply ba_ | apply bn_ | apply bd_ | refine below_set ?_ GE505.out) | exact HB.out)) hb); clear BK505; clear HB; have HO510 := n0_; have BK505 := n1_; have HB := n2_; clear n0_ n1_ n2_; clear hb ho14))
      go_ret2
      exact ⟨_, by first | rfl | (simp <;> rfl) | (simp [*] <;> rfl), by (with_reducible repeat (first | apply Kd.R_alloc | apply Kd.R_drewN | apply Kd.R_drew)); exact Kd.R_mono HO510.out (fun _ hk => trivial), by repeat (first | (with_reducible first | exact HB.out | apply ba_ | apply bn_ | apply bd_ | refine below_set ?_ GE505.out) | exact HB.out)⟩
     ·replace c11 := Bool.eq_false_iff.mpr c11
      subst c11
      have H1 : ((medlarref08_depth.f kj4 a1_0).bind fun t511 => ((medlarref08_next.f kj4 a0 t511).bind fun t512 => ((medlarref01_Up.f kj4 a0 a1_1 t512).bind fun bt513 => (some ((([(⟨a1_0, bt513.1⟩ : S25), (⟨bt513.1, a1_1⟩ : S25)] : List (S25))), 0))))) = some (r1, r2) := by rw [if_neg (show ¬ (false = true) by decide)] at H; exact H
      clear H
      have H := H1
      clear H1
      replace H := bind_eq_some_iff.mp H
      obtain ⟨t511, A150, H⟩ := H
      replace H : ((medlarref08_next.f kj4 a0 t511).bind fun t512 => ((medlarref01_Up.f kj4 a0 a1_1 t512).bind fun bt513 => (some ((([(⟨a1_0, bt513.1⟩ : S25), (⟨bt513.1, a1_1⟩ : S25)] : List (S25))), 0)))) = some (r1, r2) := H
      have A15 := ak_ A150
      clear A150
      replace H := bind_eq_some_iff.mp H
      obtain ⟨t512, A160, H⟩ := H
      replace H : ((medlarref01_Up.f kj4 a0 a1_1 t512).bind fun bt513 => (some ((([(⟨a1_0, bt513.1⟩ : S25), (⟨bt513.1, a1_1⟩ : S25)] : List (S25))), 0))) = some (r1, r2) := H
      have A16 := ak_ A160
      clear A160
      replace H := bind_eq_some_iff.mp H
      obtain ⟨⟨t513, t514⟩, A170, H⟩ := H
      replace H : (some ((([(⟨a1_0, t513⟩ : S25), (⟨t513, a1_1⟩ : S25)] : List (S25))), 0)) = some (r1, r2) := H
      have A17 := ak_ A170
      clear A170
      obtain ⟨y515, hy515⟩ : ∃ y_ : List (S25), y_ = (([(⟨a1_0, t513⟩ : S25), (⟨t513, a1_1⟩ : S25)] : List (S25))) := ⟨_, rfl⟩
      replace H : (some (y515, 0)) = some (r1, r2) := by first | (rw [hy515]; with_reducible exact H) | (have H2_ := (Option.bind_some _ _).symm.trans H; rw [hy515]; with_reducible exact H2_) | (have H2_ := (Option.bind_some _ _).symm.trans H; with_reducible exact H2_) | with_reducible exact H | (rw [hy515]; exact H) | exact H
      have Ny515 := ak_ hy515
      clear hy515
      simp only [some.injEq, Prod.mk.injEq] at H
      obtain ⟨rfl, rfl⟩ := H
      try go_wp2
      have n0_ := ak_ (kd_ BK505.out)
      have n1_ := ak_ (bd_ HB.out)
      clear BK505
      clear HB
      have BK505 := n0_
      have HB := n1_
      clear n0_ n1_
      refine start_ (n := 14) (S := fun w' => w'.cell? ⟨gb505, 0, none⟩ = some (.int .u64 a1_0) ∧ w'.cell? ⟨gb505, 1, none⟩ = some (.int .u64 a1_1)) (ds := []) #[false, false, false, false, false, false, false, false, false, false, false, false, false, false] (by kernel_rfl) rfl rfl ⟨(kc_ BK505.out 0).trans rfl, (kc_ BK505.out 1).trans rfl⟩ (fun hHeld => ?_); refine with_tabW medlarref08_Split.tab6 medlarref08_Split.bits6 (fun HT_ HW_ => ?_)
      generalize wc.drew = w18 at BK505 HB hHeld ⊢
      refine pure_ (i := 0) (N := some 28) (v := ?_) (a' := ?_) (bA6 1 14) rfl rfl (any_of HT_.out (by kernel_rfl)) (fun _ _ _ h => h) (Or.inl ⟨by rfl, ?_⟩) ?_ ?_; rotate_left; (intro w'; go_simp; with_reducible rfl); rotate_left; (simp only [Act.put, setIfInBounds_toArray, set_cons_zero, set_cons_succ, i64_w, i32_w]; rfl)
      refine pure_ (i := 1) (N := some 29) (v := ?_) (a' := ?_) (bA6 2 14) rfl rfl (any_of HT_.out (by kernel_rfl)) (fun _ _ _ h => h) (Or.inl ⟨by rfl, ?_⟩) ?_ ?_; rotate_left; (intro w'; go_simp; with_reducible rfl); rotate_left; (simp only [Act.put, setIfInBounds_toArray, set_cons_zero, set_cons_succ, i64_w, i32_w]; rfl)
      refine pure_ (i := 3) (N := some 31) (v := ?_) (a' := ?_) #[true, true, false, true, false, false, false, false, false, false, false, false, false, false] rfl rfl (any_of HT_.out (by kernel_rfl)) (fun _ _ _ h => h) (Or.inl ⟨by rfl, ?_⟩) ?_ ?_; rotate_left; (intro w'; go_simp; with_reducible rfl); rotate_left; (simp only [Act.put, setIfInBounds_toArray, set_cons_zero, set_cons_succ, i64_w, i32_w]; rfl)
      refine pure_ (i := 4) (N := some 32) (v := ?_) (a' := ?_) #[true, true, false, true, true, false, false, false, false, false, false, false, false, false] rfl rfl (any_of HT_.out (by kernel_rfl)) (fun _ _ _ h => h) (Or.inl ⟨by rfl, ?_⟩) ?_ ?_; rotate_left; (intro w'; go_simp; with_reducible rfl); rotate_left; (simp only [Act.put, setIfInBounds_toArray, set_cons_zero, set_cons_succ, i64_w, i32_w]; rfl)
      refine take_ (i := 2) (N := some 30) (v := ?_) (a' := ?_) (bA6 5 14) rfl rfl (take_ofW HT_.out HW_.out (by kernel_rfl)) (fun _ _ _ h => h) (Or.inl ⟨by rfl, ?_⟩) hHeld ?_ ?_
      rotate_left
      ·rintro w' ⟨s0, s1⟩
       go_simp
       with_reducible rfl
      rotate_left
      ·simp only [Act.put, setIfInBounds_toArray, set_cons_zero, set_cons_succ, i64_w, i32_w]
       rfl
      refine take_ (i := 5) (N := some 33) (v := ?_) (a' := ?_) (bA6 6 14) rfl rfl (take_ofW HT_.out HW_.out (by kernel_rfl)) (fun _ _ _ h => h) (Or.inl ⟨by rfl, ?_⟩) hHeld ?_ ?_
      rotate_left
      ·rintro w' ⟨s0, s1⟩
       go_simp
       with_reducible rfl
      rotate_left
      ·simp only [Act.put, setIfInBounds_toArray, set_cons_zero, set_cons_succ, i64_w, i32_w]
       rfl
      refine one_ (i := 6) (N := some 34) (bA6 7 14) rfl rfl (one_of HT_.out (by kernel_rfl)) (by decide) (fun K hK => ?_)
      refine goes_ func56 (by kernel_rfl) rfl #[.int .u64 a1_0] (by rfl) rfl rfl (by (try simp only [map_toArray, map_cons, map_nil]); first | done | rfl | (simp only [length_drop, length_take]; rfl)) ?_
      with_reducible refine (medlarref08_depth.calls kj4 a1_0 t511 _ A15.out).mono ?_
      rintro e w19 ⟨rfl, hb⟩
      refine ⟨_, rfl, ?_⟩
      have n0_ := ak_ (kb_ (g := gb505) (o := .cells #[.int .u64 a1_0, .int .u64 a1_1] 25 (0, 0)) (kl_ BK505) hb)
      have n1_ := ak_ (bt_ (by repeat (first | (with_reducible first | exact HB.out | apply ba_ | apply bn_ | apply bd_ | refine below_set ?_ GE505.out) | exact HB.out)) hb)
      clear BK505
      clear HB
      have BK505 := n0_
      have HB := n1_
      clear n0_ n1_
      (try clear hb)
      (try clear hb2)
      (try clear hk)
      (try clear hi)
      refine hK.out _ _ ⟨(kc_ BK505.out 0).trans rfl, (kc_ BK505.out 1).trans rfl⟩ (fun hHeld => ?_)
      clear hK K
      refine norm_ (a' := ?_) ?_ ?_
      rotate_left
      ·show Act.put _ (some 34) _ = _
       simp only [Act.put, setIfInBounds_toArray, set_cons_zero, set_cons_succ, i64_w, i32_w]
       rfl
      refine one_ (i := 7) (N := some 35) (bA6 8 14) rfl rfl (one_of HT_.out (by kernel_rfl)) (by decide) (fun K hK => ?_)
      refine goes_ func55 (by kernel_rfl) rfl #[.int .i64 a0, .int .i64 t511] (by rfl) rfl rfl (by (try simp only [map_toArray, map_cons, map_nil]); first | done | rfl | (simp only [length_drop, length_take]; rfl)) ?_
      with_reducible refine (medlarref08_next.calls kj4 a0 t511 t512 _ A16.out).mono ?_
      rintro e w' ⟨rfl, ⟨nd, rfl⟩⟩
      refine ⟨_, rfl, ?_⟩
      refine hK.out _ _ ⟨(kc_ BK505.out 0).trans rfl, (kc_ BK505.out 1).trans rfl⟩ (fun hHeld => ?_)
      clear hK K
      refine norm_ (a' := ?_) ?_ ?_
      rotate_left
      ·show Act.put _ (some 35) _ = _
       simp only [Act.put, setIfInBounds_toArray, set_cons_zero, set_cons_succ, i64_w, i32_w]
       rfl
      refine one_ (i := 8) (N := some 36) (bA6 9 14) rfl rfl (one_of HT_.out (by kernel_rfl)) (by decide) (fun K hK => ?_)
      refine goes_ func54 (by kernel_rfl) rfl #[.int .i64 a0, .int .u64 a1_1, .int .i64 t512] (by rfl) rfl rfl (by (try simp only [map_toArray, map_cons, map_nil]); first | done | rfl | (simp only [length_drop, length_take]; rfl)) ?_
      with_reducible refine (medlarref01_Up.calls kj4 a0 a1_1 t512 t513 t514 _ A17.out).mono ?_
      rintro e w20 ⟨rfl, hb⟩
      refine ⟨_, rfl, ?_⟩
      have n0_ := ak_ (kb_ (g := gb505) (o := .cells #[.int .u64 a1_0, .int .u64 a1_1] 25 (0, 0)) (kl_ BK505) hb)
      have n1_ := ak_ (bt_ (by repeat (first | (with_reducible first | exact HB.out | apply ba_ | apply bn_ | apply bd_ | refine below_set ?_ GE505.out) | exact HB.out)) hb)
      clear BK505
      clear HB
      have BK505 := n0_
      have HB := n1_
      clear n0_ n1_
      (try clear hb)
      (try clear hb2)
      (try clear hk)
      (try clear hi)
      refine hK.out _ _ ⟨(kc_ BK505.out 0).trans rfl, (kc_ BK505.out 1).trans rfl⟩ (fun hHeld => ?_)
      clear hK K
      refine norm_ (a' := ?_) ?_ ?_
      rotate_left
      ·show Act.put _ (some 36) _ = _
       simp only [Act.put, setIfInBounds_toArray, set_cons_zero, set_cons_succ, i64_w, i32_w]
       rfl
      refine pure_ (i := 9) (N := some 27) (v := ?_) (a' := ?_) (bA6 10 14) rfl rfl (any_of HT_.out (by kernel_rfl)) (fun _ _ _ h => h) (Or.inl ⟨by rfl, ?_⟩) ?_ ?_; rotate_left; (intro w'; go_simp; with_reducible rfl); rotate_left; (simp only [Act.put, setIfInBounds_toArray, set_cons_zero, set_cons_succ, i64_w, i32_w]; rfl)
      refine pure_ (i := 10) (N := some 37) (v := ?_) (a' := ?_) (bA6 11 14) rfl rfl (any_of HT_.out (by kernel_rfl)) (fun _ _ _ h => h) (Or.inl ⟨by rfl, ?_⟩) ?_ ?_; rotate_left; (intro w'; go_simp; with_reducible rfl); rotate_left; (simp only [Act.put, setIfInBounds_toArray, set_cons_zero, set_cons_succ, i64_w, i32_w]; rfl)
      refine pure_ (i := 11) (N := some 38) (v := ?_) (a' := ?_) (bA6 12 14) rfl rfl (any_of HT_.out (by kernel_rfl)) (fun _ _ _ h => h) (Or.inl ⟨by rfl, ?_⟩) ?_ ?_; rotate_left; (intro w'; go_simp; with_reducible rfl); rotate_left; (simp only [Act.put, setIfInBounds_toArray, set_cons_zero, set_cons_succ, i64_w, i32_w]; rfl)
      refine pure_ (i := 12) (N := some 8) (v := ?_) (a' := ?_) (bA6 13 14) rfl rfl (any_of HT_.out (by kernel_rfl)) (fun _ _ _ h => h) (Or.inl ⟨by rfl, ?_⟩) ?_ ?_; rotate_left; (intro w'; go_simp; with_reducible rfl); rotate_left; (simp only [Act.put, setIfInBounds_toArray, set_cons_zero, set_cons_succ, i64_w, i32_w]; rfl)
      refine pure_ (i := 13) (N := some 9) (v := ?_) (a' := ?_) (bA6 14 14) rfl rfl (any_of HT_.out (by kernel_rfl)) (fun _ _ _ h => h) (Or.inl ⟨by rfl, ?_⟩) ?_ ?_; rotate_left; (intro w'; go_simp; with_reducible rfl); rotate_left; (simp only [Act.put, setIfInBounds_toArray, set_cons_zero, set_cons_succ, i64_w, i32_w]; rfl)
      refine done_ (done_of HT_.out (by kernel_rfl)) ?_
      have hcz21_0 : w20.cell? ⟨gb505, 0, none⟩ = some (.int .u64 a1_0) := (kc_ BK505.out 0).trans rfl
      have hcz21_1 : w20.cell? ⟨gb505, 1, none⟩ = some (.int .u64 a1_1) := (kc_ BK505.out 1).trans rfl
      have hfz21_0 := kf_ BK505.out 0
      have hfz21_1 := kf_ BK505.out 1
      try go_wp2_with (first | ((with_reducible refine gate_dst (N := 47) rfl ?_); refine Kd.R_lit k25 _ 25 ?hg (N := 47) ?hd (xs := ([(⟨a1_0, t513⟩ : S25), (⟨t513, a1_1⟩ : S25)] : List (S25))) (inner := [.int .u64 a1_0, .int .u64 t513, .int .u64 t513, .int .u64 a1_1]) (ok := fun _ => True) (okp := fun _ => True) ?hr ?hp (fun _ hk => hk) trivial (Below.refl _ _) (Nat.le_refl _) (by simp) ?_; (case hd => rfl); (case hg => rfl); (case hr => first | (go_simp; done) | (go_simp; rfl)); (case hp => exact (Reps.c2 (show Kd.M k25 _ _ _ (⟨a1_0, t513⟩ : S25) [.int .u64 a1_0, .int .u64 t513] from (k25_mkM _ _ _ (⟨a1_0, t513⟩ : S25) )) (Reps.c2 (show Kd.M k25 _ _ _ (⟨t513, a1_1⟩ : S25) [.int .u64 t513, .int .u64 a1_1] from (k25_mkM _ _ _ (⟨t513, a1_1⟩ : S25) )) (Reps.none _ _)))); intro v516 w22 ho23 hb hg_ hnew_; clear hg_ hnew_; (first | rw [← Ny515.out] at ho23 | (simp only [Int.reduceToNat] at ho23; rw [← Ny515.out] at ho23)); have n0_ := ak_ (Kd.R_lower (Kd.R_newB ho23 (g := gb505) (o := .cells #[.int .u64 a1_0, .int .u64 a1_1] 25 (0, 0)) (kl_ BK505)) (bz_ (by repeat (first | (with_reducible first | exact HB.out | apply ba_ | apply bn_ | apply bd_ | refine below_set ?_ GE505.out) | exact HB.out)))); have n1_ := ak_ (kb_ (g := gb505) (o := .cells #[.int .u64 a1_0, .int .u64 a1_1] 25 (0, 0)) (kl_ BK505) hb); have n2_ := ak_ (bt_ (by repeat (first | (with_reducible first | exact HB.out | apply ba_ | apply bn_ | apply bd_ | refine below_set ?_ GE505.out) | exact HB.out)) hb); clear BK505; clear HB; have HO517 := n0_; have BK505 := n1_; have HB := n2_; clear n0_ n1_ n2_; clear hb ho23))
      go_ret2
      exact ⟨_, by first | rfl | (simp <;> rfl) | (simp [*] <;> rfl), by (with_reducible repeat (first | apply Kd.R_alloc | apply Kd.R_drewN | apply Kd.R_drew)); exact Kd.R_mono HO517.out (fun _ hk => trivial), by repeat (first | (with_reducible first | exact HB.out | apply ba_ | apply bn_ | apply bd_ | refine below_set ?_ GE505.out) | exact HB.out)⟩
  ·rw [if_neg c4] at H
   have c4b0 : (t507 == 0) = false := beq_eq_false_iff_ne.mpr c4
   have c4b1 : (t507 != 0) = true := bne_iff_ne.mpr c4
   simp only [some.injEq, Prod.mk.injEq] at H
   obtain ⟨rfl, rfl⟩ := H
   go_enter func22, ntmps22
   go_wp2_with (first | ((with_reducible refine gate_dst (N := 3) rfl ?_); refine box_event ?hg (N := 3) ?hd (cs := #[.int .u64 a1_0, .int .u64 a1_1]) (t := 25) ?hr ?_; (case hd => rfl); (case hg => rfl); (case hr => first | (go_simp; done) | (go_simp; rfl)); intro gb505 hg w24 hbox hb; have n0_ := ak_ (bt_ (bl_ HB) hb); have n1_ := ak_ (hbox); have n2_ := ak_ ((gs_ hg HB)); have n3_ := ak_ ((gs_ hg HB)); clear HB; have HB := n0_; have BK505 := n1_; have GW505 := n2_; have GE505 := n3_; clear n0_ n1_ n2_ n3_; clear hb hbox hg; have hcz25_0 : w24.cell? ⟨gb505, 0, none⟩ = some (.int .u64 a1_0) := (kc_ BK505.out 0).trans rfl; have hcz25_1 : w24.cell? ⟨gb505, 1, none⟩ = some (.int .u64 a1_1) := (kc_ BK505.out 1).trans rfl; have hfz25_0 := kf_ BK505.out 0; have hfz25_1 := kf_ BK505.out 1) | ((with_reducible refine gate_callee (f := 31) rfl ?_); refine goesL_ (some 13) rfl rfl func31 (by kernel_rfl) rfl #[.int .i64 a0, .agg #[.int .u64 a1_0, .int .u64 a1_1]] rfl (by (try simp only [map_toArray, map_cons, map_nil]); first | done | rfl) ?_; (with_reducible refine (medlarref08_Useful.calls k a0 a1_0 a1_1 t506 t507 _ A3.out).mono ?_); rintro e w26 ⟨rfl, hb⟩; refine ⟨_, rfl, ?_⟩; have n0_ := ak_ (kb_ (g := gb505) (o := .cells #[.int .u64 a1_0, .int .u64 a1_1] 25 (0, 0)) (kl_ BK505) hb); have n1_ := ak_ (bt_ (by repeat (first | (with_reducible first | exact HB.out | apply ba_ | apply bn_ | apply bd_ | refine below_set ?_ GE505.out) | exact HB.out)) hb); clear BK505; clear HB; have BK505 := n0_; have HB := n1_; clear n0_ n1_; (try clear hb); (try clear hk)))
   go_ret2
   exact ⟨_, by first | rfl | (simp <;> rfl) | (simp [*] <;> rfl), by first | exact Kd.R_nil _ _ _ _ _ | exact Kd.N_nil _ _ _ _ _ | exact Kd.V_nil _ _ _ _ _ | exact Kd.Q_nil _ _ _ _ _ | exact Kd.S_nil _ _ _ _ _, by repeat (first | (with_reducible first | exact HB.out | apply ba_ | apply bn_ | apply bd_ | refine below_set ?_ GE505.out) | exact HB.out)⟩
mutual
def medlarref12_Cover.j0 : Nat → Int → List (S25) → Int → Bool → Option ((List (S25)) × Int)
  | 0, _, _, _, _ => none
  | k + 1, x0, x8, x9, x37 => if x37 = true then (some (x8, x9)) else (medlarref12_Cover.l0 k x0 ([] : List (S25)) x8 (x8.length : Int) 0)
def medlarref12_Cover.l0 : Nat → Int → List (S25) → List (S25) → Int → Int → Option ((List (S25)) × Int)
  | 0, _, _, _, _, _ => none
  | k + 1, x0, x10, x40, x41, x42 => if x42 < x41 then (if 0 ≤ x42 then (if x42 < (x40.length : Int) then ((medlarref08_Split.f k x0 ((rd_T25 x40 x42).f0) ((rd_T25 x40 x42).f1)).bind fun bt529 => (if x10.length + bt529.1.length < 8796093022208 then (medlarref12_Cover.l0 k x0 (x10 ++ bt529.1) x40 x41 (wrap64 (x42 + 1))) else (none))) else (none)) else (none)) else ((medlarref11_Order.f k x10).bind fun t536 => (some (t536, 0)))
end
def medlarref12_Cover.f (k : Nat) (a0 : Int) (a1 : Int) (l2 : List Int) : Option ((List (S25)) × Int) := (medlarref12_scheme.f k a0 a1).bind fun t518 => (if t518 = true then (if a1 = 1 then ((medlarref10_Cover.f k a0 l2).bind fun bt519 => (some (bt519.1, bt519.2))) else ((medlarref11_Cover.f k a0 l2).bind fun bt523 => (if a1 = 2 then (medlarref12_Cover.j0 k a0 bt523.1 bt523.2 true) else (medlarref12_Cover.j0 k a0 bt523.1 bt523.2 (bt523.2 != 0))))) else (some (([] : List (S25)), 1)))
set_option maxHeartbeats 8000000 in
set_option maxRecDepth 100000 in
theorem medlarref12_Cover.calls (k : Nat) (a0 : Int) (a1 : Int) (A2 : Option Addr) (c2 : Nat) (l2 : List Int) (r1 : List (S25)) (r2 : Int) (w : World) (hr2 : Kd.C (Kd.int .u64) w A2 l2.length l2) (hc2 : l2.length ≤ c2) (h : medlarref12_Cover.f k a0 a1 l2 = some (r1, r2)) :
   Calls Tryz.prog 6 #[.int .i64 a0, .int .i64 a1, .slice A2 l2.length c2] w fun e w' => ∃ v0_ : Value, e = .returned (.tuple #[v0_, .int .i64 r2]) ∧ Kd.R k25 25 w' w.heap.size (fun _ => True) v0_ r1 ∧ Below w.heap.size w w' := by
  have hu25 := underlying25
  have HR2 := ak_ hr2
  have HC2 := ak_ hc2
  clear hr2 hc2
  have HB := ak_ (Below.refl w.heap.size w)
  have H : ((medlarref12_scheme.f k a0 a1).bind fun t518 => (if t518 = true then (if a1 = 1 then ((medlarref10_Cover.f k a0 l2).bind fun bt519 => (some (bt519.1, bt519.2))) else ((medlarref11_Cover.f k a0 l2).bind fun bt523 => (if a1 = 2 then (medlarref12_Cover.j0 k a0 bt523.1 bt523.2 true) else (medlarref12_Cover.j0 k a0 bt523.1 bt523.2 (bt523.2 != 0))))) else (some (([] : List (S25)), 1)))) = some (r1, r2) := h
  clear h
  replace H := bind_eq_some_iff.mp H
  obtain ⟨t518, A40, H⟩ := H
  replace H : (if t518 = true then (if a1 = 1 then ((medlarref10_Cover.f k a0 l2).bind fun bt519 => (some (bt519.1, bt519.2))) else ((medlarref11_Cover.f k a0 l2).bind fun bt523 => (if a1 = 2 then (medlarref12_Cover.j0 k a0 bt523.1 bt523.2 true) else (medlarref12_Cover.j0 k a0 bt523.1 bt523.2 (bt523.2 != 0))))) else (some (([] : List (S25)), 1))) = some (r1, r2) := H
  have A4 := ak_ A40
  clear A40
  by_cases c5 : t518 = true
  ·subst c5
   have H1 : (if a1 = 1 then ((medlarref10_Cover.f k a0 l2).bind fun bt519 => (some (bt519.1, bt519.2))) else ((medlarref11_Cover.f k a0 l2).bind fun bt523 => (if a1 = 2 then (medlarref12_Cover.j0 k a0 bt523.1 bt523.2 true) else (medlarref12_Cover.j0 k a0 bt523.1 bt523.2 (bt523.2 != 0))))) = some (r1, r2) := by rw [if_pos rfl] at H; exact H
   clear H
   have H := H1
   clear H1
   by_cases c6 : a1 = 1
   ·rw [if_pos c6] at H
    have c6b0 : (a1 == 1) = true := beq_iff_eq.mpr c6
    have c6b1 : (a1 != 1) = false := bne_eq_false_iff_eq.mpr c6
    clear c6
    replace H := bind_eq_some_iff.mp H
    obtain ⟨⟨t519, t520⟩, A70, H⟩ := H
    replace H : (some (t519, t520)) = some (r1, r2) := H
    have A7 := ak_ A70
    clear A70
    simp only [some.injEq, Prod.mk.injEq] at H
    obtain ⟨rfl, rfl⟩ := H
    go_enter func6, ntmps6
    go_wp2_with (first | ((with_reducible refine gate_callee (f := 19) rfl ?_); refine goesL_ (some 17) rfl rfl func19 (by kernel_rfl) rfl #[.int .i64 a0, .int .i64 a1] rfl (by (try simp only [map_toArray, map_cons, map_nil]); first | done | rfl) ?_; (with_reducible refine (medlarref12_scheme.calls k a0 a1 true _ A4.out).mono ?_); rintro e w' ⟨rfl, ⟨nd, rfl⟩⟩; refine ⟨_, rfl, ?_⟩) | ((with_reducible refine gate_callee (f := 20) rfl ?_); refine goesL_ (some 23) rfl rfl func20 (by kernel_rfl) rfl #[.int .i64 a0, .slice A2 l2.length c2] rfl (by (try simp only [map_toArray, map_cons, map_nil]); first | done | rfl) ?_; (with_reducible refine (medlarref10_Cover.calls k a0 _ _ l2 t519 t520 _ ?side1 ?side2 A7.out).mono ?_); (case side1 => repeat (first | exact HR2.out | (with_reducible refine Kd.C_alloc ?_ _) | (with_reducible refine Kd.C_drewN ?_ _) | (with_reducible refine Kd.C_drew ?_))); (case side2 => exact HC2.out); rintro e w8 ⟨v521, rfl, ho0, hb⟩; refine ⟨_, rfl, ?_⟩; have n0_ := ak_ (Kd.R_lower ho0 (bz_ (bl_ HB))); have n1_ := ak_ (bt_ (bl_ HB) hb); clear HB; have HO522 := n0_; have HB := n1_; clear n0_ n1_; (try clear hb); (try clear hk); (try clear ho0)))
    go_ret2
    exact ⟨_, by first | rfl | (simp <;> rfl) | (simp [*] <;> rfl), by (with_reducible repeat (first | apply Kd.R_alloc | apply Kd.R_drewN | apply Kd.R_drew)); exact HO522.out, bl_ HB⟩
   ·rw [if_neg c6] at H
    have c6b0 : (a1 == 1) = false := beq_eq_false_iff_ne.mpr c6
    have c6b1 : (a1 != 1) = true := bne_iff_ne.mpr c6
    replace H := bind_eq_some_iff.mp H
    obtain ⟨⟨t523, t524⟩, A90, H⟩ := H
    replace H : (if a1 = 2 then (medlarref12_Cover.j0 k a0 t523 t524 true) else (medlarref12_Cover.j0 k a0 t523 t524 (t524 != 0))) = some (r1, r2) := H
    have A9 := ak_ A90
    clear A90
    have HC10 := ak_ H
    clear H
    go_enter func6, ntmps6
    go_upto_region 6 with (first | ((with_reducible refine gate_callee (f := 19) rfl ?_); refine goesL_ (some 17) rfl rfl func19 (by kernel_rfl) rfl #[.int .i64 a0, .int .i64 a1] rfl (by (try simp only [map_toArray, map_cons, map_nil]); first | done | rfl) ?_; (with_reducible refine (medlarref12_scheme.calls k a0 a1 true _ A4.out).mono ?_); rintro e w' ⟨rfl, ⟨nd, rfl⟩⟩; refine ⟨_, rfl, ?_⟩) | ((with_reducible refine gate_callee (f := 21) rfl ?_); refine goesL_ (some 29) rfl rfl func21 (by kernel_rfl) rfl #[.int .i64 a0, .slice A2 l2.length c2] rfl (by (try simp only [map_toArray, map_cons, map_nil]); first | done | rfl) ?_; (with_reducible refine (medlarref11_Cover.calls k a0 _ _ l2 t523 t524 _ ?side1 ?side2 A9.out).mono ?_); (case side1 => repeat (first | exact HR2.out | (with_reducible refine Kd.C_alloc ?_ _) | (with_reducible refine Kd.C_drewN ?_ _) | (with_reducible refine Kd.C_drew ?_))); (case side2 => exact HC2.out); rintro e w11 ⟨v525, rfl, ho0, hb⟩; refine ⟨_, rfl, ?_⟩; have n0_ := ak_ (Kd.R_lower ho0 (bz_ (bl_ HB))); have n1_ := ak_ (bt_ (bl_ HB) hb); clear HB; have HO526 := n0_; have HB := n1_; clear n0_ n1_; (try clear hb); (try clear hk); (try clear ho0)))
    (try simp only [Act.put, setIfInBounds_toArray, set_cons_zero, set_cons_succ])
    go_cut [37] (fun v37 wc => ∃ (kq : Nat) (x37_9 : Bool), v37 = .bool x37_9 ∧ Aside0 (medlarref12_Cover.j0 kq a0 t523 t524 x37_9 = some (r1, r2)) ∧ Aside0 (kq ≤ k) ∧ Aside0 (Kd.R k25 25 wc w.heap.size (fun _ => True) v525 t523) ∧ Aside0 (Below w.heap.size w wc))
    case first =>
     have H := HC10.out
     clear HC10
     by_cases c12 : a1 = 2
     ·rw [if_pos c12] at H
      have c12b0 : (a1 == 2) = true := beq_iff_eq.mpr c12
      have c12b1 : (a1 != 2) = false := bne_eq_false_iff_eq.mpr c12
      clear c12
      (first | rw [c12b0] | (simp only [i64_w, i32_w]; rw [c12b0]) | skip)
      have H' := ak_ H
      clear H
      go_wp2
      go_meet
      case rel => exact ⟨_, (true), (by first | rfl | (simp; done) | (simp [*]; done)), H', ⟨by first | omega | exact Nat.le_refl _⟩, ⟨rl_ HO526⟩, ⟨bl_ HB⟩⟩
     ·rw [if_neg c12] at H
      have c12b0 : (a1 == 2) = false := beq_eq_false_iff_ne.mpr c12
      have c12b1 : (a1 != 2) = true := bne_iff_ne.mpr c12
      (first | rw [c12b0] | (simp only [i64_w, i32_w]; rw [c12b0]) | skip)
      have H' := ak_ H
      clear H
      go_wp2
      go_meet
      case rel => exact ⟨_, ((t524 != 0)), (by first | rfl | (simp; done) | (simp [*]; done)), H', ⟨by first | omega | exact Nat.le_refl _⟩, ⟨rl_ HO526⟩, ⟨bl_ HB⟩⟩
    case rest =>
     clear HC10
     try clear c1
     try clear c2
     try clear p2
     try clear c5
     try clear c6
     try clear c6b0
     try clear c6b1
     try clear c12
     try clear c12b0
     try clear c12b1
     obtain ⟨kq, x37_9, rfl, HA, HJ9, HO_8, HB⟩ := hcut
     cases kq with
     | zero => exact absurd HA.out (by simp [medlarref12_Cover.j0])
     | succ kj9 =>
      have H := HA.out
      clear HA
      simp only [medlarref12_Cover.j0] at H
      by_cases c13 : x37_9 = true
      ·subst c13
       have H1 : (some (t523, t524)) = some (r1, r2) := by rw [if_pos rfl] at H; exact H
       clear H
       have H := H1
       clear H1
       simp only [some.injEq, Prod.mk.injEq] at H
       obtain ⟨rfl, rfl⟩ := H
       go_wp2
       go_ret2
       exact ⟨_, by first | rfl | (simp <;> rfl) | (simp [*] <;> rfl), by (with_reducible repeat (first | apply Kd.R_alloc | apply Kd.R_drewN | apply Kd.R_drew)); exact HO_8.out, bl_ HB⟩
      ·replace c13 := Bool.eq_false_iff.mpr c13
       subst c13
       have H1 : (medlarref12_Cover.l0 kj9 a0 ([] : List (S25)) t523 (t523.length : Int) 0) = some (r1, r2) := by rw [if_neg (show ¬ (false = true) by decide)] at H; exact H
       clear H
       have H := H1
       clear H1
       have H' := ak_ H
       clear H
       obtain ⟨Ao14, co14, eo14⟩ := Kd.R_slice HO_8.out
       subst eo14
       go_wp2
       go_loopg [10, 42] kj9 (fun kq v10 v42 w' => ∃ (x10_2 : List (S25)) (x42_2 : Int), v42 = .int .i64 x42_2 ∧ Aside0 (medlarref12_Cover.l0 kq a0 x10_2 t523 (t523.length : Int) x42_2 = some (r1, r2)) ∧ Aside0 (kq ≤ kj9) ∧ Aside0 (Kd.R k25 25 w' w.heap.size (fun k_ => some k_ ≠ ((.slice Ao14 t523.length co14) : Value).ownBlock) v10 x10_2) ∧ Aside0 (Kd.R k25 25 w' w.heap.size (fun k_ => some k_ ≠ (v10 : Value).ownBlock) (.slice Ao14 t523.length co14) t523) ∧ Aside0 (Below w.heap.size w w'))
       case atStart => exact ⟨(([] : List (S25))), (0), (by first | rfl | (simp; done) | (simp [*]; done)), H', ⟨Nat.le_refl _⟩, ⟨by first | exact Kd.R_nil _ _ _ _ _ | exact Kd.N_nil _ _ _ _ _ | exact Kd.V_nil _ _ _ _ _ | exact Kd.Q_nil _ _ _ _ _ | exact Kd.S_nil _ _ _ _ _⟩, ⟨by (with_reducible repeat (first | apply Kd.R_alloc | apply Kd.R_drewN | apply Kd.R_drew)); exact Kd.R_mono HO_8.out (fun _ hk => (by simp [Value.ownBlock]))⟩, ⟨bl_ HB⟩⟩
       case round =>
        clear H'
        try clear c1
        try clear c2
        try clear p2
        try clear c5
        try clear c6
        try clear c6b0
        try clear c6b1
        try clear c12
        try clear c12b0
        try clear c12b1
        try clear c13
        try clear p2
        obtain ⟨x10_2, x42_2, rfl, HA, HK2, HO_10, HO_40, HB⟩ := hrel
        cases gk with
        | zero => exact absurd HA.out (by simp [medlarref12_Cover.l0])
        | succ k2 =>
         have H := HA.out
         clear HA
         simp only [medlarref12_Cover.l0] at H
         by_cases c15 : x42_2 < (t523.length : Int)
         ·rw [if_pos c15] at H
          have c15b0 := decide_eq_true c15
          clear c15
          by_cases c16 : 0 ≤ x42_2
          ·rw [if_pos c16] at H
           have c16b0 := decide_eq_true c16
           clear c16
           by_cases c17 : x42_2 < (t523.length : Int)
           ·rw [if_pos c17] at H
            have c17b0 := decide_eq_true c17
            clear c17
            replace H := bind_eq_some_iff.mp H
            obtain ⟨⟨t529, t532⟩, A180, H⟩ := H
            replace H : (if x10_2.length + t529.length < 8796093022208 then (medlarref12_Cover.l0 k2 a0 (x10_2 ++ t529) t523 (t523.length : Int) (wrap64 (x42_2 + 1))) else (none)) = some (r1, r2) := H
            have A18 := ak_ A180
            clear A180
            by_cases c19 : x10_2.length + t529.length < 8796093022208
            ·rw [if_pos c19] at H
             have LMc19 := ak_ c19
             clear c19
             obtain ⟨y533, hy533⟩ : ∃ y_ : List (S25), y_ = (x10_2 ++ t529) := ⟨_, rfl⟩
             replace H : (medlarref12_Cover.l0 k2 a0 y533 t523 (t523.length : Int) (wrap64 (x42_2 + 1))) = some (r1, r2) := by first | (rw [hy533]; with_reducible exact H) | (have H2_ := (Option.bind_some _ _).symm.trans H; rw [hy533]; with_reducible exact H2_) | (have H2_ := (Option.bind_some _ _).symm.trans H; with_reducible exact H2_) | with_reducible exact H | (rw [hy533]; exact H) | exact H
             have Ny533 := ak_ hy533
             clear hy533
             have H' := ak_ H
             clear H
             have p527 : 0 ≤ (x42_2 : Int) := od_ (by first | (with_reducible assumption) | assumption)
             have q527 : x42_2 < (t523.length : Int) := od_ (by first | (with_reducible assumption) | assumption)
             obtain ⟨ad527, e527, hx527_0, hx527_1⟩ := at_T25 (Kd.R_reads' HO_40.out).2.2 x42_2 p527 q527
             cases e527
             replace p527 := eq_true p527
             replace q527 := eq_true q527
             go_wp2_with (first | ((with_reducible refine gate_dst (N := 12) rfl ?_); refine box_event ?hg (N := 12) ?hd (cs := #[.int .u64 0, .int .u64 0]) (t := 25) ?hr ?_; (case hd => rfl); (case hg => rfl); (case hr => first | (go_simp; done) | (go_simp; rfl)); intro gb528 hg w20 hbox hb; have n0_ := ak_ (Kd.R_below (Kd.R_elderB (rl_ HO_10) gb528 (Nat.le_of_eq hg.symm)) hb); have n1_ := ak_ (Kd.R_below (Kd.R_elderB (rl_ HO_40) gb528 (Nat.le_of_eq hg.symm)) hb); have n2_ := ak_ (bt_ (bl_ HB) hb); have n3_ := ak_ (hbox); have n4_ := ak_ ((gs_ hg HB)); have n5_ := ak_ ((gs_ hg HB)); clear HO_10; clear HO_40; clear HB; have HO_10 := n0_; have HO_40 := n1_; have HB := n2_; have BK528 := n3_; have GW528 := n4_; have GE528 := n5_; clear n0_ n1_ n2_ n3_ n4_ n5_; clear hb hbox hg; have hcz21_0 : w20.cell? ⟨gb528, 0, none⟩ = some (.int .u64 0) := (kc_ BK528.out 0).trans rfl; have hcz21_1 : w20.cell? ⟨gb528, 1, none⟩ = some (.int .u64 0) := (kc_ BK528.out 1).trans rfl; have hfz21_0 := kf_ BK528.out 0; have hfz21_1 := kf_ BK528.out 1) | ((with_reducible refine gate_callee (f := 22) rfl ?_); refine goesL_ (some 49) rfl rfl func22 (by kernel_rfl) rfl #[.int .i64 a0, .agg #[.int .u64 ((rd_T25 t523 x42_2).f0), .int .u64 ((rd_T25 t523 x42_2).f1)]] rfl (by (try simp only [map_toArray, map_cons, map_nil]); first | done | rfl) ?_; (with_reducible refine (medlarref08_Split.calls k2 a0 ((rd_T25 t523 x42_2).f0) ((rd_T25 t523 x42_2).f1) t529 t532 _ A18.out).mono ?_); rintro e w22 ⟨v530, rfl, ho0, hb⟩; refine ⟨_, rfl, ?_⟩; have n0_ := ak_ (Kd.R_elder' (by (with_reducible repeat (first | apply Kd.R_alloc | apply Kd.R_drewN | apply Kd.R_drew)); exact (Kd.R_mono (Kd.R_far (p := ⟨gb528, 1, none⟩) (Kd.R_far (p := ⟨gb528, 0, none⟩) (Kd.R_mono HO_10.out (fun k_ hk => (⟨hk, hk.2⟩ : _ ∧ k_ ≠ gb528))) (fun _ hk => hk.2) (.int .u64 ((rd_T25 t523 x42_2).f0))) (fun _ hk => hk.2) (.int .u64 ((rd_T25 t523 x42_2).f1))) (fun _ h_ => h_.1))) (Kd.R_base ho0) hb); have n1_ := ak_ (Kd.R_elder' (by (with_reducible repeat (first | apply Kd.R_alloc | apply Kd.R_drewN | apply Kd.R_drew)); exact (Kd.R_mono (Kd.R_far (p := ⟨gb528, 1, none⟩) (Kd.R_far (p := ⟨gb528, 0, none⟩) (Kd.R_mono HO_40.out (fun k_ hk => (⟨hk, hk.2⟩ : _ ∧ k_ ≠ gb528))) (fun _ hk => hk.2) (.int .u64 ((rd_T25 t523 x42_2).f0))) (fun _ hk => hk.2) (.int .u64 ((rd_T25 t523 x42_2).f1))) (fun _ h_ => h_.1))) (Kd.R_base ho0) hb); have n2_ := ak_ (Kd.R_lower (Kd.R_newB (Kd.R_new' (Kd.R_new' ho0 (Kd.R_lt (by (with_reducible repeat (first | apply Kd.R_alloc | apply Kd.R_drewN | apply Kd.R_drew)); exact (Kd.R_mono (Kd.R_far (p := ⟨gb528, 1, none⟩) (Kd.R_far (p := ⟨gb528, 0, none⟩) (Kd.R_mono HO_10.out (fun k_ hk => (⟨hk, hk.2⟩ : _ ∧ k_ ≠ gb528))) (fun _ hk => hk.2) (.int .u64 ((rd_T25 t523 x42_2).f0))) (fun _ hk => hk.2) (.int .u64 ((rd_T25 t523 x42_2).f1))) (fun _ h_ => h_.1))))) (Kd.R_lt (by (with_reducible repeat (first | apply Kd.R_alloc | apply Kd.R_drewN | apply Kd.R_drew)); exact (Kd.R_mono (Kd.R_far (p := ⟨gb528, 1, none⟩) (Kd.R_far (p := ⟨gb528, 0, none⟩) (Kd.R_mono HO_40.out (fun k_ hk => (⟨hk, hk.2⟩ : _ ∧ k_ ≠ gb528))) (fun _ hk => hk.2) (.int .u64 ((rd_T25 t523 x42_2).f0))) (fun _ hk => hk.2) (.int .u64 ((rd_T25 t523 x42_2).f1))) (fun _ h_ => h_.1))))) (g := gb528) (o := .cells #[.int .u64 ((rd_T25 t523 x42_2).f0), .int .u64 ((rd_T25 t523 x42_2).f1)] 25 (0, 0)) (by (with_reducible repeat (first | refine kn_ ?_ _ | refine kd_ ?_ | refine ka_ ?_ _)); refine blk_put (cs := #[.int .u64 ((rd_T25 t523 x42_2).f0), .int .u64 0]) ?_ 1 _ rfl; (with_reducible repeat (first | refine kn_ ?_ _ | refine kd_ ?_ | refine ka_ ?_ _)); refine blk_put (cs := #[.int .u64 0, .int .u64 0]) ?_ 0 _ rfl; (with_reducible repeat (first | refine kn_ ?_ _ | refine kd_ ?_ | refine ka_ ?_ _)); exact BK528.out)) (bz_ (by repeat (first | (with_reducible first | exact HB.out | apply ba_ | apply bn_ | apply bd_ | refine below_set ?_ GE528.out) | exact HB.out)))); have n3_ := ak_ (kb_ (g := gb528) (o := .cells #[.int .u64 ((rd_T25 t523 x42_2).f0), .int .u64 ((rd_T25 t523 x42_2).f1)] 25 (0, 0)) (by (with_reducible repeat (first | refine kn_ ?_ _ | refine kd_ ?_ | refine ka_ ?_ _)); refine blk_put (cs := #[.int .u64 ((rd_T25 t523 x42_2).f0), .int .u64 0]) ?_ 1 _ rfl; (with_reducible repeat (first | refine kn_ ?_ _ | refine kd_ ?_ | refine ka_ ?_ _)); refine blk_put (cs := #[.int .u64 0, .int .u64 0]) ?_ 0 _ rfl; (with_reducible repeat (first | refine kn_ ?_ _ | refine kd_ ?_ | refine ka_ ?_ _)); exact BK528.out) hb); have n4_ := ak_ (bt_ (by repeat (first | (with_reducible first | exact HB.out | apply ba_ | apply bn_ | apply bd_ | refine below_set ?_ GE528.out) | exact HB.out)) hb); clear HO_10; clear HO_40; clear BK528; clear HB; have HO_10 := n0_; have HO_40 := n1_; have HO531 := n2_; have BK528 := n3_; have HB := n4_; clear n0_ n1_ n2_ n3_ n4_; (try clear hb); (try clear hk); (try clear ho0); obtain ⟨Ao24, co24, eo24⟩ := Kd.R_slice HO531.out; subst eo24) | ((with_reducible refine gate_builtin (b := .append) (xs := #[.tmp 52, .tmp 53]) rfl ?_); at_builtin; refine Kd.R_append_rows k25 (w0 := w) w.heap.size rfl (.tmp 52) (.tmp 53) 27 25 (.agg #[(.int .u64 0), (.int .u64 0)]) 16 rfl underlying27 info25 rfl (by decide) (by omega) u10 x10_2 t529 _ _ _ (fun k_ => some k_ ≠ (.slice (some ad527) t523.length co14 : Value).ownBlock ∧ some k_ ≠ (.slice Ao24 t529.length co24 : Value).ownBlock ∧ k_ ≠ gb528) (fun _ => False) rfl rfl ?aO ?aR (fun _ _ h => h) (fun _ h => h.elim) ?aF ?aB ?aS ?aL ?_; (case aR => repeat (first | exact (Kd.R_reads' HO531.out).2.2 | (with_reducible refine Kd.C_alloc ?_ _) | (with_reducible refine Kd.C_drewN ?_ _) | (with_reducible refine Kd.C_drew ?_))); (case aB => exact (by repeat (first | (with_reducible first | exact HB.out | apply ba_ | apply bn_ | apply bd_ | refine below_set ?_ GE528.out) | exact HB.out))); (case aF => exact (fun k_ hk => ⟨Kd.fresh' (Kd.R_lt (rl_ HO_40)) k_ hk, Kd.fresh' (Kd.R_lt (rl_ HO531)) k_ hk, Kd.freshB (g := gb528) (o := .cells #[.int .u64 ((rd_T25 t523 x42_2).f0), .int .u64 ((rd_T25 t523 x42_2).f1)] 25 (0, 0)) (kl_ BK528) k_ hk⟩)); (case aO => exact (by (with_reducible repeat (first | apply Kd.R_alloc | apply Kd.R_drewN | apply Kd.R_drew)); exact Kd.R_mono HO_10.out (fun _ hk => ⟨hk.1.1, ⟨hk.2, hk.1.2⟩⟩))); (case aS => exact (bz_ (by repeat (first | (with_reducible first | exact HB.out | apply ba_ | apply bn_ | apply bd_ | refine below_set ?_ GE528.out) | exact HB.out)))); (case aL => have := LMc19.out; omega); intro v534 w23 ho hb hg hat; rw [← Ny533.out] at ho; have n0_ := ak_ (Kd.R_after (ok := (fun k_ => some k_ ≠ (.slice Ao24 t529.length co24 : Value).ownBlock ∧ k_ ≠ gb528)) (by (with_reducible repeat (first | apply Kd.R_alloc | apply Kd.R_drewN | apply Kd.R_drew)); exact Kd.R_mono HO_40.out (fun _ hk => ⟨⟨hk.2, hk.1.2⟩, hk.1.1⟩)) hg hat); have n1_ := ak_ (blk_grown (g := gb528) (o := .cells #[.int .u64 ((rd_T25 t523 x42_2).f0), .int .u64 ((rd_T25 t523 x42_2).f1)] 25 (0, 0)) (kl_ BK528) hg (Kd.R_away HO_10.out (fun _ hk => hk.1.2))); have n2_ := ak_ (Kd.R_after (ok := (fun k_ => some k_ ≠ (.slice (some ad527) t523.length co14 : Value).ownBlock ∧ k_ ≠ gb528)) (by (with_reducible repeat (first | apply Kd.R_alloc | apply Kd.R_drewN | apply Kd.R_drew)); exact Kd.R_mono HO531.out (fun _ hk => ⟨⟨hk.1.2, hk.2⟩, hk.1.1.2⟩)) hg hat); have n3_ := ak_ (hb); have n4_ := ak_ (ho); clear HO_40; clear BK528; clear HO531; clear HB; clear HO_10; have HO_40 := n0_; have BK528 := n1_; have HO531 := n2_; have HB := n3_; have HO535 := n4_; clear n0_ n1_ n2_ n3_ n4_; clear ho hb hg hat))
             go_roundg k2
             case measure => have := HJ9.out; have := HK2.out; omega
             case rel => exact ⟨(y533), (wrap64 (x42_2 + 1)), (by first | rfl | (simp; done) | (simp [*]; done)), H', ⟨by have := HJ9.out; have := HK2.out; omega⟩, ⟨by (with_reducible repeat (first | apply Kd.R_alloc | apply Kd.R_drewN | apply Kd.R_drew)); exact Kd.R_mono HO535.out (fun _ hk => hk.1)⟩, ⟨by (with_reducible repeat (first | apply Kd.R_alloc | apply Kd.R_drewN | apply Kd.R_drew)); exact Kd.R_mono HO_40.out (fun _ hk => hk.2)⟩, ⟨by repeat (first | (with_reducible first | exact HB.out | apply ba_ | apply bn_ | apply bd_ | refine below_set ?_ GE528.out) | exact HB.out)⟩⟩
            ·rw [if_neg c19] at H
             exact absurd H (by simp)
           ·rw [if_neg c17] at H
            exact absurd H (by simp)
          ·rw [if_neg c16] at H
           exact absurd H (by simp)
         ·rw [if_neg c15] at H
          have c15b0 := decide_eq_false c15
          clear c15
          replace H := bind_eq_some_iff.mp H
          obtain ⟨t536, A250, H⟩ := H
          replace H : (some (t536, 0)) = some (r1, r2) := H
          have A25 := ak_ A250
          clear A250
          simp only [some.injEq, Prod.mk.injEq] at H
          obtain ⟨rfl, rfl⟩ := H
          obtain ⟨Ao26, co26, eo26⟩ := Kd.R_slice HO_10.out
          subst eo26
          go_wp2_with (first | ((with_reducible refine gate_callee (f := 23) rfl ?_); refine goesL_ (some 57) rfl rfl func23 (by kernel_rfl) rfl #[.slice Ao26 x10_2.length co26] rfl (by (try simp only [map_toArray, map_cons, map_nil]); first | done | rfl) ?_; (with_reducible refine (medlarref11_Order.calls k2 _ _ x10_2 t536 _ ?side1 ?side2 A25.out).mono ?_); (case side1 => repeat (first | exact (Kd.R_reads' HO_10.out).2.2 | (with_reducible refine Kd.C_alloc ?_ _) | (with_reducible refine Kd.C_drewN ?_ _) | (with_reducible refine Kd.C_drew ?_))); (case side2 => exact (Kd.R_reads' HO_10.out).2.1); rintro e w27 ⟨v537, rfl, ho0, hb⟩; refine ⟨_, rfl, ?_⟩; have n0_ := ak_ (Kd.R_elder' (rl_ HO_10) (Kd.R_base ho0) hb); have n1_ := ak_ (Kd.R_elder' (rl_ HO_40) (Kd.R_base ho0) hb); have n2_ := ak_ (Kd.R_lower (Kd.R_new' (Kd.R_new' ho0 (Kd.R_lt (rl_ HO_10))) (Kd.R_lt (rl_ HO_40))) (bz_ (bl_ HB))); have n3_ := ak_ (bt_ (bl_ HB) hb); clear HO_10; clear HO_40; clear HB; have HO_10 := n0_; have HO_40 := n1_; have HO538 := n2_; have HB := n3_; clear n0_ n1_ n2_ n3_; (try clear hb); (try clear hk); (try clear ho0)))
          go_ret2
          exact ⟨_, by first | rfl | (simp <;> rfl) | (simp [*] <;> rfl), by (with_reducible repeat (first | apply Kd.R_alloc | apply Kd.R_drewN | apply Kd.R_drew)); exact Kd.R_mono HO538.out (fun _ hk => trivial), bl_ HB⟩
  ·replace c5 := Bool.eq_false_iff.mpr c5
   subst c5
   have H1 : (some (([] : List (S25)), 1)) = some (r1, r2) := by rw [if_neg (show ¬ (false = true) by decide)] at H; exact H
   clear H
   have H := H1
   clear H1
   simp only [some.injEq, Prod.mk.injEq] at H
   obtain ⟨rfl, rfl⟩ := H
   go_enter func6, ntmps6
   go_wp2_with (first | ((with_reducible refine gate_callee (f := 19) rfl ?_); refine goesL_ (some 17) rfl rfl func19 (by kernel_rfl) rfl #[.int .i64 a0, .int .i64 a1] rfl (by (try simp only [map_toArray, map_cons, map_nil]); first | done | rfl) ?_; (with_reducible refine (medlarref12_scheme.calls k a0 a1 false _ A4.out).mono ?_); rintro e w' ⟨rfl, ⟨nd, rfl⟩⟩; refine ⟨_, rfl, ?_⟩))
   go_ret2
   exact ⟨_, by first | rfl | (simp <;> rfl) | (simp [*] <;> rfl), by first | exact Kd.R_nil _ _ _ _ _ | exact Kd.N_nil _ _ _ _ _ | exact Kd.V_nil _ _ _ _ _ | exact Kd.Q_nil _ _ _ _ _ | exact Kd.S_nil _ _ _ _ _, bl_ HB⟩
def whole_Bound.j0 : Nat → Int → Int → Bool → Option (Int × Int)
  | 0, _, _, _ => none
  | k + 1, x0, x1, x13 => if x13 = true then (some (0, 1)) else (if x1 = 0 then (some (1, 0)) else ((bits_Len.f k (IntKind.u64.wrap (x1))).bind fun t543 => (some (IntKind.u64.wrap (wrap64 (x1 * (wrap64 ((wrap64 (x0 + 1)) - t543)))), 0))))
def whole_Bound.f (k : Nat) (a0 : Int) (a1 : Int) : Option (Int × Int) := (node_Leaves.f k a0 1).bind fun bt539 => (if bt539.2.2 = 0 then (if a1 < 0 then (whole_Bound.j0 k a0 a1 true) else (if a1 > 1024 then (whole_Bound.j0 k a0 a1 true) else (whole_Bound.j0 k a0 a1 (decide ((IntKind.u64.wrap (a1)) > (IntKind.u64.wrap (bt539.2.1 + 1))))))) else (whole_Bound.j0 k a0 a1 true))
set_option maxHeartbeats 8000000 in
set_option maxRecDepth 100000 in
theorem whole_Bound.calls (k : Nat) (a0 : Int) (a1 : Int) (r1 : Int) (r2 : Int) (w : World) (h : whole_Bound.f k a0 a1 = some (r1, r2)) :
   Calls Tryz.prog 24 #[.int .i64 a0, .int .i64 a1] w fun e w' => e = .returned (.tuple #[.int .u64 r1, .int .i64 r2]) ∧ Below w.heap.size w w' := by
  have hu76 := underlying76
  have HB := ak_ (Below.refl w.heap.size w)
  have H : ((node_Leaves.f k a0 1).bind fun bt539 => (if bt539.2.2 = 0 then (if a1 < 0 then (whole_Bound.j0 k a0 a1 true) else (if a1 > 1024 then (whole_Bound.j0 k a0 a1 true) else (whole_Bound.j0 k a0 a1 (decide ((IntKind.u64.wrap (a1)) > (IntKind.u64.wrap (bt539.2.1 + 1))))))) else (whole_Bound.j0 k a0 a1 true))) = some (r1, r2) := h
  clear h
  replace H := bind_eq_some_iff.mp H
  obtain ⟨⟨t539, t540, t541⟩, A30, H⟩ := H
  replace H : (if t541 = 0 then (if a1 < 0 then (whole_Bound.j0 k a0 a1 true) else (if a1 > 1024 then (whole_Bound.j0 k a0 a1 true) else (whole_Bound.j0 k a0 a1 (decide ((IntKind.u64.wrap (a1)) > (IntKind.u64.wrap (t540 + 1))))))) else (whole_Bound.j0 k a0 a1 true)) = some (r1, r2) := H
  have A3 := ak_ A30
  clear A30
  have HC4 := ak_ H
  clear H
  go_enter func24, ntmps24
  go_upto_region 2 with (first | ((with_reducible refine gate_callee (f := 58) rfl ?_); refine goesL_ (some 10) rfl rfl func58 (by kernel_rfl) rfl #[.int .i64 a0, .int .u64 1] rfl (by (try simp only [map_toArray, map_cons, map_nil]); first | done | rfl) ?_; (with_reducible refine (node_Leaves.calls k a0 1 t539 t540 t541 _ A3.out).mono ?_); rintro e w5 ⟨rfl, hb⟩; refine ⟨_, rfl, ?_⟩; have n0_ := ak_ (bt_ (bl_ HB) hb); clear HB; have HB := n0_; clear n0_; (try clear hb); (try clear hk)) | ((with_reducible refine gate_dst (N := 6) rfl ?_); refine box_event ?hg (N := 6) ?hd (cs := #[.int .u64 0, .int .u64 0]) (t := 76) ?hr ?_; (case hd => rfl); (case hg => rfl); (case hr => first | (go_simp; done) | (go_simp; rfl)); intro gb542 hg w6 hbox hb; have n0_ := ak_ (bt_ (bl_ HB) hb); have n1_ := ak_ (hbox); have n2_ := ak_ ((gs_ hg HB)); have n3_ := ak_ ((gs_ hg HB)); clear HB; have HB := n0_; have BK542 := n1_; have GW542 := n2_; have GE542 := n3_; clear n0_ n1_ n2_ n3_; clear hb hbox hg; have hcz7_0 : w6.cell? ⟨gb542, 0, none⟩ = some (.int .u64 0) := (kc_ BK542.out 0).trans rfl; have hcz7_1 : w6.cell? ⟨gb542, 1, none⟩ = some (.int .u64 0) := (kc_ BK542.out 1).trans rfl; have hfz7_0 := kf_ BK542.out 0; have hfz7_1 := kf_ BK542.out 1))
  (try simp only [Act.put, setIfInBounds_toArray, set_cons_zero, set_cons_succ])
  go_cut [13] (fun v13 wc => ∃ (kq : Nat) (x13_3 : Bool), v13 = .bool x13_3 ∧ Aside0 (whole_Bound.j0 kq a0 a1 x13_3 = some (r1, r2)) ∧ Aside0 (kq ≤ k) ∧ Aside0 (wc.heap[gb542]? = some (.cells #[.int .u64 t539, .int .u64 t540] 76 (0, 0))) ∧ Aside0 (Below w.heap.size w wc))
  case first =>
   have H := HC4.out
   clear HC4
   by_cases c8 : t541 = 0
   ·rw [if_pos c8] at H
    have c8b0 : (t541 == 0) = true := beq_iff_eq.mpr c8
    have c8b1 : (t541 != 0) = false := bne_eq_false_iff_eq.mpr c8
    clear c8
    (first | rw [c8b0] | (simp only [i64_w, i32_w]; rw [c8b0]) | skip)
    by_cases c9 : a1 < 0
    ·rw [if_pos c9] at H
     have c9b0 := decide_eq_true c9
     clear c9
     have H' := ak_ H
     clear H
     go_wp2
     go_meet
     case rel => exact ⟨_, (true), (by first | rfl | (simp; done) | (simp [*]; done)), H', ⟨by first | omega | exact Nat.le_refl _⟩, ⟨by (with_reducible repeat (first | refine kn_ ?_ _ | refine kd_ ?_ | refine ka_ ?_ _)); refine blk_put (cs := #[.int .u64 t539, .int .u64 0]) ?_ 1 _ rfl; (with_reducible repeat (first | refine kn_ ?_ _ | refine kd_ ?_ | refine ka_ ?_ _)); refine blk_put (cs := #[.int .u64 0, .int .u64 0]) ?_ 0 _ rfl; (with_reducible repeat (first | refine kn_ ?_ _ | refine kd_ ?_ | refine ka_ ?_ _)); exact BK542.out⟩, ⟨by repeat (first | (with_reducible first | exact HB.out | apply ba_ | apply bn_ | apply bd_ | refine below_set ?_ GE542.out) | exact HB.out)⟩⟩
    ·rw [if_neg c9] at H
     have c9b0 := decide_eq_false c9
     clear c9
     by_cases c10 : a1 > 1024
     ·rw [if_pos c10] at H
      have c10b0 : decide (1024 < a1) = true := decide_eq_true c10
      clear c10
      have H' := ak_ H
      clear H
      go_wp2
      go_meet
      case rel => exact ⟨_, (true), (by first | rfl | (simp; done) | (simp [*]; done)), H', ⟨by first | omega | exact Nat.le_refl _⟩, ⟨by (with_reducible repeat (first | refine kn_ ?_ _ | refine kd_ ?_ | refine ka_ ?_ _)); refine blk_put (cs := #[.int .u64 t539, .int .u64 0]) ?_ 1 _ rfl; (with_reducible repeat (first | refine kn_ ?_ _ | refine kd_ ?_ | refine ka_ ?_ _)); refine blk_put (cs := #[.int .u64 0, .int .u64 0]) ?_ 0 _ rfl; (with_reducible repeat (first | refine kn_ ?_ _ | refine kd_ ?_ | refine ka_ ?_ _)); exact BK542.out⟩, ⟨by repeat (first | (with_reducible first | exact HB.out | apply ba_ | apply bn_ | apply bd_ | refine below_set ?_ GE542.out) | exact HB.out)⟩⟩
     ·rw [if_neg c10] at H
      have c10b0 : decide (1024 < a1) = false := decide_eq_false c10
      clear c10
      have H' := ak_ H
      clear H
      have hcz11_0 : w6.cell? ⟨gb542, 0, none⟩ = some (.int .u64 0) := (kc_ BK542.out 0).trans rfl
      have hcz11_1 : w6.cell? ⟨gb542, 1, none⟩ = some (.int .u64 0) := (kc_ BK542.out 1).trans rfl
      have hfz11_0 := kf_ BK542.out 0
      have hfz11_1 := kf_ BK542.out 1
      go_wp2
      go_meet
      case rel => exact ⟨_, (decide ((IntKind.u64.wrap (a1)) > (IntKind.u64.wrap (t540 + 1)))), (by first | rfl | (simp; done) | (simp [*]; done)), H', ⟨by first | omega | exact Nat.le_refl _⟩, ⟨by (with_reducible repeat (first | refine kn_ ?_ _ | refine kd_ ?_ | refine ka_ ?_ _)); refine blk_put (cs := #[.int .u64 t539, .int .u64 0]) ?_ 1 _ rfl; (with_reducible repeat (first | refine kn_ ?_ _ | refine kd_ ?_ | refine ka_ ?_ _)); refine blk_put (cs := #[.int .u64 0, .int .u64 0]) ?_ 0 _ rfl; (with_reducible repeat (first | refine kn_ ?_ _ | refine kd_ ?_ | refine ka_ ?_ _)); exact BK542.out⟩, ⟨by repeat (first | (with_reducible first | exact HB.out | apply ba_ | apply bn_ | apply bd_ | refine below_set ?_ GE542.out) | exact HB.out)⟩⟩
   ·rw [if_neg c8] at H
    have c8b0 : (t541 == 0) = false := beq_eq_false_iff_ne.mpr c8
    have c8b1 : (t541 != 0) = true := bne_iff_ne.mpr c8
    (first | rw [c8b0] | (simp only [i64_w, i32_w]; rw [c8b0]) | skip)
    have H' := ak_ H
    clear H
    go_wp2
    go_meet
    case rel => exact ⟨_, (true), (by first | rfl | (simp; done) | (simp [*]; done)), H', ⟨by first | omega | exact Nat.le_refl _⟩, ⟨by (with_reducible repeat (first | refine kn_ ?_ _ | refine kd_ ?_ | refine ka_ ?_ _)); refine blk_put (cs := #[.int .u64 t539, .int .u64 0]) ?_ 1 _ rfl; (with_reducible repeat (first | refine kn_ ?_ _ | refine kd_ ?_ | refine ka_ ?_ _)); refine blk_put (cs := #[.int .u64 0, .int .u64 0]) ?_ 0 _ rfl; (with_reducible repeat (first | refine kn_ ?_ _ | refine kd_ ?_ | refine ka_ ?_ _)); exact BK542.out⟩, ⟨by repeat (first | (with_reducible first | exact HB.out | apply ba_ | apply bn_ | apply bd_ | refine below_set ?_ GE542.out) | exact HB.out)⟩⟩
  case rest =>
   clear HC4
   try clear c1
   try clear c2
   try clear p2
   try clear c5
   try clear c8
   try clear c8b0
   try clear c8b1
   try clear c9
   try clear c9b0
   try clear c10
   try clear c10b0
   try clear hcz11_0
   try clear hcz11_1
   try clear hcz7_0
   try clear hcz7_1
   try clear hfz11_0
   try clear hfz11_1
   try clear hfz7_0
   try clear hfz7_1
   obtain ⟨kq, x13_3, rfl, HA, HJ3, BK542, HB⟩ := hcut
   cases kq with
   | zero => exact absurd HA.out (by simp [whole_Bound.j0])
   | succ kj3 =>
    have H := HA.out
    clear HA
    simp only [whole_Bound.j0] at H
    by_cases c12 : x13_3 = true
    ·subst c12
     have H1 : (some (0, 1)) = some (r1, r2) := by rw [if_pos rfl] at H; exact H
     clear H
     have H := H1
     clear H1
     simp only [some.injEq, Prod.mk.injEq] at H
     obtain ⟨rfl, rfl⟩ := H
     go_wp2
     go_ret2
     exact ⟨by first | rfl | (simp <;> rfl) | (simp [*] <;> rfl), by repeat (first | (with_reducible first | exact HB.out | apply ba_ | apply bn_ | apply bd_ | refine below_set ?_ GE542.out) | exact HB.out)⟩
    ·replace c12 := Bool.eq_false_iff.mpr c12
     subst c12
     have H1 : (if a1 = 0 then (some (1, 0)) else ((bits_Len.f kj3 (IntKind.u64.wrap (a1))).bind fun t543 => (some (IntKind.u64.wrap (wrap64 (a1 * (wrap64 ((wrap64 (a0 + 1)) - t543)))), 0)))) = some (r1, r2) := by rw [if_neg (show ¬ (false = true) by decide)] at H; exact H
     clear H
     have H := H1
     clear H1
     by_cases c13 : a1 = 0
     ·rw [if_pos c13] at H
      have c13b0 : (a1 == 0) = true := beq_iff_eq.mpr c13
      have c13b1 : (a1 != 0) = false := bne_eq_false_iff_eq.mpr c13
      clear c13
      simp only [some.injEq, Prod.mk.injEq] at H
      obtain ⟨rfl, rfl⟩ := H
      go_wp2
      go_ret2
      exact ⟨by first | rfl | (simp <;> rfl) | (simp [*] <;> rfl), by repeat (first | (with_reducible first | exact HB.out | apply ba_ | apply bn_ | apply bd_ | refine below_set ?_ GE542.out) | exact HB.out)⟩
     ·rw [if_neg c13] at H
      have c13b0 : (a1 == 0) = false := beq_eq_false_iff_ne.mpr c13
      have c13b1 : (a1 != 0) = true := bne_iff_ne.mpr c13
      replace H := bind_eq_some_iff.mp H
      obtain ⟨t543, A140, H⟩ := H
      replace H : (some (IntKind.u64.wrap (wrap64 (a1 * (wrap64 ((wrap64 (a0 + 1)) - t543)))), 0)) = some (r1, r2) := H
      have A14 := ak_ A140
      clear A140
      simp only [some.injEq, Prod.mk.injEq] at H
      obtain ⟨rfl, rfl⟩ := H
      go_wp2_with (first | ((with_reducible refine gate_callee (f := 59) rfl ?_); refine goesL_ (some 40) rfl rfl func59 (by kernel_rfl) rfl #[.int .u64 (IntKind.u64.wrap (a1))] rfl (by (try simp only [map_toArray, map_cons, map_nil]); first | done | rfl) ?_; (with_reducible refine (bits_Len.calls kj3 (IntKind.u64.wrap (a1)) t543 _ A14.out).mono ?_); rintro e w' ⟨rfl, ⟨nd, rfl⟩⟩; refine ⟨_, rfl, ?_⟩))
      go_ret2
      exact ⟨by first | rfl | (simp <;> rfl) | (simp [*] <;> rfl), by repeat (first | (with_reducible first | exact HB.out | apply ba_ | apply bn_ | apply bd_ | refine below_set ?_ GE542.out) | exact HB.out)⟩
def diff_Bound.f (k : Nat) (a0 : Int) (a1 : Int) : Option (Int × Int) := (whole_Bound.f k a0 a1).bind fun bt544 => (if bt544.2 = 0 then (if a1 > 0 then (some (IntKind.u64.wrap ((IntKind.u64.wrap ((IntKind.u64.wrap (a1)) * 2)) - 1), bt544.2)) else (some (bt544.1, bt544.2))) else (some (bt544.1, bt544.2)))
set_option maxHeartbeats 8000000 in
set_option maxRecDepth 100000 in
theorem diff_Bound.calls (k : Nat) (a0 : Int) (a1 : Int) (r1 : Int) (r2 : Int) (w : World) (h : diff_Bound.f k a0 a1 = some (r1, r2)) :
   Calls Tryz.prog 25 #[.int .i64 a0, .int .i64 a1] w fun e w' => e = .returned (.tuple #[.int .u64 r1, .int .i64 r2]) ∧ Below w.heap.size w w' := by
  have HB := ak_ (Below.refl w.heap.size w)
  have H : ((whole_Bound.f k a0 a1).bind fun bt544 => (if bt544.2 = 0 then (if a1 > 0 then (some (IntKind.u64.wrap ((IntKind.u64.wrap ((IntKind.u64.wrap (a1)) * 2)) - 1), bt544.2)) else (some (bt544.1, bt544.2))) else (some (bt544.1, bt544.2)))) = some (r1, r2) := h
  clear h
  replace H := bind_eq_some_iff.mp H
  obtain ⟨⟨t544, t545⟩, A30, H⟩ := H
  replace H : (if t545 = 0 then (if a1 > 0 then (some (IntKind.u64.wrap ((IntKind.u64.wrap ((IntKind.u64.wrap (a1)) * 2)) - 1), t545)) else (some (t544, t545))) else (some (t544, t545))) = some (r1, r2) := H
  have A3 := ak_ A30
  clear A30
  by_cases c4 : t545 = 0
  ·rw [if_pos c4] at H
   have c4b0 : (t545 == 0) = true := beq_iff_eq.mpr c4
   have c4b1 : (t545 != 0) = false := bne_eq_false_iff_eq.mpr c4
   clear c4
   by_cases c5 : a1 > 0
   ·rw [if_pos c5] at H
    have c5b0 : decide (0 < a1) = true := decide_eq_true c5
    clear c5
    simp only [some.injEq, Prod.mk.injEq] at H
    obtain ⟨rfl, rfl⟩ := H
    go_enter func25, ntmps25
    go_wp2_with (first | ((with_reducible refine gate_callee (f := 24) rfl ?_); refine goesL_ (some 11) rfl rfl func24 (by kernel_rfl) rfl #[.int .i64 a0, .int .i64 a1] rfl (by (try simp only [map_toArray, map_cons, map_nil]); first | done | rfl) ?_; (with_reducible refine (whole_Bound.calls k a0 a1 t544 t545 _ A3.out).mono ?_); rintro e w6 ⟨rfl, hb⟩; refine ⟨_, rfl, ?_⟩; have n0_ := ak_ (bt_ (bl_ HB) hb); clear HB; have HB := n0_; clear n0_; (try clear hb); (try clear hk)))
    go_ret2
    exact ⟨by first | rfl | (simp <;> rfl) | (simp [*] <;> rfl), bl_ HB⟩
   ·rw [if_neg c5] at H
    have c5b0 : decide (0 < a1) = false := decide_eq_false c5
    clear c5
    simp only [some.injEq, Prod.mk.injEq] at H
    obtain ⟨rfl, rfl⟩ := H
    go_enter func25, ntmps25
    go_wp2_with (first | ((with_reducible refine gate_callee (f := 24) rfl ?_); refine goesL_ (some 11) rfl rfl func24 (by kernel_rfl) rfl #[.int .i64 a0, .int .i64 a1] rfl (by (try simp only [map_toArray, map_cons, map_nil]); first | done | rfl) ?_; (with_reducible refine (whole_Bound.calls k a0 a1 t544 t545 _ A3.out).mono ?_); rintro e w7 ⟨rfl, hb⟩; refine ⟨_, rfl, ?_⟩; have n0_ := ak_ (bt_ (bl_ HB) hb); clear HB; have HB := n0_; clear n0_; (try clear hb); (try clear hk)))
    go_ret2
    exact ⟨by first | rfl | (simp <;> rfl) | (simp [*] <;> rfl), bl_ HB⟩
  ·rw [if_neg c4] at H
   have c4b0 : (t545 == 0) = false := beq_eq_false_iff_ne.mpr c4
   have c4b1 : (t545 != 0) = true := bne_iff_ne.mpr c4
   simp only [some.injEq, Prod.mk.injEq] at H
   obtain ⟨rfl, rfl⟩ := H
   go_enter func25, ntmps25
   go_wp2_with (first | ((with_reducible refine gate_callee (f := 24) rfl ?_); refine goesL_ (some 11) rfl rfl func24 (by kernel_rfl) rfl #[.int .i64 a0, .int .i64 a1] rfl (by (try simp only [map_toArray, map_cons, map_nil]); first | done | rfl) ?_; (with_reducible refine (whole_Bound.calls k a0 a1 t544 t545 _ A3.out).mono ?_); rintro e w8 ⟨rfl, hb⟩; refine ⟨_, rfl, ?_⟩; have n0_ := ak_ (bt_ (bl_ HB) hb); clear HB; have HB := n0_; clear n0_; (try clear hb); (try clear hk)))
   go_ret2
   exact ⟨by first | rfl | (simp <;> rfl) | (simp [*] <;> rfl), bl_ HB⟩
def layer_Bound.f (k : Nat) (a0 : Int) (a1 : Int) (a2 : Int) : Option (Int × Int) := (layer_check.f k a0 a1).bind fun t546 => (if t546 = 0 then (if a1 = 1 then ((whole_Bound.f k a0 a2).bind fun bt547 => (some (bt547.1, bt547.2))) else (if a1 = 3 then ((diff_Bound.f k a0 a2).bind fun bt549 => (some (IntKind.u64.wrap (bt549.1 * 2 ^ (mx (mn a2 1) 0).toNat), bt549.2))) else ((diff_Bound.f k a0 a2).bind fun bt551 => (some (IntKind.u64.wrap (bt551.1 * 2 ^ (mx 0 0).toNat), bt551.2))))) else (some (0, t546)))
set_option maxHeartbeats 8000000 in
set_option maxRecDepth 100000 in
theorem layer_Bound.calls (k : Nat) (a0 : Int) (a1 : Int) (a2 : Int) (r1 : Int) (r2 : Int) (w : World) (h : layer_Bound.f k a0 a1 a2 = some (r1, r2)) :
   Calls Tryz.prog 7 #[.int .i64 a0, .int .i64 a1, .int .i64 a2] w fun e w' => e = .returned (.tuple #[.int .u64 r1, .int .i64 r2]) ∧ Below w.heap.size w w' := by
  have HB := ak_ (Below.refl w.heap.size w)
  have H : ((layer_check.f k a0 a1).bind fun t546 => (if t546 = 0 then (if a1 = 1 then ((whole_Bound.f k a0 a2).bind fun bt547 => (some (bt547.1, bt547.2))) else (if a1 = 3 then ((diff_Bound.f k a0 a2).bind fun bt549 => (some (IntKind.u64.wrap (bt549.1 * 2 ^ (mx (mn a2 1) 0).toNat), bt549.2))) else ((diff_Bound.f k a0 a2).bind fun bt551 => (some (IntKind.u64.wrap (bt551.1 * 2 ^ (mx 0 0).toNat), bt551.2))))) else (some (0, t546)))) = some (r1, r2) := h
  clear h
  replace H := bind_eq_some_iff.mp H
  obtain ⟨t546, A40, H⟩ := H
  replace H : (if t546 = 0 then (if a1 = 1 then ((whole_Bound.f k a0 a2).bind fun bt547 => (some (bt547.1, bt547.2))) else (if a1 = 3 then ((diff_Bound.f k a0 a2).bind fun bt549 => (some (IntKind.u64.wrap (bt549.1 * 2 ^ (mx (mn a2 1) 0).toNat), bt549.2))) else ((diff_Bound.f k a0 a2).bind fun bt551 => (some (IntKind.u64.wrap (bt551.1 * 2 ^ (mx 0 0).toNat), bt551.2))))) else (some (0, t546))) = some (r1, r2) := H
  have A4 := ak_ A40
  clear A40
  by_cases c5 : t546 = 0
  ·rw [if_pos c5] at H
   have c5b0 : (t546 == 0) = true := beq_iff_eq.mpr c5
   have c5b1 : (t546 != 0) = false := bne_eq_false_iff_eq.mpr c5
   clear c5
   by_cases c6 : a1 = 1
   ·rw [if_pos c6] at H
    have c6b0 : (a1 == 1) = true := beq_iff_eq.mpr c6
    have c6b1 : (a1 != 1) = false := bne_eq_false_iff_eq.mpr c6
    clear c6
    replace H := bind_eq_some_iff.mp H
    obtain ⟨⟨t547, t548⟩, A70, H⟩ := H
    replace H : (some (t547, t548)) = some (r1, r2) := H
    have A7 := ak_ A70
    clear A70
    simp only [some.injEq, Prod.mk.injEq] at H
    obtain ⟨rfl, rfl⟩ := H
    go_enter func7, ntmps7
    go_wp2_with (first | ((with_reducible refine gate_callee (f := 14) rfl ?_); refine goesL_ (some 11) rfl rfl func14 (by kernel_rfl) rfl #[.int .i64 a0, .int .i64 a1] rfl (by (try simp only [map_toArray, map_cons, map_nil]); first | done | rfl) ?_; (with_reducible refine (layer_check.calls k a0 a1 t546 _ A4.out).mono ?_); rintro e w' ⟨rfl, ⟨nd, rfl⟩⟩; refine ⟨_, rfl, ?_⟩) | ((with_reducible refine gate_callee (f := 24) rfl ?_); refine goesL_ (some 22) rfl rfl func24 (by kernel_rfl) rfl #[.int .i64 a0, .int .i64 a2] rfl (by (try simp only [map_toArray, map_cons, map_nil]); first | done | rfl) ?_; (with_reducible refine (whole_Bound.calls k a0 a2 t547 t548 _ A7.out).mono ?_); rintro e w8 ⟨rfl, hb⟩; refine ⟨_, rfl, ?_⟩; have n0_ := ak_ (bt_ (bl_ HB) hb); clear HB; have HB := n0_; clear n0_; (try clear hb); (try clear hk)))
    go_ret2
    exact ⟨by first | rfl | (simp <;> rfl) | (simp [*] <;> rfl), bl_ HB⟩
   ·rw [if_neg c6] at H
    have c6b0 : (a1 == 1) = false := beq_eq_false_iff_ne.mpr c6
    have c6b1 : (a1 != 1) = true := bne_iff_ne.mpr c6
    by_cases c9 : a1 = 3
    ·rw [if_pos c9] at H
     have c9b0 : (a1 == 3) = true := beq_iff_eq.mpr c9
     have c9b1 : (a1 != 3) = false := bne_eq_false_iff_eq.mpr c9
     clear c9
     obtain ⟨ji10, hji10⟩ : ∃ j_ : Int, (mn a2 1) = j_ := ⟨_, rfl⟩
     replace H : ((diff_Bound.f k a0 a2).bind fun bt549 => (some (IntKind.u64.wrap (bt549.1 * 2 ^ (mx (ji10) 0).toNat), bt549.2))) = some (r1, r2) := by first | (rw [hji10] at H; exact H) | (simp only [hji10] at H ⊢; exact H)
     (try rw [hji10] at A4)
     (try (have hji10h : ji10 ≤ 1 := by (rw [← hji10]; unfold mn; (repeat' split) <;> omega)))
     (try (have hji10g : ji10 ≤ 64 := by omega))
     have hji10_ : (if 1 < a2 then 1 else a2) = ji10 := hji10
     replace H := bind_eq_some_iff.mp H
     obtain ⟨⟨t549, t550⟩, A110, H⟩ := H
     replace H : (some (IntKind.u64.wrap (t549 * 2 ^ (mx (ji10) 0).toNat), t550)) = some (r1, r2) := H
     have A11 := ak_ A110
     clear A110
     obtain ⟨ji12, hji12⟩ : ∃ j_ : Int, (mx (ji10) 0) = j_ := ⟨_, rfl⟩
     replace H : (some (IntKind.u64.wrap (t549 * 2 ^ (ji12).toNat), t550)) = some (r1, r2) := by first | (rw [hji12] at H; exact H) | (simp only [hji12] at H ⊢; exact H)
     (try rw [hji12] at A4)
     (try rw [hji12] at A11)
     have hji12_ : (if (ji10) < 0 then 0 else (ji10)) = ji12 := hji12
     simp only [some.injEq, Prod.mk.injEq] at H
     obtain ⟨rfl, rfl⟩ := H
     go_enter func7, ntmps7
     go_wp2_with (first | ((with_reducible refine gate_callee (f := 14) rfl ?_); refine goesL_ (some 11) rfl rfl func14 (by kernel_rfl) rfl #[.int .i64 a0, .int .i64 a1] rfl (by (try simp only [map_toArray, map_cons, map_nil]); first | done | rfl) ?_; (with_reducible refine (layer_check.calls k a0 a1 t546 _ A4.out).mono ?_); rintro e w' ⟨rfl, ⟨nd, rfl⟩⟩; refine ⟨_, rfl, ?_⟩) | ((with_reducible refine gate_callee (f := 25) rfl ?_); refine goesL_ (some 30) rfl rfl func25 (by kernel_rfl) rfl #[.int .i64 a0, .int .i64 a2] rfl (by (try simp only [map_toArray, map_cons, map_nil]); first | done | rfl) ?_; (with_reducible refine (diff_Bound.calls k a0 a2 t549 t550 _ A11.out).mono ?_); rintro e w13 ⟨rfl, hb⟩; refine ⟨_, rfl, ?_⟩; have n0_ := ak_ (bt_ (bl_ HB) hb); clear HB; have HB := n0_; clear n0_; (try clear hb); (try clear hk)))
     go_ret2
     exact ⟨by first | rfl | ((have z_ : ji12 = 0 := (by omega)); rw [z_]; simp; done) | (simp <;> rfl) | (simp only [← hji10, ← hji12]; first | rfl | (simp <;> rfl)) | (simp [*] <;> rfl), bl_ HB⟩
    ·rw [if_neg c9] at H
     have c9b0 : (a1 == 3) = false := beq_eq_false_iff_ne.mpr c9
     have c9b1 : (a1 != 3) = true := bne_iff_ne.mpr c9
     replace H := bind_eq_some_iff.mp H
     obtain ⟨⟨t551, t552⟩, A140, H⟩ := H
     replace H : (some (IntKind.u64.wrap (t551 * 2 ^ (mx 0 0).toNat), t552)) = some (r1, r2) := H
     have A14 := ak_ A140
     clear A140
     obtain ⟨ji15, hji15⟩ : ∃ j_ : Int, (mx 0 0) = j_ := ⟨_, rfl⟩
     replace H : (some (IntKind.u64.wrap (t551 * 2 ^ (ji15).toNat), t552)) = some (r1, r2) := by first | (rw [hji15] at H; exact H) | (simp only [hji15] at H ⊢; exact H)
     (try rw [hji15] at A4)
     (try rw [hji15] at A14)
     (try (have hji15h : ji15 ≤ 0 := by (rw [← hji15]; unfold mx; (repeat' split) <;> omega)))
     (try (have hji15g : ji15 ≤ 64 := by omega))
     (try (have hji15l : 0 ≤ ji15 := by (rw [← hji15]; unfold mx; (repeat' split) <;> omega)))
     (try (have hji15m : 0 ≤ ji15 := by omega))
     have hji15_ : (if 0 < 0 then 0 else 0) = ji15 := hji15
     simp only [some.injEq, Prod.mk.injEq] at H
     obtain ⟨rfl, rfl⟩ := H
     go_enter func7, ntmps7
     go_wp2_with (first | ((with_reducible refine gate_callee (f := 14) rfl ?_); refine goesL_ (some 11) rfl rfl func14 (by kernel_rfl) rfl #[.int .i64 a0, .int .i64 a1] rfl (by (try simp only [map_toArray, map_cons, map_nil]); first | done | rfl) ?_; (with_reducible refine (layer_check.calls k a0 a1 t546 _ A4.out).mono ?_); rintro e w' ⟨rfl, ⟨nd, rfl⟩⟩; refine ⟨_, rfl, ?_⟩) | ((with_reducible refine gate_callee (f := 25) rfl ?_); refine goesL_ (some 30) rfl rfl func25 (by kernel_rfl) rfl #[.int .i64 a0, .int .i64 a2] rfl (by (try simp only [map_toArray, map_cons, map_nil]); first | done | rfl) ?_; (with_reducible refine (diff_Bound.calls k a0 a2 t551 t552 _ A14.out).mono ?_); rintro e w16 ⟨rfl, hb⟩; refine ⟨_, rfl, ?_⟩; have n0_ := ak_ (bt_ (bl_ HB) hb); clear HB; have HB := n0_; clear n0_; (try clear hb); (try clear hk)))
     go_ret2
     exact ⟨by first | rfl | ((have z_ : ji15 = 0 := (by omega)); rw [z_]; simp; done) | (simp <;> rfl) | (simp only [← hji15]; first | rfl | (simp <;> rfl)) | (simp [*] <;> rfl), bl_ HB⟩
  ·rw [if_neg c5] at H
   have c5b0 : (t546 == 0) = false := beq_eq_false_iff_ne.mpr c5
   have c5b1 : (t546 != 0) = true := bne_iff_ne.mpr c5
   simp only [some.injEq, Prod.mk.injEq] at H
   obtain ⟨rfl, rfl⟩ := H
   go_enter func7, ntmps7
   go_wp2_with (first | ((with_reducible refine gate_callee (f := 14) rfl ?_); refine goesL_ (some 11) rfl rfl func14 (by kernel_rfl) rfl #[.int .i64 a0, .int .i64 a1] rfl (by (try simp only [map_toArray, map_cons, map_nil]); first | done | rfl) ?_; (with_reducible refine (layer_check.calls k a0 a1 t546 _ A4.out).mono ?_); rintro e w' ⟨rfl, ⟨nd, rfl⟩⟩; refine ⟨_, rfl, ?_⟩))
   go_ret2
   exact ⟨by first | rfl | (simp <;> rfl) | (simp [*] <;> rfl), bl_ HB⟩
def medlarref10_May.f (k : Nat) (a0 : Int) (a1 : Int) : Option (Bool) := (medlarref01_Leaves.f k a0 1).bind fun bt553 => (if bt553.2.2 = 0 then (if a1 ≥ 0 then (if a1 ≤ 1024 then (some (decide ((IntKind.u64.wrap (a1)) ≤ (IntKind.u64.wrap (bt553.2.1 + 1))))) else (some false)) else (some false)) else (some false))
set_option maxHeartbeats 8000000 in
set_option maxRecDepth 100000 in
theorem medlarref10_May.calls (k : Nat) (a0 : Int) (a1 : Int) (r : Bool) (w : World) (h : medlarref10_May.f k a0 a1 = some r) :
   Calls Tryz.prog 60 #[.int .i64 a0, .int .i64 a1] w fun e w' => e = .returned (.bool r) ∧ Below w.heap.size w w' := by
  have hu76 := underlying76
  have HB := ak_ (Below.refl w.heap.size w)
  have H : ((medlarref01_Leaves.f k a0 1).bind fun bt553 => (if bt553.2.2 = 0 then (if a1 ≥ 0 then (if a1 ≤ 1024 then (some (decide ((IntKind.u64.wrap (a1)) ≤ (IntKind.u64.wrap (bt553.2.1 + 1))))) else (some false)) else (some false)) else (some false))) = some r := h
  clear h
  replace H := bind_eq_some_iff.mp H
  obtain ⟨⟨t553, t554, t555⟩, A30, H⟩ := H
  replace H : (if t555 = 0 then (if a1 ≥ 0 then (if a1 ≤ 1024 then (some (decide ((IntKind.u64.wrap (a1)) ≤ (IntKind.u64.wrap (t554 + 1))))) else (some false)) else (some false)) else (some false)) = some r := H
  have A3 := ak_ A30
  clear A30
  by_cases c4 : t555 = 0
  ·rw [if_pos c4] at H
   have c4b0 : (t555 == 0) = true := beq_iff_eq.mpr c4
   have c4b1 : (t555 != 0) = false := bne_eq_false_iff_eq.mpr c4
   clear c4
   by_cases c5 : a1 ≥ 0
   ·rw [if_pos c5] at H
    have c5b0 : decide (0 ≤ a1) = true := decide_eq_true c5
    clear c5
    by_cases c6 : a1 ≤ 1024
    ·rw [if_pos c6] at H
     have c6b0 := decide_eq_true c6
     clear c6
     obtain rfl := Option.some.inj H
     go_enter func60, ntmps60
     go_wp2_with (first | ((with_reducible refine gate_callee (f := 84) rfl ?_); refine goesL_ (some 9) rfl rfl func84 (by kernel_rfl) rfl #[.int .i64 a0, .int .u64 1] rfl (by (try simp only [map_toArray, map_cons, map_nil]); first | done | rfl) ?_; (with_reducible refine (medlarref01_Leaves.calls k a0 1 t553 t554 t555 _ A3.out).mono ?_); rintro e w7 ⟨rfl, hb⟩; refine ⟨_, rfl, ?_⟩; have n0_ := ak_ (bt_ (bl_ HB) hb); clear HB; have HB := n0_; clear n0_; (try clear hb); (try clear hk)) | ((with_reducible refine gate_dst (N := 5) rfl ?_); refine box_event ?hg (N := 5) ?hd (cs := #[.int .u64 0, .int .u64 0]) (t := 76) ?hr ?_; (case hd => rfl); (case hg => rfl); (case hr => first | (go_simp; done) | (go_simp; rfl)); intro gb556 hg w8 hbox hb; have n0_ := ak_ (bt_ (bl_ HB) hb); have n1_ := ak_ (hbox); have n2_ := ak_ ((gs_ hg HB)); have n3_ := ak_ ((gs_ hg HB)); clear HB; have HB := n0_; have BK556 := n1_; have GW556 := n2_; have GE556 := n3_; clear n0_ n1_ n2_ n3_; clear hb hbox hg; have hcz9_0 : w8.cell? ⟨gb556, 0, none⟩ = some (.int .u64 0) := (kc_ BK556.out 0).trans rfl; have hcz9_1 : w8.cell? ⟨gb556, 1, none⟩ = some (.int .u64 0) := (kc_ BK556.out 1).trans rfl; have hfz9_0 := kf_ BK556.out 0; have hfz9_1 := kf_ BK556.out 1))
     go_ret
     exact ⟨by first | rfl | (simp <;> rfl) | (simp [*] <;> rfl), by repeat (first | (with_reducible first | exact HB.out | apply ba_ | apply bn_ | apply bd_ | refine below_set ?_ GE556.out) | exact HB.out)⟩
    ·rw [if_neg c6] at H
     have c6b0 := decide_eq_false c6
     clear c6
     obtain rfl := Option.some.inj H
     go_enter func60, ntmps60
     go_wp2_with (first | ((with_reducible refine gate_callee (f := 84) rfl ?_); refine goesL_ (some 9) rfl rfl func84 (by kernel_rfl) rfl #[.int .i64 a0, .int .u64 1] rfl (by (try simp only [map_toArray, map_cons, map_nil]); first | done | rfl) ?_; (with_reducible refine (medlarref01_Leaves.calls k a0 1 t553 t554 t555 _ A3.out).mono ?_); rintro e w10 ⟨rfl, hb⟩; refine ⟨_, rfl, ?_⟩; have n0_ := ak_ (bt_ (bl_ HB) hb); clear HB; have HB := n0_; clear n0_; (try clear hb); (try clear hk)) | ((with_reducible refine gate_dst (N := 5) rfl ?_); refine box_event ?hg (N := 5) ?hd (cs := #[.int .u64 0, .int .u64 0]) (t := 76) ?hr ?_; (case hd => rfl); (case hg => rfl); (case hr => first | (go_simp; done) | (go_simp; rfl)); intro gb556 hg w11 hbox hb; have n0_ := ak_ (bt_ (bl_ HB) hb); have n1_ := ak_ (hbox); have n2_ := ak_ ((gs_ hg HB)); have n3_ := ak_ ((gs_ hg HB)); clear HB; have HB := n0_; have BK556 := n1_; have GW556 := n2_; have GE556 := n3_; clear n0_ n1_ n2_ n3_; clear hb hbox hg; have hcz12_0 : w11.cell? ⟨gb556, 0, none⟩ = some (.int .u64 0) := (kc_ BK556.out 0).trans rfl; have hcz12_1 : w11.cell? ⟨gb556, 1, none⟩ = some (.int .u64 0) := (kc_ BK556.out 1).trans rfl; have hfz12_0 := kf_ BK556.out 0; have hfz12_1 := kf_ BK556.out 1))
     go_ret
     exact ⟨by first | rfl | (simp <;> rfl) | (simp [*] <;> rfl), by repeat (first | (with_reducible first | exact HB.out | apply ba_ | apply bn_ | apply bd_ | refine below_set ?_ GE556.out) | exact HB.out)⟩
   ·rw [if_neg c5] at H
    have c5b0 : decide (0 ≤ a1) = false := decide_eq_false c5
    clear c5
    obtain rfl := Option.some.inj H
    go_enter func60, ntmps60
    go_wp2_with (first | ((with_reducible refine gate_callee (f := 84) rfl ?_); refine goesL_ (some 9) rfl rfl func84 (by kernel_rfl) rfl #[.int .i64 a0, .int .u64 1] rfl (by (try simp only [map_toArray, map_cons, map_nil]); first | done | rfl) ?_; (with_reducible refine (medlarref01_Leaves.calls k a0 1 t553 t554 t555 _ A3.out).mono ?_); rintro e w13 ⟨rfl, hb⟩; refine ⟨_, rfl, ?_⟩; have n0_ := ak_ (bt_ (bl_ HB) hb); clear HB; have HB := n0_; clear n0_; (try clear hb); (try clear hk)) | ((with_reducible refine gate_dst (N := 5) rfl ?_); refine box_event ?hg (N := 5) ?hd (cs := #[.int .u64 0, .int .u64 0]) (t := 76) ?hr ?_; (case hd => rfl); (case hg => rfl); (case hr => first | (go_simp; done) | (go_simp; rfl)); intro gb556 hg w14 hbox hb; have n0_ := ak_ (bt_ (bl_ HB) hb); have n1_ := ak_ (hbox); have n2_ := ak_ ((gs_ hg HB)); have n3_ := ak_ ((gs_ hg HB)); clear HB; have HB := n0_; have BK556 := n1_; have GW556 := n2_; have GE556 := n3_; clear n0_ n1_ n2_ n3_; clear hb hbox hg; have hcz15_0 : w14.cell? ⟨gb556, 0, none⟩ = some (.int .u64 0) := (kc_ BK556.out 0).trans rfl; have hcz15_1 : w14.cell? ⟨gb556, 1, none⟩ = some (.int .u64 0) := (kc_ BK556.out 1).trans rfl; have hfz15_0 := kf_ BK556.out 0; have hfz15_1 := kf_ BK556.out 1))
    go_ret
    exact ⟨by first | rfl | (simp <;> rfl) | (simp [*] <;> rfl), by repeat (first | (with_reducible first | exact HB.out | apply ba_ | apply bn_ | apply bd_ | refine below_set ?_ GE556.out) | exact HB.out)⟩
  ·rw [if_neg c4] at H
   have c4b0 : (t555 == 0) = false := beq_eq_false_iff_ne.mpr c4
   have c4b1 : (t555 != 0) = true := bne_iff_ne.mpr c4
   obtain rfl := Option.some.inj H
   go_enter func60, ntmps60
   go_wp2_with (first | ((with_reducible refine gate_callee (f := 84) rfl ?_); refine goesL_ (some 9) rfl rfl func84 (by kernel_rfl) rfl #[.int .i64 a0, .int .u64 1] rfl (by (try simp only [map_toArray, map_cons, map_nil]); first | done | rfl) ?_; (with_reducible refine (medlarref01_Leaves.calls k a0 1 t553 t554 t555 _ A3.out).mono ?_); rintro e w16 ⟨rfl, hb⟩; refine ⟨_, rfl, ?_⟩; have n0_ := ak_ (bt_ (bl_ HB) hb); clear HB; have HB := n0_; clear n0_; (try clear hb); (try clear hk)) | ((with_reducible refine gate_dst (N := 5) rfl ?_); refine box_event ?hg (N := 5) ?hd (cs := #[.int .u64 0, .int .u64 0]) (t := 76) ?hr ?_; (case hd => rfl); (case hg => rfl); (case hr => first | (go_simp; done) | (go_simp; rfl)); intro gb556 hg w17 hbox hb; have n0_ := ak_ (bt_ (bl_ HB) hb); have n1_ := ak_ (hbox); have n2_ := ak_ ((gs_ hg HB)); have n3_ := ak_ ((gs_ hg HB)); clear HB; have HB := n0_; have BK556 := n1_; have GW556 := n2_; have GE556 := n3_; clear n0_ n1_ n2_ n3_; clear hb hbox hg; have hcz18_0 : w17.cell? ⟨gb556, 0, none⟩ = some (.int .u64 0) := (kc_ BK556.out 0).trans rfl; have hcz18_1 : w17.cell? ⟨gb556, 1, none⟩ = some (.int .u64 0) := (kc_ BK556.out 1).trans rfl; have hfz18_0 := kf_ BK556.out 0; have hfz18_1 := kf_ BK556.out 1))
   go_ret
   exact ⟨by first | rfl | (simp <;> rfl) | (simp [*] <;> rfl), by repeat (first | (with_reducible first | exact HB.out | apply ba_ | apply bn_ | apply bd_ | refine below_set ?_ GE556.out) | exact HB.out)⟩
def medlarref10_Bound.l0 : Nat → Int → Int → Int → Int → Option (Int × Int)
  | 0, _, _, _, _ => none
  | k + 1, x0, x1, x6, x7 => if x7 ≤ x1 then (medlarref10_Bound.l0 k x0 x1 (wrap64 (x6 + 1)) (wrap64 (2 * x7))) else (some (IntKind.u64.wrap (wrap64 (x1 * (wrap64 (x0 - x6)))), 0))
def medlarref10_Bound.f (k : Nat) (a0 : Int) (a1 : Int) : Option (Int × Int) := (medlarref10_May.f k a0 a1).bind fun t557 => (if t557 = true then (if a1 = 0 then (some (1, 0)) else (medlarref10_Bound.l0 k a0 a1 0 2)) else (some (0, 1)))
set_option maxHeartbeats 8000000 in
set_option maxRecDepth 100000 in
theorem medlarref10_Bound.calls (k : Nat) (a0 : Int) (a1 : Int) (r1 : Int) (r2 : Int) (w : World) (h : medlarref10_Bound.f k a0 a1 = some (r1, r2)) :
   Calls Tryz.prog 26 #[.int .i64 a0, .int .i64 a1] w fun e w' => e = .returned (.tuple #[.int .u64 r1, .int .i64 r2]) ∧ Below w.heap.size w w' := by
  have HB := ak_ (Below.refl w.heap.size w)
  have H : ((medlarref10_May.f k a0 a1).bind fun t557 => (if t557 = true then (if a1 = 0 then (some (1, 0)) else (medlarref10_Bound.l0 k a0 a1 0 2)) else (some (0, 1)))) = some (r1, r2) := h
  clear h
  replace H := bind_eq_some_iff.mp H
  obtain ⟨t557, A30, H⟩ := H
  replace H : (if t557 = true then (if a1 = 0 then (some (1, 0)) else (medlarref10_Bound.l0 k a0 a1 0 2)) else (some (0, 1))) = some (r1, r2) := H
  have A3 := ak_ A30
  clear A30
  by_cases c4 : t557 = true
  ·subst c4
   have H1 : (if a1 = 0 then (some (1, 0)) else (medlarref10_Bound.l0 k a0 a1 0 2)) = some (r1, r2) := by rw [if_pos rfl] at H; exact H
   clear H
   have H := H1
   clear H1
   by_cases c5 : a1 = 0
   ·rw [if_pos c5] at H
    have c5b0 : (a1 == 0) = true := beq_iff_eq.mpr c5
    have c5b1 : (a1 != 0) = false := bne_eq_false_iff_eq.mpr c5
    clear c5
    simp only [some.injEq, Prod.mk.injEq] at H
    obtain ⟨rfl, rfl⟩ := H
    go_enter func26, ntmps26
    go_wp2_with (first | ((with_reducible refine gate_callee (f := 60) rfl ?_); refine goesL_ (some 10) rfl rfl func60 (by kernel_rfl) rfl #[.int .i64 a0, .int .i64 a1] rfl (by (try simp only [map_toArray, map_cons, map_nil]); first | done | rfl) ?_; (with_reducible refine (medlarref10_May.calls k a0 a1 true _ A3.out).mono ?_); rintro e w6 ⟨rfl, hb⟩; refine ⟨_, rfl, ?_⟩; have n0_ := ak_ (bt_ (bl_ HB) hb); clear HB; have HB := n0_; clear n0_; (try clear hb); (try clear hk)))
    go_ret2
    exact ⟨by first | rfl | (simp <;> rfl) | (simp [*] <;> rfl), bl_ HB⟩
   ·rw [if_neg c5] at H
    have c5b0 : (a1 == 0) = false := beq_eq_false_iff_ne.mpr c5
    have c5b1 : (a1 != 0) = true := bne_iff_ne.mpr c5
    have H' := ak_ H
    clear H
    go_enter func26, ntmps26
    go_wp2_with (first | ((with_reducible refine gate_callee (f := 60) rfl ?_); refine goesL_ (some 10) rfl rfl func60 (by kernel_rfl) rfl #[.int .i64 a0, .int .i64 a1] rfl (by (try simp only [map_toArray, map_cons, map_nil]); first | done | rfl) ?_; (with_reducible refine (medlarref10_May.calls k a0 a1 true _ A3.out).mono ?_); rintro e w7 ⟨rfl, hb⟩; refine ⟨_, rfl, ?_⟩; have n0_ := ak_ (bt_ (bl_ HB) hb); clear HB; have HB := n0_; clear n0_; (try clear hb); (try clear hk)))
    go_loopg [6, 7] k (fun kq v6 v7 w' => ∃ (x6_1 : Int) (x7_1 : Int), v6 = .int .i64 x6_1 ∧ v7 = .int .i64 x7_1 ∧ Aside0 (medlarref10_Bound.l0 kq a0 a1 x6_1 x7_1 = some (r1, r2)) ∧ Aside0 (kq ≤ k) ∧ Aside0 (Below w.heap.size w w'))
    case atStart => exact ⟨(0), (2), (by first | rfl | (simp; done) | (simp [*]; done)), (by first | rfl | (simp; done) | (simp [*]; done)), H', ⟨Nat.le_refl _⟩, ⟨bl_ HB⟩⟩
    case round =>
     clear H'
     try clear c2
     try clear p2
     try clear c4
     try clear c5
     try clear c5b0
     try clear c5b1
     try clear c6
     obtain ⟨x6_1, x7_1, rfl, rfl, HA, HK1, HB⟩ := hrel
     cases gk with
     | zero => exact absurd HA.out (by simp [medlarref10_Bound.l0])
     | succ k1 =>
      have H := HA.out
      clear HA
      simp only [medlarref10_Bound.l0] at H
      by_cases c8 : x7_1 ≤ a1
      ·rw [if_pos c8] at H
       have c8b0 := decide_eq_true c8
       clear c8
       have H' := ak_ H
       clear H
       go_wp2
       go_roundg k1
       case measure => have := HK1.out; omega
       case rel => exact ⟨(wrap64 (x6_1 + 1)), (wrap64 (2 * x7_1)), (by first | rfl | (simp; done) | (simp [*]; done)), (by first | rfl | (simp; done) | (simp [*]; done)), H', ⟨by have := HK1.out; omega⟩, ⟨bl_ HB⟩⟩
      ·rw [if_neg c8] at H
       have c8b0 := decide_eq_false c8
       clear c8
       simp only [some.injEq, Prod.mk.injEq] at H
       obtain ⟨rfl, rfl⟩ := H
       go_wp2
       go_ret2
       exact ⟨by first | rfl | (simp <;> rfl) | (simp [*] <;> rfl), bl_ HB⟩
  ·replace c4 := Bool.eq_false_iff.mpr c4
   subst c4
   have H1 : (some (0, 1)) = some (r1, r2) := by rw [if_neg (show ¬ (false = true) by decide)] at H; exact H
   clear H
   have H := H1
   clear H1
   simp only [some.injEq, Prod.mk.injEq] at H
   obtain ⟨rfl, rfl⟩ := H
   go_enter func26, ntmps26
   go_wp2_with (first | ((with_reducible refine gate_callee (f := 60) rfl ?_); refine goesL_ (some 10) rfl rfl func60 (by kernel_rfl) rfl #[.int .i64 a0, .int .i64 a1] rfl (by (try simp only [map_toArray, map_cons, map_nil]); first | done | rfl) ?_; (with_reducible refine (medlarref10_May.calls k a0 a1 false _ A3.out).mono ?_); rintro e w9 ⟨rfl, hb⟩; refine ⟨_, rfl, ?_⟩; have n0_ := ak_ (bt_ (bl_ HB) hb); clear HB; have HB := n0_; clear n0_; (try clear hb); (try clear hk)))
   go_ret2
   exact ⟨by first | rfl | (simp <;> rfl) | (simp [*] <;> rfl), bl_ HB⟩
def medlarref11_Bound.f (k : Nat) (a0 : Int) (a1 : Int) : Option (Int × Int) := (medlarref10_May.f k a0 a1).bind fun t558 => (if t558 = true then (if a1 = 0 then (some (1, 0)) else (some (IntKind.u64.wrap (wrap64 ((wrap64 (2 * a1)) - 1)), 0))) else (some (0, 1)))
set_option maxHeartbeats 8000000 in
set_option maxRecDepth 100000 in
theorem medlarref11_Bound.calls (k : Nat) (a0 : Int) (a1 : Int) (r1 : Int) (r2 : Int) (w : World) (h : medlarref11_Bound.f k a0 a1 = some (r1, r2)) :
   Calls Tryz.prog 27 #[.int .i64 a0, .int .i64 a1] w fun e w' => e = .returned (.tuple #[.int .u64 r1, .int .i64 r2]) ∧ Below w.heap.size w w' := by
  have HB := ak_ (Below.refl w.heap.size w)
  have H : ((medlarref10_May.f k a0 a1).bind fun t558 => (if t558 = true then (if a1 = 0 then (some (1, 0)) else (some (IntKind.u64.wrap (wrap64 ((wrap64 (2 * a1)) - 1)), 0))) else (some (0, 1)))) = some (r1, r2) := h
  clear h
  replace H := bind_eq_some_iff.mp H
  obtain ⟨t558, A30, H⟩ := H
  replace H : (if t558 = true then (if a1 = 0 then (some (1, 0)) else (some (IntKind.u64.wrap (wrap64 ((wrap64 (2 * a1)) - 1)), 0))) else (some (0, 1))) = some (r1, r2) := H
  have A3 := ak_ A30
  clear A30
  by_cases c4 : t558 = true
  ·subst c4
   have H1 : (if a1 = 0 then (some (1, 0)) else (some (IntKind.u64.wrap (wrap64 ((wrap64 (2 * a1)) - 1)), 0))) = some (r1, r2) := by rw [if_pos rfl] at H; exact H
   clear H
   have H := H1
   clear H1
   by_cases c5 : a1 = 0
   ·rw [if_pos c5] at H
    have c5b0 : (a1 == 0) = true := beq_iff_eq.mpr c5
    have c5b1 : (a1 != 0) = false := bne_eq_false_iff_eq.mpr c5
    clear c5
    simp only [some.injEq, Prod.mk.injEq] at H
    obtain ⟨rfl, rfl⟩ := H
    go_enter func27, ntmps27
    go_wp2_with (first | ((with_reducible refine gate_callee (f := 60) rfl ?_); refine goesL_ (some 8) rfl rfl func60 (by kernel_rfl) rfl #[.int .i64 a0, .int .i64 a1] rfl (by (try simp only [map_toArray, map_cons, map_nil]); first | done | rfl) ?_; (with_reducible refine (medlarref10_May.calls k a0 a1 true _ A3.out).mono ?_); rintro e w6 ⟨rfl, hb⟩; refine ⟨_, rfl, ?_⟩; have n0_ := ak_ (bt_ (bl_ HB) hb); clear HB; have HB := n0_; clear n0_; (try clear hb); (try clear hk)))
    go_ret2
    exact ⟨by first | rfl | (simp <;> rfl) | (simp [*] <;> rfl), bl_ HB⟩
   ·rw [if_neg c5] at H
    have c5b0 : (a1 == 0) = false := beq_eq_false_iff_ne.mpr c5
    have c5b1 : (a1 != 0) = true := bne_iff_ne.mpr c5
    simp only [some.injEq, Prod.mk.injEq] at H
    obtain ⟨rfl, rfl⟩ := H
    go_enter func27, ntmps27
    go_wp2_with (first | ((with_reducible refine gate_callee (f := 60) rfl ?_); refine goesL_ (some 8) rfl rfl func60 (by kernel_rfl) rfl #[.int .i64 a0, .int .i64 a1] rfl (by (try simp only [map_toArray, map_cons, map_nil]); first | done | rfl) ?_; (with_reducible refine (medlarref10_May.calls k a0 a1 true _ A3.out).mono ?_); rintro e w7 ⟨rfl, hb⟩; refine ⟨_, rfl, ?_⟩; have n0_ := ak_ (bt_ (bl_ HB) hb); clear HB; have HB := n0_; clear n0_; (try clear hb); (try clear hk)))
    go_ret2
    exact ⟨by first | rfl | (simp <;> rfl) | (simp [*] <;> rfl), bl_ HB⟩
  ·replace c4 := Bool.eq_false_iff.mpr c4
   subst c4
   have H1 : (some (0, 1)) = some (r1, r2) := by rw [if_neg (show ¬ (false = true) by decide)] at H; exact H
   clear H
   have H := H1
   clear H1
   simp only [some.injEq, Prod.mk.injEq] at H
   obtain ⟨rfl, rfl⟩ := H
   go_enter func27, ntmps27
   go_wp2_with (first | ((with_reducible refine gate_callee (f := 60) rfl ?_); refine goesL_ (some 8) rfl rfl func60 (by kernel_rfl) rfl #[.int .i64 a0, .int .i64 a1] rfl (by (try simp only [map_toArray, map_cons, map_nil]); first | done | rfl) ?_; (with_reducible refine (medlarref10_May.calls k a0 a1 false _ A3.out).mono ?_); rintro e w8 ⟨rfl, hb⟩; refine ⟨_, rfl, ?_⟩; have n0_ := ak_ (bt_ (bl_ HB) hb); clear HB; have HB := n0_; clear n0_; (try clear hb); (try clear hk)))
   go_ret2
   exact ⟨by first | rfl | (simp <;> rfl) | (simp [*] <;> rfl), bl_ HB⟩
def medlarref12_Bound.f (k : Nat) (a0 : Int) (a1 : Int) (a2 : Int) : Option (Int × Int) := (medlarref12_scheme.f k a0 a1).bind fun t559 => (if t559 = true then (if a1 = 1 then ((medlarref10_Bound.f k a0 a2).bind fun bt560 => (some (bt560.1, bt560.2))) else ((medlarref11_Bound.f k a0 a2).bind fun bt562 => (if a1 = 3 then (if a2 > 0 then (some (IntKind.u64.wrap (2 * bt562.1), bt562.2)) else (some (bt562.1, bt562.2))) else (some (bt562.1, bt562.2))))) else (some (0, 1)))
set_option maxHeartbeats 8000000 in
set_option maxRecDepth 100000 in
theorem medlarref12_Bound.calls (k : Nat) (a0 : Int) (a1 : Int) (a2 : Int) (r1 : Int) (r2 : Int) (w : World) (h : medlarref12_Bound.f k a0 a1 a2 = some (r1, r2)) :
   Calls Tryz.prog 8 #[.int .i64 a0, .int .i64 a1, .int .i64 a2] w fun e w' => e = .returned (.tuple #[.int .u64 r1, .int .i64 r2]) ∧ Below w.heap.size w w' := by
  have HB := ak_ (Below.refl w.heap.size w)
  have H : ((medlarref12_scheme.f k a0 a1).bind fun t559 => (if t559 = true then (if a1 = 1 then ((medlarref10_Bound.f k a0 a2).bind fun bt560 => (some (bt560.1, bt560.2))) else ((medlarref11_Bound.f k a0 a2).bind fun bt562 => (if a1 = 3 then (if a2 > 0 then (some (IntKind.u64.wrap (2 * bt562.1), bt562.2)) else (some (bt562.1, bt562.2))) else (some (bt562.1, bt562.2))))) else (some (0, 1)))) = some (r1, r2) := h
  clear h
  replace H := bind_eq_some_iff.mp H
  obtain ⟨t559, A40, H⟩ := H
  replace H : (if t559 = true then (if a1 = 1 then ((medlarref10_Bound.f k a0 a2).bind fun bt560 => (some (bt560.1, bt560.2))) else ((medlarref11_Bound.f k a0 a2).bind fun bt562 => (if a1 = 3 then (if a2 > 0 then (some (IntKind.u64.wrap (2 * bt562.1), bt562.2)) else (some (bt562.1, bt562.2))) else (some (bt562.1, bt562.2))))) else (some (0, 1))) = some (r1, r2) := H
  have A4 := ak_ A40
  clear A40
  by_cases c5 : t559 = true
  ·subst c5
   have H1 : (if a1 = 1 then ((medlarref10_Bound.f k a0 a2).bind fun bt560 => (some (bt560.1, bt560.2))) else ((medlarref11_Bound.f k a0 a2).bind fun bt562 => (if a1 = 3 then (if a2 > 0 then (some (IntKind.u64.wrap (2 * bt562.1), bt562.2)) else (some (bt562.1, bt562.2))) else (some (bt562.1, bt562.2))))) = some (r1, r2) := by rw [if_pos rfl] at H; exact H
   clear H
   have H := H1
   clear H1
   by_cases c6 : a1 = 1
   ·rw [if_pos c6] at H
    have c6b0 : (a1 == 1) = true := beq_iff_eq.mpr c6
    have c6b1 : (a1 != 1) = false := bne_eq_false_iff_eq.mpr c6
    clear c6
    replace H := bind_eq_some_iff.mp H
    obtain ⟨⟨t560, t561⟩, A70, H⟩ := H
    replace H : (some (t560, t561)) = some (r1, r2) := H
    have A7 := ak_ A70
    clear A70
    simp only [some.injEq, Prod.mk.injEq] at H
    obtain ⟨rfl, rfl⟩ := H
    go_enter func8, ntmps8
    go_wp2_with (first | ((with_reducible refine gate_callee (f := 19) rfl ?_); refine goesL_ (some 12) rfl rfl func19 (by kernel_rfl) rfl #[.int .i64 a0, .int .i64 a1] rfl (by (try simp only [map_toArray, map_cons, map_nil]); first | done | rfl) ?_; (with_reducible refine (medlarref12_scheme.calls k a0 a1 true _ A4.out).mono ?_); rintro e w' ⟨rfl, ⟨nd, rfl⟩⟩; refine ⟨_, rfl, ?_⟩) | ((with_reducible refine gate_callee (f := 26) rfl ?_); refine goesL_ (some 18) rfl rfl func26 (by kernel_rfl) rfl #[.int .i64 a0, .int .i64 a2] rfl (by (try simp only [map_toArray, map_cons, map_nil]); first | done | rfl) ?_; (with_reducible refine (medlarref10_Bound.calls k a0 a2 t560 t561 _ A7.out).mono ?_); rintro e w8 ⟨rfl, hb⟩; refine ⟨_, rfl, ?_⟩; have n0_ := ak_ (bt_ (bl_ HB) hb); clear HB; have HB := n0_; clear n0_; (try clear hb); (try clear hk)))
    go_ret2
    exact ⟨by first | rfl | (simp <;> rfl) | (simp [*] <;> rfl), bl_ HB⟩
   ·rw [if_neg c6] at H
    have c6b0 : (a1 == 1) = false := beq_eq_false_iff_ne.mpr c6
    have c6b1 : (a1 != 1) = true := bne_iff_ne.mpr c6
    replace H := bind_eq_some_iff.mp H
    obtain ⟨⟨t562, t563⟩, A90, H⟩ := H
    replace H : (if a1 = 3 then (if a2 > 0 then (some (IntKind.u64.wrap (2 * t562), t563)) else (some (t562, t563))) else (some (t562, t563))) = some (r1, r2) := H
    have A9 := ak_ A90
    clear A90
    by_cases c10 : a1 = 3
    ·rw [if_pos c10] at H
     have c10b0 : (a1 == 3) = true := beq_iff_eq.mpr c10
     have c10b1 : (a1 != 3) = false := bne_eq_false_iff_eq.mpr c10
     clear c10
     by_cases c11 : a2 > 0
     ·rw [if_pos c11] at H
      have c11b0 : decide (0 < a2) = true := decide_eq_true c11
      clear c11
      simp only [some.injEq, Prod.mk.injEq] at H
      obtain ⟨rfl, rfl⟩ := H
      go_enter func8, ntmps8
      go_wp2_with (first | ((with_reducible refine gate_callee (f := 19) rfl ?_); refine goesL_ (some 12) rfl rfl func19 (by kernel_rfl) rfl #[.int .i64 a0, .int .i64 a1] rfl (by (try simp only [map_toArray, map_cons, map_nil]); first | done | rfl) ?_; (with_reducible refine (medlarref12_scheme.calls k a0 a1 true _ A4.out).mono ?_); rintro e w' ⟨rfl, ⟨nd, rfl⟩⟩; refine ⟨_, rfl, ?_⟩) | ((with_reducible refine gate_callee (f := 27) rfl ?_); refine goesL_ (some 24) rfl rfl func27 (by kernel_rfl) rfl #[.int .i64 a0, .int .i64 a2] rfl (by (try simp only [map_toArray, map_cons, map_nil]); first | done | rfl) ?_; (with_reducible refine (medlarref11_Bound.calls k a0 a2 t562 t563 _ A9.out).mono ?_); rintro e w12 ⟨rfl, hb⟩; refine ⟨_, rfl, ?_⟩; have n0_ := ak_ (bt_ (bl_ HB) hb); clear HB; have HB := n0_; clear n0_; (try clear hb); (try clear hk)))
      go_ret2
      exact ⟨by first | rfl | (simp <;> rfl) | (simp [*] <;> rfl), bl_ HB⟩
     ·rw [if_neg c11] at H
      have c11b0 : decide (0 < a2) = false := decide_eq_false c11
      clear c11
      simp only [some.injEq, Prod.mk.injEq] at H
      obtain ⟨rfl, rfl⟩ := H
      go_enter func8, ntmps8
      go_wp2_with (first | ((with_reducible refine gate_callee (f := 19) rfl ?_); refine goesL_ (some 12) rfl rfl func19 (by kernel_rfl) rfl #[.int .i64 a0, .int .i64 a1] rfl (by (try simp only [map_toArray, map_cons, map_nil]); first | done | rfl) ?_; (with_reducible refine (medlarref12_scheme.calls k a0 a1 true _ A4.out).mono ?_); rintro e w' ⟨rfl, ⟨nd, rfl⟩⟩; refine ⟨_, rfl, ?_⟩) | ((with_reducible refine gate_callee (f := 27) rfl ?_); refine goesL_ (some 24) rfl rfl func27 (by kernel_rfl) rfl #[.int .i64 a0, .int .i64 a2] rfl (by (try simp only [map_toArray, map_cons, map_nil]); first | done | rfl) ?_; (with_reducible refine (medlarref11_Bound.calls k a0 a2 t562 t563 _ A9.out).mono ?_); rintro e w13 ⟨rfl, hb⟩; refine ⟨_, rfl, ?_⟩; have n0_ := ak_ (bt_ (bl_ HB) hb); clear HB; have HB := n0_; clear n0_; (try clear hb); (try clear hk)))
      go_ret2
      exact ⟨by first | rfl | (simp <;> rfl) | (simp [*] <;> rfl), bl_ HB⟩
    ·rw [if_neg c10] at H
     have c10b0 : (a1 == 3) = false := beq_eq_false_iff_ne.mpr c10
     have c10b1 : (a1 != 3) = true := bne_iff_ne.mpr c10
     simp only [some.injEq, Prod.mk.injEq] at H
     obtain ⟨rfl, rfl⟩ := H
     go_enter func8, ntmps8
     go_wp2_with (first | ((with_reducible refine gate_callee (f := 19) rfl ?_); refine goesL_ (some 12) rfl rfl func19 (by kernel_rfl) rfl #[.int .i64 a0, .int .i64 a1] rfl (by (try simp only [map_toArray, map_cons, map_nil]); first | done | rfl) ?_; (with_reducible refine (medlarref12_scheme.calls k a0 a1 true _ A4.out).mono ?_); rintro e w' ⟨rfl, ⟨nd, rfl⟩⟩; refine ⟨_, rfl, ?_⟩) | ((with_reducible refine gate_callee (f := 27) rfl ?_); refine goesL_ (some 24) rfl rfl func27 (by kernel_rfl) rfl #[.int .i64 a0, .int .i64 a2] rfl (by (try simp only [map_toArray, map_cons, map_nil]); first | done | rfl) ?_; (with_reducible refine (medlarref11_Bound.calls k a0 a2 t562 t563 _ A9.out).mono ?_); rintro e w14 ⟨rfl, hb⟩; refine ⟨_, rfl, ?_⟩; have n0_ := ak_ (bt_ (bl_ HB) hb); clear HB; have HB := n0_; clear n0_; (try clear hb); (try clear hk)))
     go_ret2
     exact ⟨by first | rfl | (simp <;> rfl) | (simp [*] <;> rfl), bl_ HB⟩
  ·replace c5 := Bool.eq_false_iff.mpr c5
   subst c5
   have H1 : (some (0, 1)) = some (r1, r2) := by rw [if_neg (show ¬ (false = true) by decide)] at H; exact H
   clear H
   have H := H1
   clear H1
   simp only [some.injEq, Prod.mk.injEq] at H
   obtain ⟨rfl, rfl⟩ := H
   go_enter func8, ntmps8
   go_wp2_with (first | ((with_reducible refine gate_callee (f := 19) rfl ?_); refine goesL_ (some 12) rfl rfl func19 (by kernel_rfl) rfl #[.int .i64 a0, .int .i64 a1] rfl (by (try simp only [map_toArray, map_cons, map_nil]); first | done | rfl) ?_; (with_reducible refine (medlarref12_scheme.calls k a0 a1 false _ A4.out).mono ?_); rintro e w' ⟨rfl, ⟨nd, rfl⟩⟩; refine ⟨_, rfl, ?_⟩))
   go_ret2
   exact ⟨by first | rfl | (simp <;> rfl) | (simp [*] <;> rfl), bl_ HB⟩
def layer_May.j0 : Nat → Int → Int → Bool → Int → Int → Option (Bool × Int)
  | 0, _, _, _, _, _ => none
  | k + 1, x0, x1, x17, x565000, x565001 => if x17 = true then (some (false, 1)) else (if x1 = 1 then (some ((x565001 == 0), 0)) else (if x1 = 2 then (if x565001 = 0 then (some ((x565000 == 1), 0)) else (some (true, 0))) else ((sub_Useful.f k x0 x565000 x565001).bind fun bt567 => (some (bt567.1, bt567.2)))))
def layer_May.f (k : Nat) (a0 : Int) (a1 : Int) (a2_0 : Int) (a2_1 : Int) : Option (Bool × Int) := (layer_check.f k a0 a1).bind fun t565 => (if t565 = 0 then ((sub_Check.f k a0 a2_0 a2_1).bind fun t566 => (layer_May.j0 k a0 a1 (t566 != 0) a2_0 a2_1)) else (layer_May.j0 k a0 a1 true a2_0 a2_1))
set_option maxHeartbeats 8000000 in
set_option maxRecDepth 100000 in
theorem layer_May.calls (k : Nat) (a0 : Int) (a1 : Int) (a2_0 : Int) (a2_1 : Int) (r1 : Bool) (r2 : Int) (w : World) (h : layer_May.f k a0 a1 a2_0 a2_1 = some (r1, r2)) :
   Calls Tryz.prog 9 #[.int .i64 a0, .int .i64 a1, .agg #[.int .u64 a2_0, .int .u64 a2_1]] w fun e w' => e = .returned (.tuple #[.bool r1, .int .i64 r2]) ∧ Below w.heap.size w w' := by
  have hu25 := underlying25
  have HB := ak_ (Below.refl w.heap.size w)
  have H : ((layer_check.f k a0 a1).bind fun t565 => (if t565 = 0 then ((sub_Check.f k a0 a2_0 a2_1).bind fun t566 => (layer_May.j0 k a0 a1 (t566 != 0) a2_0 a2_1)) else (layer_May.j0 k a0 a1 true a2_0 a2_1))) = some (r1, r2) := h
  clear h
  have HC4 := ak_ H
  clear H
  go_enter func9, ntmps9
  go_upto_region 1 with (first | ((with_reducible refine gate_dst (N := 5) rfl ?_); refine box_event ?hg (N := 5) ?hd (cs := #[.int .u64 a2_0, .int .u64 a2_1]) (t := 25) ?hr ?_; (case hd => rfl); (case hg => rfl); (case hr => first | (go_simp; done) | (go_simp; rfl)); intro gb564 hg w5 hbox hb; have n0_ := ak_ (bt_ (bl_ HB) hb); have n1_ := ak_ (hbox); have n2_ := ak_ ((gs_ hg HB)); have n3_ := ak_ ((gs_ hg HB)); clear HB; have HB := n0_; have BK564 := n1_; have GW564 := n2_; have GE564 := n3_; clear n0_ n1_ n2_ n3_; clear hb hbox hg))
  (try simp only [Act.put, setIfInBounds_toArray, set_cons_zero, set_cons_succ])
  go_cut [17] (fun v17 wc => ∃ (kq : Nat) (x17_3 : Bool), v17 = .bool x17_3 ∧ Aside0 (layer_May.j0 kq a0 a1 x17_3 a2_0 a2_1 = some (r1, r2)) ∧ Aside0 (kq ≤ k) ∧ Aside0 (wc.heap[gb564]? = some (.cells #[.int .u64 a2_0, .int .u64 a2_1] 25 (0, 0))) ∧ Aside0 (Below w.heap.size w wc))
  case first =>
   have H := HC4.out
   clear HC4
   replace H := bind_eq_some_iff.mp H
   obtain ⟨t565, A60, H⟩ := H
   replace H : (if t565 = 0 then ((sub_Check.f k a0 a2_0 a2_1).bind fun t566 => (layer_May.j0 k a0 a1 (t566 != 0) a2_0 a2_1)) else (layer_May.j0 k a0 a1 true a2_0 a2_1)) = some (r1, r2) := H
   have A6 := ak_ A60
   clear A60
   by_cases c7 : t565 = 0
   ·rw [if_pos c7] at H
    have c7b0 : (t565 == 0) = true := beq_iff_eq.mpr c7
    have c7b1 : (t565 != 0) = false := bne_eq_false_iff_eq.mpr c7
    clear c7
    (first | rw [c7b0] | (simp only [i64_w, i32_w]; rw [c7b0]) | skip)
    replace H := bind_eq_some_iff.mp H
    obtain ⟨t566, A80, H⟩ := H
    replace H : (layer_May.j0 k a0 a1 (t566 != 0) a2_0 a2_1) = some (r1, r2) := H
    have A8 := ak_ A80
    clear A80
    have H' := ak_ H
    clear H
    go_wp2_with (first | ((with_reducible refine gate_callee (f := 14) rfl ?_); refine goesL_ (some 10) rfl rfl func14 (by kernel_rfl) rfl #[.int .i64 a0, .int .i64 a1] rfl (by (try simp only [map_toArray, map_cons, map_nil]); first | done | rfl) ?_; (with_reducible refine (layer_check.calls k a0 a1 t565 _ A6.out).mono ?_); rintro e w' ⟨rfl, ⟨nd, rfl⟩⟩; refine ⟨_, rfl, ?_⟩; have hcz9_0 : w5.cell? ⟨gb564, 0, none⟩ = some (.int .u64 a2_0) := (kc_ BK564.out 0).trans rfl; have hcz9_1 : w5.cell? ⟨gb564, 1, none⟩ = some (.int .u64 a2_1) := (kc_ BK564.out 1).trans rfl; have hfz9_0 := kf_ BK564.out 0; have hfz9_1 := kf_ BK564.out 1) | (go_at_call 28; (with_reducible refine (sub_Check.calls k a0 a2_0 a2_1 t566 _ A8.out).mono ?_); rintro e w10 ⟨rfl, hb⟩; have n0_ := ak_ (kb_ (g := gb564) (o := .cells #[.int .u64 a2_0, .int .u64 a2_1] 25 (0, 0)) (kl_ BK564) hb); have n1_ := ak_ (bt_ (by repeat (first | (with_reducible first | exact HB.out | apply ba_ | apply bn_ | apply bd_ | refine below_set ?_ GE564.out) | exact HB.out)) hb); clear BK564; clear HB; have BK564 := n0_; have HB := n1_; clear n0_ n1_; (try clear hb); (try clear hk)))
    go_meet
    case rel => exact ⟨_, ((t566 != 0)), (by first | rfl | (simp; done) | (simp [*]; done)), H', ⟨by first | omega | exact Nat.le_refl _⟩, ⟨kl_ BK564⟩, ⟨by repeat (first | (with_reducible first | exact HB.out | apply ba_ | apply bn_ | apply bd_ | refine below_set ?_ GE564.out) | exact HB.out)⟩⟩
   ·rw [if_neg c7] at H
    have c7b0 : (t565 == 0) = false := beq_eq_false_iff_ne.mpr c7
    have c7b1 : (t565 != 0) = true := bne_iff_ne.mpr c7
    (first | rw [c7b0] | (simp only [i64_w, i32_w]; rw [c7b0]) | skip)
    have H' := ak_ H
    clear H
    go_wp2_with (first | ((with_reducible refine gate_callee (f := 14) rfl ?_); refine goesL_ (some 10) rfl rfl func14 (by kernel_rfl) rfl #[.int .i64 a0, .int .i64 a1] rfl (by (try simp only [map_toArray, map_cons, map_nil]); first | done | rfl) ?_; (with_reducible refine (layer_check.calls k a0 a1 t565 _ A6.out).mono ?_); rintro e w' ⟨rfl, ⟨nd, rfl⟩⟩; refine ⟨_, rfl, ?_⟩))
    go_meet
    case rel => exact ⟨_, (true), (by first | rfl | (simp; done) | (simp [*]; done)), H', ⟨by first | omega | exact Nat.le_refl _⟩, ⟨kl_ BK564⟩, ⟨by repeat (first | (with_reducible first | exact HB.out | apply ba_ | apply bn_ | apply bd_ | refine below_set ?_ GE564.out) | exact HB.out)⟩⟩
  case rest =>
   clear HC4
   try clear c1
   try clear p2
   try clear c7
   try clear c7b0
   try clear c7b1
   try clear c9
   try clear hcz9_0
   try clear hcz9_1
   try clear hfz9_0
   try clear hfz9_1
   obtain ⟨kq, x17_3, rfl, HA, HJ3, BK564, HB⟩ := hcut
   cases kq with
   | zero => exact absurd HA.out (by simp [layer_May.j0])
   | succ kj3 =>
    have H := HA.out
    clear HA
    simp only [layer_May.j0] at H
    by_cases c11 : x17_3 = true
    ·subst c11
     have H1 : (some (false, 1)) = some (r1, r2) := by rw [if_pos rfl] at H; exact H
     clear H
     have H := H1
     clear H1
     simp only [some.injEq, Prod.mk.injEq] at H
     obtain ⟨rfl, rfl⟩ := H
     go_wp2
     go_ret2
     exact ⟨by first | rfl | (simp <;> rfl) | (simp [*] <;> rfl), by repeat (first | (with_reducible first | exact HB.out | apply ba_ | apply bn_ | apply bd_ | refine below_set ?_ GE564.out) | exact HB.out)⟩
    ·replace c11 := Bool.eq_false_iff.mpr c11
     subst c11
     have H1 : (if a1 = 1 then (some ((a2_1 == 0), 0)) else (if a1 = 2 then (if a2_1 = 0 then (some ((a2_0 == 1), 0)) else (some (true, 0))) else ((sub_Useful.f kj3 a0 a2_0 a2_1).bind fun bt567 => (some (bt567.1, bt567.2))))) = some (r1, r2) := by rw [if_neg (show ¬ (false = true) by decide)] at H; exact H
     clear H
     have H := H1
     clear H1
     by_cases c12 : a1 = 1
     ·rw [if_pos c12] at H
      have c12b0 : (a1 == 1) = true := beq_iff_eq.mpr c12
      have c12b1 : (a1 != 1) = false := bne_eq_false_iff_eq.mpr c12
      clear c12
      simp only [some.injEq, Prod.mk.injEq] at H
      obtain ⟨rfl, rfl⟩ := H
      have hcz13_0 : wc.cell? ⟨gb564, 0, none⟩ = some (.int .u64 a2_0) := (kc_ BK564.out 0).trans rfl
      have hcz13_1 : wc.cell? ⟨gb564, 1, none⟩ = some (.int .u64 a2_1) := (kc_ BK564.out 1).trans rfl
      have hfz13_0 := kf_ BK564.out 0
      have hfz13_1 := kf_ BK564.out 1
      go_wp2
      go_ret2
      exact ⟨by first | rfl | (simp <;> rfl) | (simp [*] <;> rfl), by repeat (first | (with_reducible first | exact HB.out | apply ba_ | apply bn_ | apply bd_ | refine below_set ?_ GE564.out) | exact HB.out)⟩
     ·rw [if_neg c12] at H
      have c12b0 : (a1 == 1) = false := beq_eq_false_iff_ne.mpr c12
      have c12b1 : (a1 != 1) = true := bne_iff_ne.mpr c12
      by_cases c14 : a1 = 2
      ·rw [if_pos c14] at H
       have c14b0 : (a1 == 2) = true := beq_iff_eq.mpr c14
       have c14b1 : (a1 != 2) = false := bne_eq_false_iff_eq.mpr c14
       clear c14
       by_cases c15 : a2_1 = 0
       ·rw [if_pos c15] at H
        have c15b0 : (a2_1 == 0) = true := beq_iff_eq.mpr c15
        have c15b1 : (a2_1 != 0) = false := bne_eq_false_iff_eq.mpr c15
        clear c15
        simp only [some.injEq, Prod.mk.injEq] at H
        obtain ⟨rfl, rfl⟩ := H
        have hcz16_0 : wc.cell? ⟨gb564, 0, none⟩ = some (.int .u64 a2_0) := (kc_ BK564.out 0).trans rfl
        have hcz16_1 : wc.cell? ⟨gb564, 1, none⟩ = some (.int .u64 a2_1) := (kc_ BK564.out 1).trans rfl
        have hfz16_0 := kf_ BK564.out 0
        have hfz16_1 := kf_ BK564.out 1
        go_wp2
        go_ret2
        exact ⟨by first | rfl | (simp <;> rfl) | (simp [*] <;> rfl), by repeat (first | (with_reducible first | exact HB.out | apply ba_ | apply bn_ | apply bd_ | refine below_set ?_ GE564.out) | exact HB.out)⟩
       ·rw [if_neg c15] at H
        have c15b0 : (a2_1 == 0) = false := beq_eq_false_iff_ne.mpr c15
        have c15b1 : (a2_1 != 0) = true := bne_iff_ne.mpr c15
        simp only [some.injEq, Prod.mk.injEq] at H
        obtain ⟨rfl, rfl⟩ := H
        have hcz17_0 : wc.cell? ⟨gb564, 0, none⟩ = some (.int .u64 a2_0) := (kc_ BK564.out 0).trans rfl
        have hcz17_1 : wc.cell? ⟨gb564, 1, none⟩ = some (.int .u64 a2_1) := (kc_ BK564.out 1).trans rfl
        have hfz17_0 := kf_ BK564.out 0
        have hfz17_1 := kf_ BK564.out 1
        go_wp2
        go_ret2
        exact ⟨by first | rfl | (simp <;> rfl) | (simp [*] <;> rfl), by repeat (first | (with_reducible first | exact HB.out | apply ba_ | apply bn_ | apply bd_ | refine below_set ?_ GE564.out) | exact HB.out)⟩
      ·rw [if_neg c14] at H
       have c14b0 : (a1 == 2) = false := beq_eq_false_iff_ne.mpr c14
       have c14b1 : (a1 != 2) = true := bne_iff_ne.mpr c14
       replace H := bind_eq_some_iff.mp H
       obtain ⟨⟨t567, t568⟩, A180, H⟩ := H
       replace H : (some (t567, t568)) = some (r1, r2) := H
       have A18 := ak_ A180
       clear A180
       simp only [some.injEq, Prod.mk.injEq] at H
       obtain ⟨rfl, rfl⟩ := H
       have hcz19_0 : wc.cell? ⟨gb564, 0, none⟩ = some (.int .u64 a2_0) := (kc_ BK564.out 0).trans rfl
       have hcz19_1 : wc.cell? ⟨gb564, 1, none⟩ = some (.int .u64 a2_1) := (kc_ BK564.out 1).trans rfl
       have hfz19_0 := kf_ BK564.out 0
       have hfz19_1 := kf_ BK564.out 1
       go_wp2_with (first | ((with_reducible refine gate_callee (f := 29) rfl ?_); refine goesL_ (some 36) rfl rfl func29 (by kernel_rfl) rfl #[.int .i64 a0, .agg #[.int .u64 a2_0, .int .u64 a2_1]] rfl (by (try simp only [map_toArray, map_cons, map_nil]); first | done | rfl) ?_; (with_reducible refine (sub_Useful.calls kj3 a0 a2_0 a2_1 t567 t568 _ A18.out).mono ?_); rintro e w20 ⟨rfl, hb⟩; refine ⟨_, rfl, ?_⟩; have n0_ := ak_ (kb_ (g := gb564) (o := .cells #[.int .u64 a2_0, .int .u64 a2_1] 25 (0, 0)) (kl_ BK564) hb); have n1_ := ak_ (bt_ (by repeat (first | (with_reducible first | exact HB.out | apply ba_ | apply bn_ | apply bd_ | refine below_set ?_ GE564.out) | exact HB.out)) hb); clear BK564; clear HB; have BK564 := n0_; have HB := n1_; clear n0_ n1_; (try clear hb); (try clear hk)))
       go_ret2
       exact ⟨by first | rfl | (simp <;> rfl) | (simp [*] <;> rfl), by repeat (first | (with_reducible first | exact HB.out | apply ba_ | apply bn_ | apply bd_ | refine below_set ?_ GE564.out) | exact HB.out)⟩
def medlarref12_May.j0 : Nat → Int → Int → Bool → Int → Int → Option (Bool × Int)
  | 0, _, _, _, _, _ => none
  | k + 1, x0, x1, x17, x570000, x570001 => if x17 = true then (some (false, 1)) else (if x1 = 1 then (some ((x570001 == 0), 0)) else (if x1 = 2 then (if x570001 = 0 then (some ((x570000 == 1), 0)) else (some (true, 0))) else ((medlarref08_Useful.f k x0 x570000 x570001).bind fun bt572 => (some (bt572.1, bt572.2)))))
def medlarref12_May.f (k : Nat) (a0 : Int) (a1 : Int) (a2_0 : Int) (a2_1 : Int) : Option (Bool × Int) := (medlarref12_scheme.f k a0 a1).bind fun t570 => (if t570 = true then ((medlarref08_Check.f k a0 a2_0 a2_1).bind fun t571 => (medlarref12_May.j0 k a0 a1 (t571 != 0) a2_0 a2_1)) else (medlarref12_May.j0 k a0 a1 true a2_0 a2_1))
set_option maxHeartbeats 8000000 in
set_option maxRecDepth 100000 in
theorem medlarref12_May.calls (k : Nat) (a0 : Int) (a1 : Int) (a2_0 : Int) (a2_1 : Int) (r1 : Bool) (r2 : Int) (w : World) (h : medlarref12_May.f k a0 a1 a2_0 a2_1 = some (r1, r2)) :
   Calls Tryz.prog 10 #[.int .i64 a0, .int .i64 a1, .agg #[.int .u64 a2_0, .int .u64 a2_1]] w fun e w' => e = .returned (.tuple #[.bool r1, .int .i64 r2]) ∧ Below w.heap.size w w' := by
  have hu25 := underlying25
  have HB := ak_ (Below.refl w.heap.size w)
  have H : ((medlarref12_scheme.f k a0 a1).bind fun t570 => (if t570 = true then ((medlarref08_Check.f k a0 a2_0 a2_1).bind fun t571 => (medlarref12_May.j0 k a0 a1 (t571 != 0) a2_0 a2_1)) else (medlarref12_May.j0 k a0 a1 true a2_0 a2_1))) = some (r1, r2) := h
  clear h
  have HC4 := ak_ H
  clear H
  go_enter func10, ntmps10
  go_upto_region 1 with (first | ((with_reducible refine gate_dst (N := 5) rfl ?_); refine box_event ?hg (N := 5) ?hd (cs := #[.int .u64 a2_0, .int .u64 a2_1]) (t := 25) ?hr ?_; (case hd => rfl); (case hg => rfl); (case hr => first | (go_simp; done) | (go_simp; rfl)); intro gb569 hg w5 hbox hb; have n0_ := ak_ (bt_ (bl_ HB) hb); have n1_ := ak_ (hbox); have n2_ := ak_ ((gs_ hg HB)); have n3_ := ak_ ((gs_ hg HB)); clear HB; have HB := n0_; have BK569 := n1_; have GW569 := n2_; have GE569 := n3_; clear n0_ n1_ n2_ n3_; clear hb hbox hg))
  (try simp only [Act.put, setIfInBounds_toArray, set_cons_zero, set_cons_succ])
  go_cut [17] (fun v17 wc => ∃ (kq : Nat) (x17_3 : Bool), v17 = .bool x17_3 ∧ Aside0 (medlarref12_May.j0 kq a0 a1 x17_3 a2_0 a2_1 = some (r1, r2)) ∧ Aside0 (kq ≤ k) ∧ Aside0 (wc.heap[gb569]? = some (.cells #[.int .u64 a2_0, .int .u64 a2_1] 25 (0, 0))) ∧ Aside0 (Below w.heap.size w wc))
  case first =>
   have H := HC4.out
   clear HC4
   replace H := bind_eq_some_iff.mp H
   obtain ⟨t570, A60, H⟩ := H
   replace H : (if t570 = true then ((medlarref08_Check.f k a0 a2_0 a2_1).bind fun t571 => (medlarref12_May.j0 k a0 a1 (t571 != 0) a2_0 a2_1)) else (medlarref12_May.j0 k a0 a1 true a2_0 a2_1)) = some (r1, r2) := H
   have A6 := ak_ A60
   clear A60
   by_cases c7 : t570 = true
   ·subst c7
    have H1 : ((medlarref08_Check.f k a0 a2_0 a2_1).bind fun t571 => (medlarref12_May.j0 k a0 a1 (t571 != 0) a2_0 a2_1)) = some (r1, r2) := by rw [if_pos rfl] at H; exact H
    clear H
    have H := H1
    clear H1
    replace H := bind_eq_some_iff.mp H
    obtain ⟨t571, A80, H⟩ := H
    replace H : (medlarref12_May.j0 k a0 a1 (t571 != 0) a2_0 a2_1) = some (r1, r2) := H
    have A8 := ak_ A80
    clear A80
    have H' := ak_ H
    clear H
    go_wp2_with (first | ((with_reducible refine gate_callee (f := 19) rfl ?_); refine goesL_ (some 10) rfl rfl func19 (by kernel_rfl) rfl #[.int .i64 a0, .int .i64 a1] rfl (by (try simp only [map_toArray, map_cons, map_nil]); first | done | rfl) ?_; (with_reducible refine (medlarref12_scheme.calls k a0 a1 true _ A6.out).mono ?_); rintro e w' ⟨rfl, ⟨nd, rfl⟩⟩; refine ⟨_, rfl, ?_⟩; have hcz9_0 : w5.cell? ⟨gb569, 0, none⟩ = some (.int .u64 a2_0) := (kc_ BK569.out 0).trans rfl; have hcz9_1 : w5.cell? ⟨gb569, 1, none⟩ = some (.int .u64 a2_1) := (kc_ BK569.out 1).trans rfl; have hfz9_0 := kf_ BK569.out 0; have hfz9_1 := kf_ BK569.out 1) | (go_at_call 30; (with_reducible refine (medlarref08_Check.calls k a0 a2_0 a2_1 t571 _ A8.out).mono ?_); rintro e w10 ⟨rfl, hb⟩; have n0_ := ak_ (kb_ (g := gb569) (o := .cells #[.int .u64 a2_0, .int .u64 a2_1] 25 (0, 0)) (kl_ BK569) hb); have n1_ := ak_ (bt_ (by repeat (first | (with_reducible first | exact HB.out | apply ba_ | apply bn_ | apply bd_ | refine below_set ?_ GE569.out) | exact HB.out)) hb); clear BK569; clear HB; have BK569 := n0_; have HB := n1_; clear n0_ n1_; (try clear hb); (try clear hk)))
    go_meet
    case rel => exact ⟨_, ((t571 != 0)), (by first | rfl | (simp; done) | (simp [*]; done)), H', ⟨by first | omega | exact Nat.le_refl _⟩, ⟨kl_ BK569⟩, ⟨by repeat (first | (with_reducible first | exact HB.out | apply ba_ | apply bn_ | apply bd_ | refine below_set ?_ GE569.out) | exact HB.out)⟩⟩
   ·replace c7 := Bool.eq_false_iff.mpr c7
    subst c7
    have H1 : (medlarref12_May.j0 k a0 a1 true a2_0 a2_1) = some (r1, r2) := by rw [if_neg (show ¬ (false = true) by decide)] at H; exact H
    clear H
    have H := H1
    clear H1
    have H' := ak_ H
    clear H
    go_wp2_with (first | ((with_reducible refine gate_callee (f := 19) rfl ?_); refine goesL_ (some 10) rfl rfl func19 (by kernel_rfl) rfl #[.int .i64 a0, .int .i64 a1] rfl (by (try simp only [map_toArray, map_cons, map_nil]); first | done | rfl) ?_; (with_reducible refine (medlarref12_scheme.calls k a0 a1 false _ A6.out).mono ?_); rintro e w' ⟨rfl, ⟨nd, rfl⟩⟩; refine ⟨_, rfl, ?_⟩))
    go_meet
    case rel => exact ⟨_, (true), (by first | rfl | (simp; done) | (simp [*]; done)), H', ⟨by first | omega | exact Nat.le_refl _⟩, ⟨kl_ BK569⟩, ⟨by repeat (first | (with_reducible first | exact HB.out | apply ba_ | apply bn_ | apply bd_ | refine below_set ?_ GE569.out) | exact HB.out)⟩⟩
  case rest =>
   clear HC4
   try clear c1
   try clear p2
   try clear c7
   try clear c10
   try clear hcz9_0
   try clear hcz9_1
   try clear hfz9_0
   try clear hfz9_1
   obtain ⟨kq, x17_3, rfl, HA, HJ3, BK569, HB⟩ := hcut
   cases kq with
   | zero => exact absurd HA.out (by simp [medlarref12_May.j0])
   | succ kj3 =>
    have H := HA.out
    clear HA
    simp only [medlarref12_May.j0] at H
    by_cases c11 : x17_3 = true
    ·subst c11
     have H1 : (some (false, 1)) = some (r1, r2) := by rw [if_pos rfl] at H; exact H
     clear H
     have H := H1
     clear H1
     simp only [some.injEq, Prod.mk.injEq] at H
     obtain ⟨rfl, rfl⟩ := H
     go_wp2
     go_ret2
     exact ⟨by first | rfl | (simp <;> rfl) | (simp [*] <;> rfl), by repeat (first | (with_reducible first | exact HB.out | apply ba_ | apply bn_ | apply bd_ | refine below_set ?_ GE569.out) | exact HB.out)⟩
    ·replace c11 := Bool.eq_false_iff.mpr c11
     subst c11
     have H1 : (if a1 = 1 then (some ((a2_1 == 0), 0)) else (if a1 = 2 then (if a2_1 = 0 then (some ((a2_0 == 1), 0)) else (some (true, 0))) else ((medlarref08_Useful.f kj3 a0 a2_0 a2_1).bind fun bt572 => (some (bt572.1, bt572.2))))) = some (r1, r2) := by rw [if_neg (show ¬ (false = true) by decide)] at H; exact H
     clear H
     have H := H1
     clear H1
     by_cases c12 : a1 = 1
     ·rw [if_pos c12] at H
      have c12b0 : (a1 == 1) = true := beq_iff_eq.mpr c12
      have c12b1 : (a1 != 1) = false := bne_eq_false_iff_eq.mpr c12
      clear c12
      simp only [some.injEq, Prod.mk.injEq] at H
      obtain ⟨rfl, rfl⟩ := H
      have hcz13_0 : wc.cell? ⟨gb569, 0, none⟩ = some (.int .u64 a2_0) := (kc_ BK569.out 0).trans rfl
      have hcz13_1 : wc.cell? ⟨gb569, 1, none⟩ = some (.int .u64 a2_1) := (kc_ BK569.out 1).trans rfl
      have hfz13_0 := kf_ BK569.out 0
      have hfz13_1 := kf_ BK569.out 1
      go_wp2
      go_ret2
      exact ⟨by first | rfl | (simp <;> rfl) | (simp [*] <;> rfl), by repeat (first | (with_reducible first | exact HB.out | apply ba_ | apply bn_ | apply bd_ | refine below_set ?_ GE569.out) | exact HB.out)⟩
     ·rw [if_neg c12] at H
      have c12b0 : (a1 == 1) = false := beq_eq_false_iff_ne.mpr c12
      have c12b1 : (a1 != 1) = true := bne_iff_ne.mpr c12
      by_cases c14 : a1 = 2
      ·rw [if_pos c14] at H
       have c14b0 : (a1 == 2) = true := beq_iff_eq.mpr c14
       have c14b1 : (a1 != 2) = false := bne_eq_false_iff_eq.mpr c14
       clear c14
       by_cases c15 : a2_1 = 0
       ·rw [if_pos c15] at H
        have c15b0 : (a2_1 == 0) = true := beq_iff_eq.mpr c15
        have c15b1 : (a2_1 != 0) = false := bne_eq_false_iff_eq.mpr c15
        clear c15
        simp only [some.injEq, Prod.mk.injEq] at H
        obtain ⟨rfl, rfl⟩ := H
        have hcz16_0 : wc.cell? ⟨gb569, 0, none⟩ = some (.int .u64 a2_0) := (kc_ BK569.out 0).trans rfl
        have hcz16_1 : wc.cell? ⟨gb569, 1, none⟩ = some (.int .u64 a2_1) := (kc_ BK569.out 1).trans rfl
        have hfz16_0 := kf_ BK569.out 0
        have hfz16_1 := kf_ BK569.out 1
        go_wp2
        go_ret2
        exact ⟨by first | rfl | (simp <;> rfl) | (simp [*] <;> rfl), by repeat (first | (with_reducible first | exact HB.out | apply ba_ | apply bn_ | apply bd_ | refine below_set ?_ GE569.out) | exact HB.out)⟩
       ·rw [if_neg c15] at H
        have c15b0 : (a2_1 == 0) = false := beq_eq_false_iff_ne.mpr c15
        have c15b1 : (a2_1 != 0) = true := bne_iff_ne.mpr c15
        simp only [some.injEq, Prod.mk.injEq] at H
        obtain ⟨rfl, rfl⟩ := H
        have hcz17_0 : wc.cell? ⟨gb569, 0, none⟩ = some (.int .u64 a2_0) := (kc_ BK569.out 0).trans rfl
        have hcz17_1 : wc.cell? ⟨gb569, 1, none⟩ = some (.int .u64 a2_1) := (kc_ BK569.out 1).trans rfl
        have hfz17_0 := kf_ BK569.out 0
        have hfz17_1 := kf_ BK569.out 1
        go_wp2
        go_ret2
        exact ⟨by first | rfl | (simp <;> rfl) | (simp [*] <;> rfl), by repeat (first | (with_reducible first | exact HB.out | apply ba_ | apply bn_ | apply bd_ | refine below_set ?_ GE569.out) | exact HB.out)⟩
      ·rw [if_neg c14] at H
       have c14b0 : (a1 == 2) = false := beq_eq_false_iff_ne.mpr c14
       have c14b1 : (a1 != 2) = true := bne_iff_ne.mpr c14
       replace H := bind_eq_some_iff.mp H
       obtain ⟨⟨t572, t573⟩, A180, H⟩ := H
       replace H : (some (t572, t573)) = some (r1, r2) := H
       have A18 := ak_ A180
       clear A180
       simp only [some.injEq, Prod.mk.injEq] at H
       obtain ⟨rfl, rfl⟩ := H
       have hcz19_0 : wc.cell? ⟨gb569, 0, none⟩ = some (.int .u64 a2_0) := (kc_ BK569.out 0).trans rfl
       have hcz19_1 : wc.cell? ⟨gb569, 1, none⟩ = some (.int .u64 a2_1) := (kc_ BK569.out 1).trans rfl
       have hfz19_0 := kf_ BK569.out 0
       have hfz19_1 := kf_ BK569.out 1
       go_wp2_with (first | ((with_reducible refine gate_callee (f := 31) rfl ?_); refine goesL_ (some 35) rfl rfl func31 (by kernel_rfl) rfl #[.int .i64 a0, .agg #[.int .u64 a2_0, .int .u64 a2_1]] rfl (by (try simp only [map_toArray, map_cons, map_nil]); first | done | rfl) ?_; (with_reducible refine (medlarref08_Useful.calls kj3 a0 a2_0 a2_1 t572 t573 _ A18.out).mono ?_); rintro e w20 ⟨rfl, hb⟩; refine ⟨_, rfl, ?_⟩; have n0_ := ak_ (kb_ (g := gb569) (o := .cells #[.int .u64 a2_0, .int .u64 a2_1] 25 (0, 0)) (kl_ BK569) hb); have n1_ := ak_ (bt_ (by repeat (first | (with_reducible first | exact HB.out | apply ba_ | apply bn_ | apply bd_ | refine below_set ?_ GE569.out) | exact HB.out)) hb); clear BK569; clear HB; have BK569 := n0_; have HB := n1_; clear n0_ n1_; (try clear hb); (try clear hk)))
       go_ret2
       exact ⟨by first | rfl | (simp <;> rfl) | (simp [*] <;> rfl), by repeat (first | (with_reducible first | exact HB.out | apply ba_ | apply bn_ | apply bd_ | refine below_set ?_ GE569.out) | exact HB.out)⟩
def layer_Pairs.l0 : Nat → Int → Int → Int → Int → Int → Option (Int × Int)
  | 0, _, _, _, _, _ => none
  | k + 1, x0, x2, x4, x16, x17 => if x17 < x16 then (if x4 = 0 then (none) else (if (Int.tmod x17 x4) = 0 then (layer_Pairs.l0 k x0 (wrap64 (x2 + (wrap64 (x0 - x17)))) x4 x16 (wrap64 (x17 + 1))) else (layer_Pairs.l0 k x0 (wrap64 (x2 + (wrap64 ((mn (wrap64 ((wrap64 ((wrap64 (Int.tdiv x17 x4)) + 1)) * x4)) x0) - x17)))) x4 x16 (wrap64 (x17 + 1))))) else (some (x2, 0))
def layer_Pairs.f (k : Nat) (a0 : Int) : Option (Int × Int) := (sub_Step.f k a0).bind fun bt574 => (if bt574.2 = 0 then (layer_Pairs.l0 k a0 0 bt574.1 a0 0) else (some (0, bt574.2)))
theorem layer_Pairs.mono_l : ∀ k, (∀ y0 y1 y2 y3 y4, LeO (layer_Pairs.l0 k y0 y1 y2 y3 y4) (layer_Pairs.l0 (k + 1) y0 y1 y2 y3 y4))
  | 0 => fun _ _ _ _ _ r h => by simp [layer_Pairs.l0] at h
  | k + 1 => by
   have ih0 := layer_Pairs.mono_l k
   ·intro y0 y1 y2 y3 y4
    unfold layer_Pairs.l0
    repeat' first
    | (with_reducible exact ih0 _ _ _ _ _)
    | (with_reducible exact sub_Step.mono _ _)
    | (with_reducible exact LeO.refl _)
    | (with_reducible exact LeO.none _)
    | (with_reducible refine LeO.ite ?_ ?_)
    | (with_reducible refine LeO.bind ?_ (fun _ => ?_))
    | exact ih0 _ _ _ _ _
    | exact sub_Step.mono _ _
    | exact LeO.none _
    | refine LeO.ite ?_ ?_
    | refine LeO.bind ?_ (fun _ => ?_)
set_option maxHeartbeats 8000000 in
set_option maxRecDepth 100000 in
theorem layer_Pairs.calls (k : Nat) (a0 : Int) (r1 : Int) (r2 : Int) (w : World) (h : layer_Pairs.f k a0 = some (r1, r2)) :
   Calls Tryz.prog 11 #[.int .i64 a0] w fun e w' => e = .returned (.tuple #[.int .i64 r1, .int .i64 r2]) ∧ Below w.heap.size w w' := by
  have HB := ak_ (Below.refl w.heap.size w)
  have H : ((sub_Step.f k a0).bind fun bt574 => (if bt574.2 = 0 then (layer_Pairs.l0 k a0 0 bt574.1 a0 0) else (some (0, bt574.2)))) = some (r1, r2) := h
  clear h
  replace H := bind_eq_some_iff.mp H
  obtain ⟨⟨t574, t575⟩, A20, H⟩ := H
  replace H : (if t575 = 0 then (layer_Pairs.l0 k a0 0 t574 a0 0) else (some (0, t575))) = some (r1, r2) := H
  have A2 := ak_ A20
  clear A20
  by_cases c3 : t575 = 0
  ·rw [if_pos c3] at H
   have c3b0 : (t575 == 0) = true := beq_iff_eq.mpr c3
   have c3b1 : (t575 != 0) = false := bne_eq_false_iff_eq.mpr c3
   clear c3
   have H' := ak_ H
   clear H
   go_enter func11, ntmps11
   go_wp2_with (first | ((with_reducible refine gate_callee (f := 32) rfl ?_); refine goesL_ (some 10) rfl rfl func32 (by kernel_rfl) rfl #[.int .i64 a0] rfl (by (try simp only [map_toArray, map_cons, map_nil]); first | done | rfl) ?_; (with_reducible refine (sub_Step.calls k a0 t574 t575 _ A2.out).mono ?_); rintro e w' ⟨rfl, ⟨nd, rfl⟩⟩; refine ⟨_, rfl, ?_⟩))
   go_loopg [2, 17] k (fun kq v2 v17 w' => ∃ (x2_1 : Int) (x17_1 : Int), v2 = .int .i64 x2_1 ∧ v17 = .int .i64 x17_1 ∧ Aside0 (layer_Pairs.l0 kq a0 x2_1 t574 a0 x17_1 = some (r1, r2)) ∧ Aside0 (kq ≤ k) ∧ Aside0 (Below w.heap.size w w'))
   case atStart => exact ⟨(0), (0), (by first | rfl | (simp; done) | (simp [*]; done)), (by first | rfl | (simp; done) | (simp [*]; done)), H', ⟨Nat.le_refl _⟩, ⟨bl_ HB⟩⟩
   case round =>
    clear H'
    try clear c1
    try clear p2
    try clear c3
    try clear c3b0
    try clear c3b1
    obtain ⟨x2_1, x17_1, rfl, rfl, HA, HK1, HB⟩ := hrel
    cases gk with
    | zero => exact absurd HA.out (by simp [layer_Pairs.l0])
    | succ k1 =>
     have H := HA.out
     clear HA
     simp only [layer_Pairs.l0] at H
     by_cases c4 : x17_1 < a0
     ·rw [if_pos c4] at H
      have c4b0 := decide_eq_true c4
      clear c4
      by_cases c5 : t574 = 0
      ·rw [if_pos c5] at H
       exact absurd H (by simp)
      ·rw [if_neg c5] at H
       have c5b0 : (t574 == 0) = false := beq_eq_false_iff_ne.mpr c5
       have c5b1 : (t574 != 0) = true := bne_iff_ne.mpr c5
       obtain ⟨ji6, hji6⟩ : ∃ j_ : Int, (mn (wrap64 ((wrap64 ((wrap64 (Int.tdiv x17_1 t574)) + 1)) * t574)) a0) = j_ := ⟨_, rfl⟩
       replace H : (if (Int.tmod x17_1 t574) = 0 then (layer_Pairs.l0 k1 a0 (wrap64 (x2_1 + (wrap64 (a0 - x17_1)))) t574 a0 (wrap64 (x17_1 + 1))) else (layer_Pairs.l0 k1 a0 (wrap64 (x2_1 + (wrap64 ((ji6) - x17_1)))) t574 a0 (wrap64 (x17_1 + 1)))) = some (r1, r2) := by first | (rw [hji6] at H; exact H) | (simp only [hji6] at H ⊢; exact H)
       have hji6_ : (if a0 < (wrap64 ((wrap64 ((wrap64 (Int.tdiv x17_1 t574)) + 1)) * t574)) then a0 else (wrap64 ((wrap64 ((wrap64 (Int.tdiv x17_1 t574)) + 1)) * t574))) = ji6 := hji6
       by_cases c7 : (Int.tmod x17_1 t574) = 0
       ·rw [if_pos c7] at H
        have c7b0 : ((Int.tmod x17_1 t574) == 0) = true := beq_iff_eq.mpr c7
        have c7b1 : ((Int.tmod x17_1 t574) != 0) = false := bne_eq_false_iff_eq.mpr c7
        clear c7
        have H' := ak_ H
        clear H
        go_wp2
        go_roundg k1
        case measure => have := HK1.out; omega
        case rel => exact ⟨(wrap64 (x2_1 + (wrap64 (a0 - x17_1)))), (wrap64 (x17_1 + 1)), (by first | rfl | (simp; done) | (simp [*]; done)), (by first | rfl | (simp; done) | (simp [*]; done)), H', ⟨by have := HK1.out; omega⟩, ⟨bl_ HB⟩⟩
       ·rw [if_neg c7] at H
        have c7b0 : ((Int.tmod x17_1 t574) == 0) = false := beq_eq_false_iff_ne.mpr c7
        have c7b1 : ((Int.tmod x17_1 t574) != 0) = true := bne_iff_ne.mpr c7
        have H' := ak_ H
        clear H
        go_wp2
        go_roundg k1
        case measure => have := HK1.out; omega
        case rel => exact ⟨(wrap64 (x2_1 + (wrap64 ((ji6) - x17_1)))), (wrap64 (x17_1 + 1)), (by first | rfl | (simp; done) | (simp only [← hji6] <;> (first | rfl | simp)) | (simp [*]; done)), (by first | rfl | (simp; done) | (simp [*]; done)), H', ⟨by have := HK1.out; omega⟩, ⟨bl_ HB⟩⟩
     ·rw [if_neg c4] at H
      have c4b0 := decide_eq_false c4
      clear c4
      simp only [some.injEq, Prod.mk.injEq] at H
      obtain ⟨rfl, rfl⟩ := H
      go_wp2
      go_ret2
      exact ⟨by first | rfl | (simp <;> rfl) | (simp [*] <;> rfl), bl_ HB⟩
  ·rw [if_neg c3] at H
   have c3b0 : (t575 == 0) = false := beq_eq_false_iff_ne.mpr c3
   have c3b1 : (t575 != 0) = true := bne_iff_ne.mpr c3
   simp only [some.injEq, Prod.mk.injEq] at H
   obtain ⟨rfl, rfl⟩ := H
   go_enter func11, ntmps11
   go_wp2_with (first | ((with_reducible refine gate_callee (f := 32) rfl ?_); refine goesL_ (some 10) rfl rfl func32 (by kernel_rfl) rfl #[.int .i64 a0] rfl (by (try simp only [map_toArray, map_cons, map_nil]); first | done | rfl) ?_; (with_reducible refine (sub_Step.calls k a0 t574 t575 _ A2.out).mono ?_); rintro e w' ⟨rfl, ⟨nd, rfl⟩⟩; refine ⟨_, rfl, ?_⟩))
   go_ret2
   exact ⟨by first | rfl | (simp <;> rfl) | (simp [*] <;> rfl), bl_ HB⟩
mutual
def medlarref12_Pairs.l0 : Nat → Int → Int → List Int → List Int → Int → Int → Option (Int × Int)
  | 0, _, _, _, _, _, _ => none
  | k + 1, x0, x6, x7, x24, x25, x26 => if x26 < x25 then (if 0 ≤ x26 then (if x26 < (x24.length : Int) then (if 0 ≤ (wrap64 (x26 + 1)) then (if (wrap64 (x26 + 1)) ≤ (x7.length : Int) then ((some (x7.drop ((wrap64 (x26 + 1)) : Int).toNat : List Int)).bind fun y582 => (medlarref12_Pairs.l1 k x0 x6 x7 (rd x24 x26) x24 x25 x26 y582 (y582.length : Int) 0)) else (none)) else (none)) else (none)) else (none)) else (some (x6, 0))
def medlarref12_Pairs.l1 : Nat → Int → Int → List Int → Int → List Int → Int → Int → List Int → Int → Int → Option (Int × Int)
  | 0, _, _, _, _, _, _, _, _, _, _ => none
  | k + 1, x0, x6, x7, x9, x24, x25, x26, x34, x35, x36 => if x36 < x35 then (if 0 ≤ x36 then (if x36 < (x34.length : Int) then ((medlarref08_Useful.f k x0 x9 (IntKind.u64.wrap ((rd x34 x36) + 1))).bind fun bt587 => (if bt587.1 = true then (medlarref12_Pairs.l1 k x0 (wrap64 (x6 + 1)) x7 x9 x24 x25 x26 x34 x35 (wrap64 (x36 + 1))) else (medlarref12_Pairs.l1 k x0 x6 x7 x9 x24 x25 x26 x34 x35 (wrap64 (x36 + 1))))) else (none)) else (none)) else (medlarref12_Pairs.l0 k x0 x6 x7 x24 x25 (wrap64 (x26 + 1)))
end
def medlarref12_Pairs.f (k : Nat) (a0 : Int) : Option (Int × Int) := (medlarref01_Leaf.f k a0 0).bind fun bt576 => (if bt576.2 = 0 then ((medlarref01_Chain.f k bt576.1).bind fun t578 => (medlarref12_Pairs.l0 k a0 0 t578 t578 (t578.length : Int) 0)) else (some (0, bt576.2)))
set_option maxHeartbeats 8000000 in
set_option maxRecDepth 100000 in
theorem medlarref12_Pairs.calls (k : Nat) (a0 : Int) (r1 : Int) (r2 : Int) (w : World) (h : medlarref12_Pairs.f k a0 = some (r1, r2)) :
   Calls Tryz.prog 12 #[.int .i64 a0] w fun e w' => e = .returned (.tuple #[.int .i64 r1, .int .i64 r2]) ∧ Below w.heap.size w w' := by
  have hu25 := underlying25
  have HB := ak_ (Below.refl w.heap.size w)
  have H : ((medlarref01_Leaf.f k a0 0).bind fun bt576 => (if bt576.2 = 0 then ((medlarref01_Chain.f k bt576.1).bind fun t578 => (medlarref12_Pairs.l0 k a0 0 t578 t578 (t578.length : Int) 0)) else (some (0, bt576.2)))) = some (r1, r2) := h
  clear h
  replace H := bind_eq_some_iff.mp H
  obtain ⟨⟨t576, t577⟩, A20, H⟩ := H
  replace H : (if t577 = 0 then ((medlarref01_Chain.f k t576).bind fun t578 => (medlarref12_Pairs.l0 k a0 0 t578 t578 (t578.length : Int) 0)) else (some (0, t577))) = some (r1, r2) := H
  have A2 := ak_ A20
  clear A20
  by_cases c3 : t577 = 0
  ·rw [if_pos c3] at H
   have c3b0 : (t577 == 0) = true := beq_iff_eq.mpr c3
   have c3b1 : (t577 != 0) = false := bne_eq_false_iff_eq.mpr c3
   clear c3
   replace H := bind_eq_some_iff.mp H
   obtain ⟨t578, A40, H⟩ := H
   replace H : (medlarref12_Pairs.l0 k a0 0 t578 t578 (t578.length : Int) 0) = some (r1, r2) := H
   have A4 := ak_ A40
   clear A40
   have H' := ak_ H
   clear H
   go_enter func12, ntmps12
   go_wp2_with (first | ((with_reducible refine gate_callee (f := 33) rfl ?_); refine goesL_ (some 16) rfl rfl func33 (by kernel_rfl) rfl #[.int .i64 a0, .int .u64 0] rfl (by (try simp only [map_toArray, map_cons, map_nil]); first | done | rfl) ?_; (with_reducible refine (medlarref01_Leaf.calls k a0 0 t576 t577 _ A2.out).mono ?_); rintro e w' ⟨rfl, ⟨nd, rfl⟩⟩; refine ⟨_, rfl, ?_⟩) | ((with_reducible refine gate_callee (f := 34) rfl ?_); refine goesL_ (some 23) rfl rfl func34 (by kernel_rfl) rfl #[.int .u64 t576] rfl (by (try simp only [map_toArray, map_cons, map_nil]); first | done | rfl) ?_; (with_reducible refine (medlarref01_Chain.calls k t576 t578 _ A4.out).mono ?_); rintro e w5 ⟨v579, rfl, ho0, hb⟩; refine ⟨_, rfl, ?_⟩; have n0_ := ak_ (Kd.R_lower ho0 (bz_ (bl_ HB))); have n1_ := ak_ (bt_ (bl_ HB) hb); clear HB; have HO580 := n0_; have HB := n1_; clear n0_ n1_; (try clear hb); (try clear hk); (try clear ho0); obtain ⟨Ao6, co6, eo6⟩ := Kd.R_slice HO580.out; subst eo6))
   go_loopg [6, 26] k (fun kq v6 v26 w' => ∃ (x6_1 : Int) (x26_1 : Int), v6 = .int .i64 x6_1 ∧ v26 = .int .i64 x26_1 ∧ Aside0 (medlarref12_Pairs.l0 kq a0 x6_1 t578 t578 (t578.length : Int) x26_1 = some (r1, r2)) ∧ Aside0 (kq ≤ k) ∧ Aside0 (Kd.R (Kd.int .u64) 23 w' w.heap.size (fun _ => True) (.slice Ao6 t578.length co6) t578) ∧ Aside0 (Kd.R (Kd.int .u64) 23 w' w.heap.size (fun _ => True) (.slice Ao6 t578.length co6) t578) ∧ Aside0 (Below w.heap.size w w'))
   case atStart => exact ⟨(0), (0), (by first | rfl | (simp; done) | (simp [*]; done)), (by first | rfl | (simp; done) | (simp [*]; done)), H', ⟨Nat.le_refl _⟩, ⟨rl_ HO580⟩, ⟨rl_ HO580⟩, ⟨bl_ HB⟩⟩
   case round =>
    clear H'
    try clear c1
    try clear p2
    try clear c3
    try clear c3b0
    try clear c3b1
    obtain ⟨x6_1, x26_1, rfl, rfl, HA, HK1, HO_7, HO_24, HB⟩ := hrel
    cases gk with
    | zero => exact absurd HA.out (by simp [medlarref12_Pairs.l0])
    | succ k1 =>
     have H := HA.out
     clear HA
     simp only [medlarref12_Pairs.l0] at H
     by_cases c7 : x26_1 < (t578.length : Int)
     ·rw [if_pos c7] at H
      have c7b0 := decide_eq_true c7
      clear c7
      by_cases c8 : 0 ≤ x26_1
      ·rw [if_pos c8] at H
       have c8b0 := decide_eq_true c8
       clear c8
       by_cases c9 : x26_1 < (t578.length : Int)
       ·rw [if_pos c9] at H
        have c9b0 := decide_eq_true c9
        clear c9
        obtain ⟨ji10, hji10⟩ : ∃ j_ : Int, (wrap64 (x26_1 + 1)) = j_ := ⟨_, rfl⟩
        replace H : (if 0 ≤ (ji10) then (if (ji10) ≤ (t578.length : Int) then ((some (t578.drop ((ji10) : Int).toNat : List Int)).bind fun y582 => (medlarref12_Pairs.l1 k1 a0 x6_1 t578 (rd t578 x26_1) t578 (t578.length : Int) x26_1 y582 (y582.length : Int) 0)) else (none)) else (none)) = some (r1, r2) := by first | (rw [hji10] at H; exact H) | (simp only [hji10] at H ⊢; exact H)
        have hji10w : (IntKind.i64.wrap (x26_1 + 1)) = ji10 := (i64_w _).trans hji10
        by_cases c11 : 0 ≤ (ji10)
        ·rw [if_pos c11] at H
         have c11b0 := eq_true c11
         have c11b1 := decide_eq_true c11
         clear c11
         by_cases c12 : (ji10) ≤ (t578.length : Int)
         ·rw [if_pos c12] at H
          have c12b0 := eq_true c12
          have c12b1 := decide_eq_true c12
          clear c12
          obtain ⟨y582, hy582⟩ : ∃ y_ : List Int, y_ = (t578.drop ((ji10) : Int).toNat) := ⟨_, rfl⟩
          replace H : (medlarref12_Pairs.l1 k1 a0 x6_1 t578 (rd t578 x26_1) t578 (t578.length : Int) x26_1 y582 (y582.length : Int) 0) = some (r1, r2) := by first | (rw [hy582]; with_reducible exact H) | (have H2_ := (Option.bind_some _ _).symm.trans H; rw [hy582]; with_reducible exact H2_) | (have H2_ := (Option.bind_some _ _).symm.trans H; with_reducible exact H2_) | with_reducible exact H | (rw [hy582]; exact H) | exact H
          have Ny582 := ak_ hy582
          clear hy582
          have H' := ak_ H
          clear H
          have p581 : 0 ≤ (x26_1 : Int) := od_ (by first | (with_reducible assumption) | assumption)
          have q581 : x26_1 < (t578.length : Int) := od_ (by first | (with_reducible assumption) | assumption)
          obtain ⟨ad581, e581, hx581_0⟩ := Kd.at_int (Kd.R_reads' HO_24.out).2.2 x26_1 p581 q581
          cases e581
          replace p581 := eq_true p581
          replace q581 := eq_true q581
          have q13 : ((ji10) : Int) ≤ ((t578.length : Int) : Int) := od_ (by first | (with_reducible assumption) | assumption)
          obtain ⟨i013, hi013, _, hsz13, _⟩ := info_parts info23
          have hroom13 : t578.length ≤ co6 := (Kd.R_reads' HO_7.out).2.1
          have hC13 : Kd.C (Kd.int .u64) _ (some ad581) t578.length t578 := (Kd.R_reads' HO_7.out).2.2
          have q013 : (0 : Int) ≤ ((ji10) : Int) := od_ (by first | (with_reducible assumption) | assumption)
          have hcut13 := cut_from (P := Tryz.prog) 22 23 .i64 underlying22 hi013 1 hsz13 (some ad581) t578.length co6 (ji10) q013 q13
          have hr13 := Kd.C_drop (m := ((ji10) : Int).toNat) (c := co6) hC13 (by omega) hroom13
          obtain ⟨A13, hA13⟩ : ∃ A1, A1 = (if co6 = ((ji10) : Int).toNat then (some ad581) else ((some ad581) : Option Addr).map (·.add (((ji10) : Int).toNat * 1))) := ⟨_, rfl⟩
          obtain ⟨c13, hc13⟩ : ∃ c1, c1 = co6 - ((ji10) : Int).toNat := ⟨_, rfl⟩
          have hy13 : y582.length = t578.length - ((ji10) : Int).toNat := (by rw [Ny582.out, List.length_drop] <;> omega)
          rw [show (t578).drop ((ji10) : Int).toNat = y582 from Ny582.out.symm] at hr13
          replace hr13 : Kd.C (Kd.int .u64) _ A13 y582.length y582 := (by rw [hA13]; exact hr13)
          rw [← hy13, ← hA13, ← hc13] at hcut13
          have HR585 := ak_ hr13
          have HC585 := ak_ (show y582.length ≤ c13 from by rw [hy13, hc13]; exact Nat.sub_le_sub_right hroom13 _)
          clear hr13 hC13 hroom13 hi013 hsz13 hc13
          have KY13 := ak_ hy13
          have KA13 := ak_ hA13
          clear hy13 hA13
          have KL13 := ak_ (show ((ji10) : Int).toNat ≤ t578.length from by omega)
          replace q13 := eq_true q13
          go_wp2
          go_loopg [6, 36] k1 (fun kq v6 v36 w' => ∃ (x6_2 : Int) (x36_2 : Int), v6 = .int .i64 x6_2 ∧ v36 = .int .i64 x36_2 ∧ Aside0 (medlarref12_Pairs.l1 kq a0 x6_2 t578 (rd t578 x26_1) t578 (t578.length : Int) x26_1 y582 (y582.length : Int) x36_2 = some (r1, r2)) ∧ Aside0 (kq ≤ k1) ∧ Aside0 (Kd.R (Kd.int .u64) 23 w' w.heap.size (fun _ => True) (.slice (some ad581) t578.length co6) t578) ∧ Aside0 (Kd.R (Kd.int .u64) 23 w' w.heap.size (fun _ => True) (.slice (some ad581) t578.length co6) t578) ∧ Aside0 (Kd.C (Kd.int .u64) w' A13 y582.length y582) ∧ Aside0 (Below w.heap.size w w'))
          case atStart => exact ⟨(x6_1), (0), (by first | rfl | (simp; done) | (simp [*]; done)), (by first | rfl | (simp; done) | (simp [*]; done)), H', ⟨Nat.le_refl _⟩, ⟨rl_ HO_7⟩, ⟨rl_ HO_24⟩, ⟨by repeat (first | (with_reducible exact HR585.out) | (with_reducible refine Kd.C_alloc ?_ _) | (with_reducible refine Kd.C_drewN ?_ _) | (with_reducible refine Kd.C_drew ?_) | exact HR585.out)⟩, ⟨bl_ HB⟩⟩
          case round =>
           clear H'
           try clear c1
           try clear q1
           try clear p2
           try clear c3
           try clear c3b0
           try clear c3b1
           try clear p5
           try clear q5
           try clear hx5
           try clear p6
           try clear c7
           try clear c7b0
           try clear c8
           try clear c8b0
           try clear c9
           try clear c9b0
           try clear c11
           try clear c11b0
           try clear c11b1
           try clear c12
           try clear c12b0
           try clear c12b1
           try clear c13
           try clear q13
           try clear hx581_0
           try clear p2
           try clear p581
           try clear q013
           try clear q13
           try clear q581
           obtain ⟨x6_2, x36_2, rfl, rfl, HA, HK2, HO_7, HO_24, HR585, HB⟩ := hrel
           cases gk with
           | zero => exact absurd HA.out (by simp [medlarref12_Pairs.l1])
           | succ k2 =>
            have H := HA.out
            clear HA
            simp only [medlarref12_Pairs.l1] at H
            by_cases c14 : x36_2 < (y582.length : Int)
            ·rw [if_pos c14] at H
             have c14b0 := decide_eq_true c14
             clear c14
             by_cases c15 : 0 ≤ x36_2
             ·rw [if_pos c15] at H
              have c15b0 := decide_eq_true c15
              clear c15
              by_cases c16 : x36_2 < (y582.length : Int)
              ·rw [if_pos c16] at H
               have c16b0 := decide_eq_true c16
               clear c16
               replace H := bind_eq_some_iff.mp H
               obtain ⟨⟨t587, t588⟩, A170, H⟩ := H
               replace H : (if t587 = true then (medlarref12_Pairs.l1 k2 a0 (wrap64 (x6_2 + 1)) t578 (rd t578 x26_1) t578 (t578.length : Int) x26_1 y582 (y582.length : Int) (wrap64 (x36_2 + 1))) else (medlarref12_Pairs.l1 k2 a0 x6_2 t578 (rd t578 x26_1) t578 (t578.length : Int) x26_1 y582 (y582.length : Int) (wrap64 (x36_2 + 1)))) = some (r1, r2) := H
               have A17 := ak_ A170
               clear A170
               by_cases c18 : t587 = true
               ·subst c18
                have H1 : (medlarref12_Pairs.l1 k2 a0 (wrap64 (x6_2 + 1)) t578 (rd t578 x26_1) t578 (t578.length : Int) x26_1 y582 (y582.length : Int) (wrap64 (x36_2 + 1))) = some (r1, r2) := by rw [if_pos rfl] at H; exact H
                clear H
                have H := H1
                clear H1
                have H' := ak_ H
                clear H
                have p586 : 0 ≤ (x36_2 : Int) := od_ (by first | (with_reducible assumption) | assumption)
                have q586 : x36_2 < (y582.length : Int) := od_ (by first | (with_reducible assumption) | assumption)
                obtain ⟨ad586, e586, hx586_0⟩ := Kd.at_int HR585.out x36_2 p586 q586
                cases e586
                replace p586 := eq_true p586
                replace q586 := eq_true q586
                go_wp2_with (first | ((with_reducible refine gate_callee (f := 31) rfl ?_); refine goesL_ (some 46) rfl rfl func31 (by kernel_rfl) rfl #[.int .i64 a0, .agg #[.int .u64 (rd t578 x26_1), .int .u64 (IntKind.u64.wrap ((rd y582 x36_2) + 1))]] rfl (by (try simp only [map_toArray, map_cons, map_nil]); first | done | rfl) ?_; (with_reducible refine (medlarref08_Useful.calls k2 a0 (rd t578 x26_1) (IntKind.u64.wrap ((rd y582 x36_2) + 1)) true t588 _ A17.out).mono ?_); rintro e w19 ⟨rfl, hb⟩; refine ⟨_, rfl, ?_⟩; have n0_ := ak_ (Kd.R_below (rl_ HO_7) hb); have n1_ := ak_ (Kd.R_below (rl_ HO_24) hb); have n2_ := ak_ (Kd.C_below (by repeat (first | (with_reducible exact HR585.out) | (with_reducible refine Kd.C_alloc ?_ _) | (with_reducible refine Kd.C_drewN ?_ _) | (with_reducible refine Kd.C_drew ?_) | exact HR585.out)) hb); have n3_ := ak_ (bt_ (bl_ HB) hb); clear HO_7; clear HO_24; clear HR585; clear HB; have HO_7 := n0_; have HO_24 := n1_; have HR585 := n2_; have HB := n3_; clear n0_ n1_ n2_ n3_; (try clear hb); (try clear hk)))
                go_roundg k2
                case measure => have := HK1.out; have := HK2.out; omega
                case rel => exact ⟨(wrap64 (x6_2 + 1)), (wrap64 (x36_2 + 1)), (by first | rfl | (simp; done) | (simp [*]; done)), (by first | rfl | (simp; done) | (simp [*]; done)), H', ⟨by have := HK1.out; have := HK2.out; omega⟩, ⟨rl_ HO_7⟩, ⟨rl_ HO_24⟩, ⟨by repeat (first | (with_reducible exact HR585.out) | (with_reducible refine Kd.C_alloc ?_ _) | (with_reducible refine Kd.C_drewN ?_ _) | (with_reducible refine Kd.C_drew ?_) | exact HR585.out)⟩, ⟨bl_ HB⟩⟩
               ·replace c18 := Bool.eq_false_iff.mpr c18
                subst c18
                have H1 : (medlarref12_Pairs.l1 k2 a0 x6_2 t578 (rd t578 x26_1) t578 (t578.length : Int) x26_1 y582 (y582.length : Int) (wrap64 (x36_2 + 1))) = some (r1, r2) := by rw [if_neg (show ¬ (false = true) by decide)] at H; exact H
                clear H
                have H := H1
                clear H1
                have H' := ak_ H
                clear H
                have p586 : 0 ≤ (x36_2 : Int) := od_ (by first | (with_reducible assumption) | assumption)
                have q586 : x36_2 < (y582.length : Int) := od_ (by first | (with_reducible assumption) | assumption)
                obtain ⟨ad586, e586, hx586_0⟩ := Kd.at_int HR585.out x36_2 p586 q586
                cases e586
                replace p586 := eq_true p586
                replace q586 := eq_true q586
                go_wp2_with (first | ((with_reducible refine gate_callee (f := 31) rfl ?_); refine goesL_ (some 46) rfl rfl func31 (by kernel_rfl) rfl #[.int .i64 a0, .agg #[.int .u64 (rd t578 x26_1), .int .u64 (IntKind.u64.wrap ((rd y582 x36_2) + 1))]] rfl (by (try simp only [map_toArray, map_cons, map_nil]); first | done | rfl) ?_; (with_reducible refine (medlarref08_Useful.calls k2 a0 (rd t578 x26_1) (IntKind.u64.wrap ((rd y582 x36_2) + 1)) false t588 _ A17.out).mono ?_); rintro e w20 ⟨rfl, hb⟩; refine ⟨_, rfl, ?_⟩; have n0_ := ak_ (Kd.R_below (rl_ HO_7) hb); have n1_ := ak_ (Kd.R_below (rl_ HO_24) hb); have n2_ := ak_ (Kd.C_below (by repeat (first | (with_reducible exact HR585.out) | (with_reducible refine Kd.C_alloc ?_ _) | (with_reducible refine Kd.C_drewN ?_ _) | (with_reducible refine Kd.C_drew ?_) | exact HR585.out)) hb); have n3_ := ak_ (bt_ (bl_ HB) hb); clear HO_7; clear HO_24; clear HR585; clear HB; have HO_7 := n0_; have HO_24 := n1_; have HR585 := n2_; have HB := n3_; clear n0_ n1_ n2_ n3_; (try clear hb); (try clear hk)))
                go_roundg k2
                case measure => have := HK1.out; have := HK2.out; omega
                case rel => exact ⟨(x6_2), (wrap64 (x36_2 + 1)), (by first | rfl | (simp; done) | (simp [*]; done)), (by first | rfl | (simp; done) | (simp [*]; done)), H', ⟨by have := HK1.out; have := HK2.out; omega⟩, ⟨rl_ HO_7⟩, ⟨rl_ HO_24⟩, ⟨by repeat (first | (with_reducible exact HR585.out) | (with_reducible refine Kd.C_alloc ?_ _) | (with_reducible refine Kd.C_drewN ?_ _) | (with_reducible refine Kd.C_drew ?_) | exact HR585.out)⟩, ⟨bl_ HB⟩⟩
              ·rw [if_neg c16] at H
               exact absurd H (by simp)
             ·rw [if_neg c15] at H
              exact absurd H (by simp)
            ·rw [if_neg c14] at H
             have c14b0 := decide_eq_false c14
             clear c14
             have H' := ak_ H
             clear H
             go_wp2
             go_roundg k2
             case measure => have := HK1.out; have := HK2.out; omega
             case rel => exact ⟨(x6_2), (wrap64 (x26_1 + 1)), (by first | rfl | (simp; done) | (simp [*]; done)), (by first | rfl | (simp; done) | (simp [*]; done)), H', ⟨by have := HK1.out; have := HK2.out; omega⟩, ⟨rl_ HO_7⟩, ⟨rl_ HO_24⟩, ⟨bl_ HB⟩⟩
         ·rw [if_neg c12] at H
          exact absurd H (by simp)
        ·rw [if_neg c11] at H
         exact absurd H (by simp)
       ·rw [if_neg c9] at H
        exact absurd H (by simp)
      ·rw [if_neg c8] at H
       exact absurd H (by simp)
     ·rw [if_neg c7] at H
      have c7b0 := decide_eq_false c7
      clear c7
      simp only [some.injEq, Prod.mk.injEq] at H
      obtain ⟨rfl, rfl⟩ := H
      go_wp2
      go_ret2
      exact ⟨by first | rfl | (simp <;> rfl) | (simp [*] <;> rfl), bl_ HB⟩
  ·rw [if_neg c3] at H
   have c3b0 : (t577 == 0) = false := beq_eq_false_iff_ne.mpr c3
   have c3b1 : (t577 != 0) = true := bne_iff_ne.mpr c3
   simp only [some.injEq, Prod.mk.injEq] at H
   obtain ⟨rfl, rfl⟩ := H
   go_enter func12, ntmps12
   go_wp2_with (first | ((with_reducible refine gate_callee (f := 33) rfl ?_); refine goesL_ (some 16) rfl rfl func33 (by kernel_rfl) rfl #[.int .i64 a0, .int .u64 0] rfl (by (try simp only [map_toArray, map_cons, map_nil]); first | done | rfl) ?_; (with_reducible refine (medlarref01_Leaf.calls k a0 0 t576 t577 _ A2.out).mono ?_); rintro e w' ⟨rfl, ⟨nd, rfl⟩⟩; refine ⟨_, rfl, ?_⟩))
   go_ret2
   exact ⟨by first | rfl | (simp <;> rfl) | (simp [*] <;> rfl), bl_ HB⟩
end Go.Proofs.YtmffkfakcbopcaaGreat.MP
