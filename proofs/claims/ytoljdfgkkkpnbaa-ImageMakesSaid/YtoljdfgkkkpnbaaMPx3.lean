-- written by a program of this session (wip/tools/mprint.sh) for this seat
import Derived.Test.YtoljdfgkkkpnbaaMPx0
import Derived.Test.YtoljdfgkkkpnbaaMPx1
import Derived.Test.YtoljdfgkkkpnbaaMPx2
import Derived.WalkMore
import Derived.Carry
namespace Go.Proofs.Ytoljdfgkkkpnbaa.MP
open Go.RowKit Go.Proofs.YtoljdfgkkkpnbaaW.PrintWords Go.Proofs.YtoljdfgkkkpnbaaW.PrintLast Go.Proofs.YtoljdfgkkkpnbaaW.PrintMore
open Option (bind_eq_some_iff some.injEq)
open _root_.Go.Proofs.Try
open List (setIfInBounds_toArray set_cons_zero set_cons_succ map_toArray map_cons map_nil length_drop length_take)
attribute [local go_sem] max2_int min2_int max_two min_two max_three min_three max_four min_four
set_option linter.unusedVariables false
set_option linter.unusedSimpArgs false
attribute [local go_sem high] eqA29
def bA3 (k n : Nat) : Array Bool := (Array.range n).map fun i => decide (i < k)
mutual
def store_Pairs.j0 : Nat → Int → Int → Int → Int → Bool → Option ((List (S39)) × Int)
  | 0, _, _, _, _, _ => none
  | k + 1, x0, x1, x8, x10, x36 => if x36 = true then (some (([] : List (S39)), 1)) else (if 0 ≤ x8 then (if (x8 : Int).toNat ≤ 17592186044416 then ((some (List.replicate 0 z39 : List (S39))).bind fun y172 => (if x1 = 1 then (store_Pairs.l0 k x0 x10 y172 (wrap64 (x0 + 1)) 0) else (if y172.length < 8796093022208 then (store_Pairs.l1 k x0 x1 x10 (y172 ++ [(⟨1, 0⟩ : S39)]) x0 0) else (none)))) else (none)) else (none))
def store_Pairs.l0 : Nat → Int → Int → List (S39) → Int → Int → Option ((List (S39)) × Int)
  | 0, _, _, _, _, _ => none
  | k + 1, x0, x10, x12, x42, x43 => if x43 < x42 then (if 0 ≤ (wrap64 (x0 - x43)) then (if x12.length < 8796093022208 then (store_Pairs.l0 k x0 x10 (x12 ++ [(⟨shr .u64 x10 (wrap64 (x0 - x43)), 0⟩ : S39)]) x42 (wrap64 (x43 + 1))) else (none)) else (none)) else (some (x12, 0))
def store_Pairs.l1 : Nat → Int → Int → Int → List (S39) → Int → Int → Option ((List (S39)) × Int)
  | 0, _, _, _, _, _, _ => none
  | k + 1, x0, x1, x10, x12, x61, x62 => if x62 < x61 then (store_Pairs.l2 k x0 x1 x10 x12 x62 (wrap64 (x62 + 1)) x61 x62) else (some (x12, 0))
def store_Pairs.l2 : Nat → Int → Int → Int → List (S39) → Int → Int → Int → Int → Option ((List (S39)) × Int)
  | 0, _, _, _, _, _, _, _, _ => none
  | k + 1, x0, x1, x10, x12, x14, x15, x61, x62 => if x15 ≤ x0 then (if 0 ≤ (wrap64 (x0 - x14)) then (if 0 ≤ (wrap64 (x0 - x15)) then (if x1 = 3 then ((sub_Useful.f k x0 (shr .u64 x10 (wrap64 (x0 - x14))) (Go.bits .xor .u64 (shr .u64 x10 (wrap64 (x0 - x15))) 1)).bind fun bt182 => (if bt182.2 = 0 then (if bt182.1 = true then (if x12.length < 8796093022208 then (store_Pairs.l2 k x0 x1 x10 (x12 ++ [(⟨shr .u64 x10 (wrap64 (x0 - x14)), Go.bits .xor .u64 (shr .u64 x10 (wrap64 (x0 - x15))) 1⟩ : S39)]) x14 (wrap64 (x15 + 1)) x61 x62) else (none)) else (store_Pairs.l2 k x0 x1 x10 x12 x14 (wrap64 (x15 + 1)) x61 x62)) else (store_Pairs.l2 k x0 x1 x10 x12 x14 (wrap64 (x15 + 1)) x61 x62))) else (if x12.length < 8796093022208 then (store_Pairs.l2 k x0 x1 x10 (x12 ++ [(⟨shr .u64 x10 (wrap64 (x0 - x14)), Go.bits .xor .u64 (shr .u64 x10 (wrap64 (x0 - x15))) 1⟩ : S39)]) x14 (wrap64 (x15 + 1)) x61 x62) else (none))) else (none)) else (none)) else (store_Pairs.l1 k x0 x1 x10 x12 x61 (wrap64 (x62 + 1)))
end
def store_Pairs.f (k : Nat) (a0 : Int) (a1 : Int) (a2 : Int) : Option ((List (S39)) × Int) := (store_Many.f k a0 a1).bind fun bt168 => ((node_Leaf.f a0 a2).bind fun bt170 => (if bt168.2 = 0 then (store_Pairs.j0 k a0 a1 bt168.1 bt170.1 (bt170.2 != 0)) else (store_Pairs.j0 k a0 a1 bt168.1 bt170.1 true)))
theorem store_Pairs.mono_l : ∀ k, (∀ y0 y1 y2 y3 y4, LeO (store_Pairs.j0 k y0 y1 y2 y3 y4) (store_Pairs.j0 (k + 1) y0 y1 y2 y3 y4)) ∧ (∀ y0 y1 y2 y3 y4, LeO (store_Pairs.l0 k y0 y1 y2 y3 y4) (store_Pairs.l0 (k + 1) y0 y1 y2 y3 y4)) ∧ (∀ y0 y1 y2 y3 y4 y5, LeO (store_Pairs.l1 k y0 y1 y2 y3 y4 y5) (store_Pairs.l1 (k + 1) y0 y1 y2 y3 y4 y5)) ∧ (∀ y0 y1 y2 y3 y4 y5 y6 y7, LeO (store_Pairs.l2 k y0 y1 y2 y3 y4 y5 y6 y7) (store_Pairs.l2 (k + 1) y0 y1 y2 y3 y4 y5 y6 y7))
  | 0 => ⟨fun _ _ _ _ _ r h => by simp [store_Pairs.j0] at h, fun _ _ _ _ _ r h => by simp [store_Pairs.l0] at h, fun _ _ _ _ _ _ r h => by simp [store_Pairs.l1] at h, fun _ _ _ _ _ _ _ _ r h => by simp [store_Pairs.l2] at h⟩
  | k + 1 => by
   obtain ⟨ih0, ih1, ih2, ih3⟩ := store_Pairs.mono_l k
   refine ⟨?_, ?_, ?_, ?_⟩
   all_goals intros
   all_goals first | unfold store_Pairs.j0 | unfold store_Pairs.l0 | unfold store_Pairs.l1 | unfold store_Pairs.l2
   all_goals repeat' first | (with_reducible first | exact ih0 .. | exact ih1 .. | exact ih2 .. | exact ih3 .. | exact store_Many.mono .. | exact sub_Useful.mono .. | exact LeO.refl _ | exact LeO.none _ | refine LeO.ite ?_ ?_ | refine LeO.bind ?_ (fun _ => ?_)) | exact ih0 .. | exact ih1 .. | exact ih2 .. | exact ih3 .. | exact store_Many.mono .. | exact sub_Useful.mono .. | refine LeO.ite ?_ ?_ | refine LeO.bind ?_ (fun _ => ?_)
theorem store_Pairs.mono : ∀ a0 a1 a2 k, LeO (store_Pairs.f k a0 a1 a2) (store_Pairs.f (k + 1) a0 a1 a2) := by
  intro a0 a1 a2 k
  obtain ⟨ih0, ih1, ih2, ih3⟩ := store_Pairs.mono_l k
  unfold store_Pairs.f
  repeat' first | (with_reducible first | exact ih0 .. | exact ih1 .. | exact ih2 .. | exact ih3 .. | exact store_Many.mono .. | exact sub_Useful.mono .. | exact LeO.refl _ | exact LeO.none _ | refine LeO.ite ?_ ?_ | refine LeO.bind ?_ (fun _ => ?_)) | exact ih0 .. | exact ih1 .. | exact ih2 .. | exact ih3 .. | exact store_Many.mono .. | exact sub_Useful.mono .. | refine LeO.ite ?_ ?_ | refine LeO.bind ?_ (fun _ => ?_)
def store_Pairs.T20 : Bool × List (List Nat × List Nat) := (true, [([], []), ([], []), ([], []), ([1, 2], [1, 2]), ([0, 3], [0, 3]), ([], []), ([], []), ([], []), ([6, 7], [6, 7]), ([5, 8], [5, 8]), ([9], [9]), ([4, 10], [4, 10]), ([], []), ([12, 11, 0, 1, 2, 3, 4, 5, 6, 7, 8, 9, 10, 11, 12], [11, 12])])
def store_Pairs.B20 : List Nat := [0, 0, 0, 6, 15, 0, 0, 0, 192, 480, 992, 2047, 0, 8191]
theorem store_Pairs.tab20 : rtab .any (opsOf Try.f77 20) = store_Pairs.T20 := by kernel_rfl
theorem store_Pairs.bits20 : waitsOk store_Pairs.T20.2 store_Pairs.B20 = true := by kernel_rfl
set_option maxHeartbeats 8000000 in
set_option maxRecDepth 100000 in
theorem store_Pairs.calls (k : Nat) (a0 : Int) (a1 : Int) (a2 : Int) (r1 : List (S39)) (r2 : Int) (w : World) (h : store_Pairs.f k a0 a1 a2 = some (r1, r2)) :
   Calls Try.prog 77 #[.int .i64 a0, .int .i64 a1, .int .u64 a2] w fun e w' => ∃ v0_ : Value, e = .returned (.tuple #[v0_, .int .i64 r2]) ∧ Kd.R k39 39 w' w.heap.size (fun _ => True) v0_ r1 ∧ Below w.heap.size w w' := by
  have hu39 := underlying39
  have HB := ak_ (Below.refl w.heap.size w)
  have H : ((store_Many.f k a0 a1).bind fun bt168 => ((node_Leaf.f a0 a2).bind fun bt170 => (if bt168.2 = 0 then (store_Pairs.j0 k a0 a1 bt168.1 bt170.1 (bt170.2 != 0)) else (store_Pairs.j0 k a0 a1 bt168.1 bt170.1 true)))) = some (r1, r2) := h
  clear h
  replace H := bind_eq_some_iff.mp H
  obtain ⟨⟨t168, t169⟩, A40, H⟩ := H
  replace H : ((node_Leaf.f a0 a2).bind fun bt170 => (if t169 = 0 then (store_Pairs.j0 k a0 a1 t168 bt170.1 (bt170.2 != 0)) else (store_Pairs.j0 k a0 a1 t168 bt170.1 true))) = some (r1, r2) := H
  have A4 := ak_ A40
  clear A40
  replace H := bind_eq_some_iff.mp H
  obtain ⟨⟨t170, t171⟩, A50, H⟩ := H
  replace H : (if t169 = 0 then (store_Pairs.j0 k a0 a1 t168 t170 (t171 != 0)) else (store_Pairs.j0 k a0 a1 t168 t170 true)) = some (r1, r2) := H
  have A5 := ak_ A50
  clear A50
  have HC6 := ak_ H
  clear H
  go_enter func77, ntmps77
  go_upto_region 3 with (first | ((with_reducible refine gate_callee (f := 40) rfl ?_); refine gl_ (some 22) func40 #[.int .i64 a0, .int .i64 a1] ?_; (with_reducible refine (store_Many.calls k a0 a1 t168 t169 _ A4.out).mono ?_); rintro e w7 ⟨rfl, hb⟩; refine ⟨_, rfl, ?_⟩; replace HB := ak_ (bt_ (bl_ HB) hb); (try clear hb); (try clear hk)) | ((with_reducible refine gate_callee (f := 112) rfl ?_); refine gl_ (some 28) func112 #[.int .i64 a0, .int .u64 a2] ?_; (with_reducible refine (node_Leaf.calls a0 a2 t170 t171 _ A5.out).mono ?_); rintro e w' ⟨rfl, ⟨nd, rfl⟩⟩; refine ⟨_, rfl, ?_⟩))
  (try simp only [Act.put, setIfInBounds_toArray, set_cons_zero, set_cons_succ])
  go_cut [36] (fun v36 wc => ∃ (kq : Nat) (x36_5 : Bool), v36 = .bool x36_5 ∧ Aside0 (store_Pairs.j0 kq a0 a1 t168 t170 x36_5 = some (r1, r2)) ∧ Aside0 (kq ≤ k) ∧ Aside0 (Below w.heap.size w wc))
  case first =>
   have H := HC6.out
   clear HC6
   by_cases c8 : t169 = 0
   ·rw [if_pos c8] at H
    have c8b0 : (t169 == 0) = true := beq_iff_eq.mpr c8
    have c8b1 : (t169 != 0) = false := bne_eq_false_iff_eq.mpr c8
    clear c8
    (first | rw [c8b0] | (simp only [i64_w, i32_w]; rw [c8b0]) | skip)
    have H' := ak_ H
    clear H
    go_wp2
    go_meet
    case rel => exact ⟨_, ((t171 != 0)), rf_, H', ⟨by first | omega | exact Nat.le_refl _⟩, ⟨bl_ HB⟩⟩
   ·rw [if_neg c8] at H
    have c8b0 : (t169 == 0) = false := beq_eq_false_iff_ne.mpr c8
    have c8b1 : (t169 != 0) = true := bne_iff_ne.mpr c8
    (first | rw [c8b0] | (simp only [i64_w, i32_w]; rw [c8b0]) | skip)
    have H' := ak_ H
    clear H
    go_wp2
    go_meet
    case rel => exact ⟨_, (true), rf_, H', ⟨by first | omega | exact Nat.le_refl _⟩, ⟨bl_ HB⟩⟩
  case rest =>
   clear HC6
   try clear c1
   try clear p2
   try clear c4
   try clear c7
   try clear c8
   try clear c8b0
   try clear c8b1
   obtain ⟨kq, x36_5, rfl, HA, HJ5, HB⟩ := hcut
   cases kq with
   | zero => exact absurd HA.out (by simp [store_Pairs.j0])
   | succ kj5 =>
    have H := HA.out
    clear HA
    simp only [store_Pairs.j0] at H
    by_cases c9 : x36_5 = true
    ·subst c9
     have H1 : (some (([] : List (S39)), 1)) = some (r1, r2) := by rw [if_pos rfl] at H; exact H
     clear H
     have H := H1
     clear H1
     simp only [some.injEq, Prod.mk.injEq] at H
     obtain ⟨rfl, rfl⟩ := H
     go_wp2
     go_ret2
     exact ⟨_, by first | rfl | (simp <;> rfl) | (simp [*] <;> rfl), by first | exact Kd.R_nil _ _ _ _ _ | exact Kd.N_nil _ _ _ _ _ | exact Kd.V_nil _ _ _ _ _ | exact Kd.Q_nil _ _ _ _ _ | exact Kd.S_nil _ _ _ _ _, bl_ HB⟩
    ·replace c9 := Bool.eq_false_iff.mpr c9
     subst c9
     have H1 : (if 0 ≤ t168 then (if (t168 : Int).toNat ≤ 17592186044416 then ((some (List.replicate 0 z39 : List (S39))).bind fun y172 => (if a1 = 1 then (store_Pairs.l0 kj5 a0 t170 y172 (wrap64 (a0 + 1)) 0) else (if y172.length < 8796093022208 then (store_Pairs.l1 kj5 a0 a1 t170 (y172 ++ [(⟨1, 0⟩ : S39)]) a0 0) else (none)))) else (none)) else (none)) = some (r1, r2) := by rw [if_neg (show ¬ (false = true) by decide)] at H; exact H
     clear H
     have H := H1
     clear H1
     by_cases c10 : 0 ≤ t168
     ·rw [if_pos c10] at H
      have c10b0 := eq_true c10
      have c10b1 := decide_eq_true c10
      clear c10
      by_cases c11 : (t168 : Int).toNat ≤ 17592186044416
      ·rw [if_pos c11] at H
       have c11b0 := eq_true c11
       have c11b1 := decide_eq_true c11
       clear c11
       obtain ⟨y172, hy172⟩ : ∃ y_ : List (S39), y_ = (List.replicate 0 z39) := ⟨_, rfl⟩
       replace H : (if a1 = 1 then (store_Pairs.l0 kj5 a0 t170 y172 (wrap64 (a0 + 1)) 0) else (if y172.length < 8796093022208 then (store_Pairs.l1 kj5 a0 a1 t170 (y172 ++ [(⟨1, 0⟩ : S39)]) a0 0) else (none))) = some (r1, r2) := by first | (rw [hy172]; with_reducible exact H) | (have H2_ := (Option.bind_some _ _).symm.trans H; rw [hy172]; with_reducible exact H2_) | (have H2_ := (Option.bind_some _ _).symm.trans H; with_reducible exact H2_) | with_reducible exact H | (rw [hy172]; exact H) | exact H
       have Ny172 := ak_ hy172
       clear hy172
       by_cases c12 : a1 = 1
       ·rw [if_pos c12] at H
        have c12b0 : (a1 == 1) = true := beq_iff_eq.mpr c12
        have c12b1 : (a1 != 1) = false := bne_eq_false_iff_eq.mpr c12
        clear c12
        have H' := ak_ H
        clear H
        go_wp2_with (first | ((with_reducible refine gate_dst (N := 38) rfl ?_); refine Kd.R_makeCap k39 _ 39 rfl (N := 38) rfl 108 _ _ rfl t168 rfl rfl underlying108 (.agg #[(.int .u64 0), (.int .u64 0)]) 16 info39 rfl (by decide) (by omega) z39 (ok := fun _ => True) (okp := fun _ => True) (k39_mkM _ _ _ z39 ) (fun _ hk => hk) trivial (od_ (by first | (with_reducible assumption) | assumption)) (Nat.le_trans (Nat.mul_le_mul_right _ (od_ (by first | (with_reducible assumption) | assumption) : t168.toNat ≤ 17592186044416)) (by omega)) (Below.refl _ _) (Nat.le_refl _) ?_; intro v173 w13 ho14 hb hg_ hnew_; clear hg_ hnew_; (first | rw [← Ny172.out] at ho14 | (simp only [Int.reduceToNat] at ho14; rw [← Ny172.out] at ho14)); have HO174 := ak_ (Kd.R_lower ho14 (bz_ (bl_ HB))); replace HB := ak_ (bt_ (bl_ HB) hb); clear hb ho14))
        go_loopg [12, 43] kj5 (fun kq v12 v43 w' => ∃ (x12_2 : List (S39)) (x43_2 : Int), v43 = .int .i64 x43_2 ∧ Aside0 (store_Pairs.l0 kq a0 t170 x12_2 (wrap64 (a0 + 1)) x43_2 = some (r1, r2)) ∧ Aside0 (kq ≤ kj5) ∧ Aside0 (Kd.R k39 39 w' w.heap.size (fun _ => True) v12 x12_2) ∧ Aside0 (Below w.heap.size w w'))
        case atStart => exact ⟨(y172), (0), rf_, H', ⟨Nat.le_refl _⟩, ⟨rl_ HO174⟩, ⟨bl_ HB⟩⟩
        case round =>
         clear H'
         try clear c1
         try clear p2
         try clear c4
         try clear p6
         try clear c7
         try clear c8
         try clear c8b0
         try clear c8b1
         try clear c9
         try clear c10
         try clear c10b0
         try clear c10b1
         try clear c11
         try clear c11b0
         try clear c11b1
         try clear c12
         try clear c12b0
         try clear c12b1
         try clear p2
         obtain ⟨x12_2, x43_2, rfl, HA, HK2, HO_12, HB⟩ := hrel
         cases gk with
         | zero => exact absurd HA.out (by simp [store_Pairs.l0])
         | succ k2 =>
          have H := HA.out
          clear HA
          simp only [store_Pairs.l0] at H
          by_cases c15 : x43_2 < (wrap64 (a0 + 1))
          ·rw [if_pos c15] at H
           have c15b0 := decide_eq_true c15
           clear c15
           obtain ⟨ji16, hji16⟩ : ∃ j_ : Int, (wrap64 (a0 - x43_2)) = j_ := ⟨_, rfl⟩
           replace H : (if 0 ≤ (ji16) then (if x12_2.length < 8796093022208 then (store_Pairs.l0 k2 a0 t170 (x12_2 ++ [(⟨shr .u64 t170 (ji16), 0⟩ : S39)]) (wrap64 (a0 + 1)) (wrap64 (x43_2 + 1))) else (none)) else (none)) = some (r1, r2) := by first | (rw [hji16] at H; exact H) | (simp only [hji16] at H ⊢; exact H)
           have hji16w : (IntKind.i64.wrap (a0 - x43_2)) = ji16 := (i64_w _).trans hji16
           by_cases c17 : 0 ≤ (ji16)
           ·rw [if_pos c17] at H
            have c17b0 := eq_true c17
            have c17b1 := decide_eq_true c17
            clear c17
            obtain ⟨ji18, hji18⟩ : ∃ j_ : Int, (shr .u64 t170 (ji16)) = j_ := ⟨_, rfl⟩
            replace H : (if x12_2.length < 8796093022208 then (store_Pairs.l0 k2 a0 t170 (x12_2 ++ [(⟨ji18, 0⟩ : S39)]) (wrap64 (a0 + 1)) (wrap64 (x43_2 + 1))) else (none)) = some (r1, r2) := by first | (rw [hji18] at H; exact H) | (simp only [hji18] at H ⊢; exact H)
            have hji18_ : (t170 / 2 ^ min (ji16).toNat 64) = ji18 := hji18
            have hji18z : (ji16) ≤ 64 → (t170 / 2 ^ (ji16).toNat) = ji18 := shr_small hji18
            by_cases c19 : x12_2.length < 8796093022208
            ·rw [if_pos c19] at H
             have LMc19 := ak_ c19
             clear c19
             obtain ⟨y175, hy175⟩ : ∃ y_ : List (S39), y_ = (x12_2 ++ [(⟨ji18, 0⟩ : S39)]) := ⟨_, rfl⟩
             replace H : (store_Pairs.l0 k2 a0 t170 y175 (wrap64 (a0 + 1)) (wrap64 (x43_2 + 1))) = some (r1, r2) := by first | (rw [hy175]; with_reducible exact H) | (have H2_ := (Option.bind_some _ _).symm.trans H; rw [hy175]; with_reducible exact H2_) | (have H2_ := (Option.bind_some _ _).symm.trans H; with_reducible exact H2_) | with_reducible exact H | (rw [hy175]; exact H) | exact H
             have Ny175 := ak_ hy175
             clear hy175
             have H' := ak_ H
             clear H
             go_wp2_with (first | ((with_reducible refine gate_builtin (b := .append) (xs := #[.tmp 46, .tmp 53]) rfl ?_); at_builtin; refine Kd.R_append k39 (w0 := w) w.heap.size rfl (.tmp 46) (.tmp 53) 108 39 (.agg #[(.int .u64 0), (.int .u64 0)]) 16 rfl underlying108 info39 rfl (by decide) (by omega) u12 x12_2 (⟨ji18, 0⟩ : S39) [.int .u64 ji18, .int .u64 0] (fun _ => True) (fun _ => False) rfl rfl ?aP (fun _ hk => hk.elim) ?aF ?aO ?aB ?aS ?aL ?_; (case aP => exact k39_mkM _ _ _ (⟨ji18, 0⟩ : S39)); (case aB => exact (bl_ HB)); (case aF => exact (fun _ _ => trivial)); (case aO => exact (rl_ HO_12)); (case aS => exact (bz_ (bl_ HB))); (case aL => have := LMc19.out; omega); intro v176 w20 ho hb hg hat; rw [← Ny175.out] at ho; replace HB := ak_ hb; have HO177 := ak_ ho; clear HO_12; clear ho hb hg hat))
             go_roundg k2
             case measure => have := HJ5.out; have := HK2.out; omega
             case rel => exact ⟨(y175), (wrap64 (x43_2 + 1)), rf_, H', ⟨by have := HJ5.out; have := HK2.out; omega⟩, ⟨rl_ HO177⟩, ⟨bl_ HB⟩⟩
            ·rw [if_neg c19] at H
             exact absurd H (by simp)
           ·rw [if_neg c17] at H
            exact absurd H (by simp)
          ·rw [if_neg c15] at H
           have c15b0 := decide_eq_false c15
           clear c15
           simp only [some.injEq, Prod.mk.injEq] at H
           obtain ⟨rfl, rfl⟩ := H
           go_wp2
           go_ret2
           exact ⟨_, by first | rfl | (simp <;> rfl) | (simp [*] <;> rfl), by (with_reducible repeat (first | apply Kd.R_alloc | apply Kd.R_drewN | apply Kd.R_drew)); exact HO_12.out, bl_ HB⟩
       ·rw [if_neg c12] at H
        have c12b0 : (a1 == 1) = false := beq_eq_false_iff_ne.mpr c12
        have c12b1 : (a1 != 1) = true := bne_iff_ne.mpr c12
        by_cases c21 : y172.length < 8796093022208
        ·rw [if_pos c21] at H
         have LMc21 := ak_ c21
         clear c21
         obtain ⟨y178, hy178⟩ : ∃ y_ : List (S39), y_ = (y172 ++ [(⟨1, 0⟩ : S39)]) := ⟨_, rfl⟩
         replace H : (store_Pairs.l1 kj5 a0 a1 t170 y178 a0 0) = some (r1, r2) := by first | (rw [hy178]; with_reducible exact H) | (have H2_ := (Option.bind_some _ _).symm.trans H; rw [hy178]; with_reducible exact H2_) | (have H2_ := (Option.bind_some _ _).symm.trans H; with_reducible exact H2_) | with_reducible exact H | (rw [hy178]; exact H) | exact H
         have Ny178 := ak_ hy178
         clear hy178
         have H' := ak_ H
         clear H
         go_wp2_with (first | ((with_reducible refine gate_dst (N := 38) rfl ?_); refine Kd.R_makeCap k39 _ 39 rfl (N := 38) rfl 108 _ _ rfl t168 rfl rfl underlying108 (.agg #[(.int .u64 0), (.int .u64 0)]) 16 info39 rfl (by decide) (by omega) z39 (ok := fun _ => True) (okp := fun _ => True) (k39_mkM _ _ _ z39 ) (fun _ hk => hk) trivial (od_ (by first | (with_reducible assumption) | assumption)) (Nat.le_trans (Nat.mul_le_mul_right _ (od_ (by first | (with_reducible assumption) | assumption) : t168.toNat ≤ 17592186044416)) (by omega)) (Below.refl _ _) (Nat.le_refl _) ?_; intro v173 w22 ho23 hb hg_ hnew_; clear hg_ hnew_; (first | rw [← Ny172.out] at ho23 | (simp only [Int.reduceToNat] at ho23; rw [← Ny172.out] at ho23)); have HO174 := ak_ (Kd.R_lower ho23 (bz_ (bl_ HB))); replace HB := ak_ (bt_ (bl_ HB) hb); clear hb ho23) | ((with_reducible refine gate_builtin (b := .append) (xs := #[.tmp 57, .tmp 59]) rfl ?_); at_builtin; refine Kd.R_append k39 (w0 := w) w.heap.size rfl (.tmp 57) (.tmp 59) 108 39 (.agg #[(.int .u64 0), (.int .u64 0)]) 16 rfl underlying108 info39 rfl (by decide) (by omega) v173 y172 (⟨1, 0⟩ : S39) [.int .u64 1, .int .u64 0] (fun _ => True) (fun _ => False) rfl rfl ?aP (fun _ hk => hk.elim) ?aF ?aO ?aB ?aS ?aL ?_; (case aP => exact k39_mkM _ _ _ (⟨1, 0⟩ : S39)); (case aB => exact (bl_ HB)); (case aF => exact (fun _ _ => trivial)); (case aO => exact (rl_ HO174)); (case aS => exact (bz_ (bl_ HB))); (case aL => have := LMc21.out; omega); intro v179 w24 ho hb hg hat; rw [← Ny178.out] at ho; replace HB := ak_ hb; have HO180 := ak_ ho; clear HO174; clear ho hb hg hat))
         go_loopg [12, 62] kj5 (fun kq v12 v62 w' => ∃ (x12_2 : List (S39)) (x62_2 : Int), v62 = .int .i64 x62_2 ∧ Aside0 (store_Pairs.l1 kq a0 a1 t170 x12_2 a0 x62_2 = some (r1, r2)) ∧ Aside0 (kq ≤ kj5) ∧ Aside0 (Kd.R k39 39 w' w.heap.size (fun _ => True) v12 x12_2) ∧ Aside0 (Below w.heap.size w w'))
         case atStart => exact ⟨(y178), (0), rf_, H', ⟨Nat.le_refl _⟩, ⟨rl_ HO180⟩, ⟨bl_ HB⟩⟩
         case round =>
          clear H'
          try clear c1
          try clear c2
          try clear p2
          try clear c4
          try clear p6
          try clear c7
          try clear c8
          try clear c8b0
          try clear c8b1
          try clear c9
          try clear c10
          try clear c10b0
          try clear c10b1
          try clear c11
          try clear c11b0
          try clear c11b1
          try clear c12
          try clear c12b0
          try clear c12b1
          try clear c15
          try clear c15b0
          try clear c17
          try clear c17b0
          try clear c17b1
          try clear c19
          try clear c21
          try clear p2
          try clear p6
          obtain ⟨x12_2, x62_2, rfl, HA, HK2, HO_12, HB⟩ := hrel
          cases gk with
          | zero => exact absurd HA.out (by simp [store_Pairs.l1])
          | succ k2 =>
           have H := HA.out
           clear HA
           simp only [store_Pairs.l1] at H
           by_cases c25 : x62_2 < a0
           ·rw [if_pos c25] at H
            have c25b0 := decide_eq_true c25
            clear c25
            have H' := ak_ H
            clear H
            go_wp2
            go_loopg [12, 15] k2 (fun kq v12 v15 w' => ∃ (x12_3 : List (S39)) (x15_3 : Int), v15 = .int .i64 x15_3 ∧ Aside0 (store_Pairs.l2 kq a0 a1 t170 x12_3 x62_2 x15_3 a0 x62_2 = some (r1, r2)) ∧ Aside0 (kq ≤ k2) ∧ Aside0 (Kd.R k39 39 w' w.heap.size (fun _ => True) v12 x12_3) ∧ Aside0 (Below w.heap.size w w'))
            case atStart => exact ⟨(x12_2), (wrap64 (x62_2 + 1)), rf_, H', ⟨Nat.le_refl _⟩, ⟨rl_ HO_12⟩, ⟨bl_ HB⟩⟩
            case round =>
             clear H'
             try clear c1
             try clear c2
             try clear p2
             try clear c4
             try clear p6
             try clear c7
             try clear c8
             try clear c8b0
             try clear c8b1
             try clear c9
             try clear c10
             try clear c10b0
             try clear c10b1
             try clear c11
             try clear c11b0
             try clear c11b1
             try clear c12
             try clear c12b0
             try clear c12b1
             try clear c15
             try clear c15b0
             try clear c17
             try clear c17b0
             try clear c17b1
             try clear c19
             try clear c21
             try clear c25
             try clear c25b0
             try clear p2
             try clear p6
             obtain ⟨x12_3, x15_3, rfl, HA, HK3, HO_12, HB⟩ := hrel
             cases gk with
             | zero => exact absurd HA.out (by simp [store_Pairs.l2])
             | succ k3 =>
              have H := HA.out
              clear HA
              simp only [store_Pairs.l2] at H
              by_cases c26 : x15_3 ≤ a0
              ·rw [if_pos c26] at H
               have c26b0 := decide_eq_true c26
               clear c26
               obtain ⟨ji27, hji27⟩ : ∃ j_ : Int, (wrap64 (a0 - x62_2)) = j_ := ⟨_, rfl⟩
               replace H : (if 0 ≤ (ji27) then (if 0 ≤ (wrap64 (a0 - x15_3)) then (if a1 = 3 then ((sub_Useful.f k3 a0 (shr .u64 t170 (ji27)) (Go.bits .xor .u64 (shr .u64 t170 (wrap64 (a0 - x15_3))) 1)).bind fun bt182 => (if bt182.2 = 0 then (if bt182.1 = true then (if x12_3.length < 8796093022208 then (store_Pairs.l2 k3 a0 a1 t170 (x12_3 ++ [(⟨shr .u64 t170 (ji27), Go.bits .xor .u64 (shr .u64 t170 (wrap64 (a0 - x15_3))) 1⟩ : S39)]) x62_2 (wrap64 (x15_3 + 1)) a0 x62_2) else (none)) else (store_Pairs.l2 k3 a0 a1 t170 x12_3 x62_2 (wrap64 (x15_3 + 1)) a0 x62_2)) else (store_Pairs.l2 k3 a0 a1 t170 x12_3 x62_2 (wrap64 (x15_3 + 1)) a0 x62_2))) else (if x12_3.length < 8796093022208 then (store_Pairs.l2 k3 a0 a1 t170 (x12_3 ++ [(⟨shr .u64 t170 (ji27), Go.bits .xor .u64 (shr .u64 t170 (wrap64 (a0 - x15_3))) 1⟩ : S39)]) x62_2 (wrap64 (x15_3 + 1)) a0 x62_2) else (none))) else (none)) else (none)) = some (r1, r2) := by first | (rw [hji27] at H; exact H) | (simp only [hji27] at H ⊢; exact H)
               have hji27w : (IntKind.i64.wrap (a0 - x62_2)) = ji27 := (i64_w _).trans hji27
               by_cases c28 : 0 ≤ (ji27)
               ·rw [if_pos c28] at H
                have c28b0 := eq_true c28
                have c28b1 := decide_eq_true c28
                clear c28
                obtain ⟨ji29, hji29⟩ : ∃ j_ : Int, (shr .u64 t170 (ji27)) = j_ := ⟨_, rfl⟩
                replace H : (if 0 ≤ (wrap64 (a0 - x15_3)) then (if a1 = 3 then ((sub_Useful.f k3 a0 (ji29) (Go.bits .xor .u64 (shr .u64 t170 (wrap64 (a0 - x15_3))) 1)).bind fun bt182 => (if bt182.2 = 0 then (if bt182.1 = true then (if x12_3.length < 8796093022208 then (store_Pairs.l2 k3 a0 a1 t170 (x12_3 ++ [(⟨ji29, Go.bits .xor .u64 (shr .u64 t170 (wrap64 (a0 - x15_3))) 1⟩ : S39)]) x62_2 (wrap64 (x15_3 + 1)) a0 x62_2) else (none)) else (store_Pairs.l2 k3 a0 a1 t170 x12_3 x62_2 (wrap64 (x15_3 + 1)) a0 x62_2)) else (store_Pairs.l2 k3 a0 a1 t170 x12_3 x62_2 (wrap64 (x15_3 + 1)) a0 x62_2))) else (if x12_3.length < 8796093022208 then (store_Pairs.l2 k3 a0 a1 t170 (x12_3 ++ [(⟨ji29, Go.bits .xor .u64 (shr .u64 t170 (wrap64 (a0 - x15_3))) 1⟩ : S39)]) x62_2 (wrap64 (x15_3 + 1)) a0 x62_2) else (none))) else (none)) = some (r1, r2) := by first | (rw [hji29] at H; exact H) | (simp only [hji29] at H ⊢; exact H)
                have hji29_ : (t170 / 2 ^ min (ji27).toNat 64) = ji29 := hji29
                have hji29z : (ji27) ≤ 64 → (t170 / 2 ^ (ji27).toNat) = ji29 := shr_small hji29
                obtain ⟨ji30, hji30⟩ : ∃ j_ : Int, (wrap64 (a0 - x15_3)) = j_ := ⟨_, rfl⟩
                replace H : (if 0 ≤ (ji30) then (if a1 = 3 then ((sub_Useful.f k3 a0 (ji29) (Go.bits .xor .u64 (shr .u64 t170 (ji30)) 1)).bind fun bt182 => (if bt182.2 = 0 then (if bt182.1 = true then (if x12_3.length < 8796093022208 then (store_Pairs.l2 k3 a0 a1 t170 (x12_3 ++ [(⟨ji29, Go.bits .xor .u64 (shr .u64 t170 (ji30)) 1⟩ : S39)]) x62_2 (wrap64 (x15_3 + 1)) a0 x62_2) else (none)) else (store_Pairs.l2 k3 a0 a1 t170 x12_3 x62_2 (wrap64 (x15_3 + 1)) a0 x62_2)) else (store_Pairs.l2 k3 a0 a1 t170 x12_3 x62_2 (wrap64 (x15_3 + 1)) a0 x62_2))) else (if x12_3.length < 8796093022208 then (store_Pairs.l2 k3 a0 a1 t170 (x12_3 ++ [(⟨ji29, Go.bits .xor .u64 (shr .u64 t170 (ji30)) 1⟩ : S39)]) x62_2 (wrap64 (x15_3 + 1)) a0 x62_2) else (none))) else (none)) = some (r1, r2) := by first | (rw [hji30] at H; exact H) | (simp only [hji30] at H ⊢; exact H)
                have hji30w : (IntKind.i64.wrap (a0 - x15_3)) = ji30 := (i64_w _).trans hji30
                by_cases c31 : 0 ≤ (ji30)
                ·rw [if_pos c31] at H
                 have c31b0 := eq_true c31
                 have c31b1 := decide_eq_true c31
                 clear c31
                 obtain ⟨ji32, hji32⟩ : ∃ j_ : Int, (shr .u64 t170 (ji30)) = j_ := ⟨_, rfl⟩
                 replace H : (if a1 = 3 then ((sub_Useful.f k3 a0 (ji29) (Go.bits .xor .u64 (ji32) 1)).bind fun bt182 => (if bt182.2 = 0 then (if bt182.1 = true then (if x12_3.length < 8796093022208 then (store_Pairs.l2 k3 a0 a1 t170 (x12_3 ++ [(⟨ji29, Go.bits .xor .u64 (ji32) 1⟩ : S39)]) x62_2 (wrap64 (x15_3 + 1)) a0 x62_2) else (none)) else (store_Pairs.l2 k3 a0 a1 t170 x12_3 x62_2 (wrap64 (x15_3 + 1)) a0 x62_2)) else (store_Pairs.l2 k3 a0 a1 t170 x12_3 x62_2 (wrap64 (x15_3 + 1)) a0 x62_2))) else (if x12_3.length < 8796093022208 then (store_Pairs.l2 k3 a0 a1 t170 (x12_3 ++ [(⟨ji29, Go.bits .xor .u64 (ji32) 1⟩ : S39)]) x62_2 (wrap64 (x15_3 + 1)) a0 x62_2) else (none))) = some (r1, r2) := by first | (rw [hji32] at H; exact H) | (simp only [hji32] at H ⊢; exact H)
                 have hji32_ : (t170 / 2 ^ min (ji30).toNat 64) = ji32 := hji32
                 have hji32z : (ji30) ≤ 64 → (t170 / 2 ^ (ji30).toNat) = ji32 := shr_small hji32
                 by_cases c33 : a1 = 3
                 ·rw [if_pos c33] at H
                  have c33b0 : (a1 == 3) = true := beq_iff_eq.mpr c33
                  have c33b1 : (a1 != 3) = false := bne_eq_false_iff_eq.mpr c33
                  clear c33
                  replace H := bind_eq_some_iff.mp H
                  obtain ⟨⟨t182, t183⟩, A340, H⟩ := H
                  replace H : (if t183 = 0 then (if t182 = true then (if x12_3.length < 8796093022208 then (store_Pairs.l2 k3 a0 a1 t170 (x12_3 ++ [(⟨ji29, Go.bits .xor .u64 (ji32) 1⟩ : S39)]) x62_2 (wrap64 (x15_3 + 1)) a0 x62_2) else (none)) else (store_Pairs.l2 k3 a0 a1 t170 x12_3 x62_2 (wrap64 (x15_3 + 1)) a0 x62_2)) else (store_Pairs.l2 k3 a0 a1 t170 x12_3 x62_2 (wrap64 (x15_3 + 1)) a0 x62_2)) = some (r1, r2) := H
                  have A34 := ak_ A340
                  clear A340
                  by_cases c35 : t183 = 0
                  ·rw [if_pos c35] at H
                   have c35b0 : (t183 == 0) = true := beq_iff_eq.mpr c35
                   have c35b1 : (t183 != 0) = false := bne_eq_false_iff_eq.mpr c35
                   clear c35
                   by_cases c36 : t182 = true
                   ·subst c36
                    have H1 : (if x12_3.length < 8796093022208 then (store_Pairs.l2 k3 a0 a1 t170 (x12_3 ++ [(⟨ji29, Go.bits .xor .u64 (ji32) 1⟩ : S39)]) x62_2 (wrap64 (x15_3 + 1)) a0 x62_2) else (none)) = some (r1, r2) := by rw [if_pos rfl] at H; exact H
                    clear H
                    have H := H1
                    clear H1
                    by_cases c37 : x12_3.length < 8796093022208
                    ·rw [if_pos c37] at H
                     have LMc37 := ak_ c37
                     clear c37
                     obtain ⟨y184, hy184⟩ : ∃ y_ : List (S39), y_ = (x12_3 ++ [(⟨ji29, Go.bits .xor .u64 (ji32) 1⟩ : S39)]) := ⟨_, rfl⟩
                     replace H : (store_Pairs.l2 k3 a0 a1 t170 y184 x62_2 (wrap64 (x15_3 + 1)) a0 x62_2) = some (r1, r2) := by first | (rw [hy184]; with_reducible exact H) | (have H2_ := (Option.bind_some _ _).symm.trans H; rw [hy184]; with_reducible exact H2_) | (have H2_ := (Option.bind_some _ _).symm.trans H; with_reducible exact H2_) | with_reducible exact H | (rw [hy184]; exact H) | exact H
                     have Ny184 := ak_ hy184
                     clear hy184
                     have H' := ak_ H
                     clear H
                     try go_wp2
                     replace HO_12 := ak_ (Kd.R_drew HO_12.out)
                     replace HB := ak_ (bd_ HB.out)
                     refine start_ (n := 14) (S := fun w' => True) (ds := []) #[false, false, false, false, false, false, false, false, false, false, false, false, false, false] (by kernel_rfl) rfl rfl trivial (fun hHeld => ?_); refine with_tabW store_Pairs.tab20 store_Pairs.bits20 (fun HT_ HW_ => ?_)
                     generalize wr.drew = w38 at HO_12 HB hHeld ⊢
                     refine pu_ HT_ 0 (some 72) (bA3 1 14) ?_
                     refine pu_ HT_ 1 (some 73) (bA3 2 14) ?_
                     refine pu_ HT_ 2 (some 74) (bA3 3 14) ?_
                     refine pu_ HT_ 3 (some 75) (bA3 4 14) ?_
                     refine pu_ HT_ 4 (some 76) (bA3 5 14) ?_
                     refine pu_ HT_ 5 (some 77) (bA3 6 14) ?_
                     refine pu_ HT_ 6 (some 78) (bA3 7 14) ?_
                     refine pu_ HT_ 7 (some 79) (bA3 8 14) ?_
                     refine pu_ HT_ 8 (some 80) (bA3 9 14) ?_
                     refine pu_ HT_ 9 (some 81) (bA3 10 14) ?_
                     refine pu_ HT_ 10 (some 82) (bA3 11 14) ?_
                     refine pu_ HT_ 11 (some 83) (bA3 12 14) ?_
                     refine one_ (i := 12) (N := some 16) (bA3 13 14) rfl rfl (one_of HT_.out (by kernel_rfl)) (by decide) (fun K hK => ?_)
                     refine box_step ?hg (N := 16) ?hd (cs := #[.int .u64 0, .int .u64 0]) (t := 39) ?hr ?_; (case hd => rfl); (case hg => rfl); (case hr => first | (go_simp; done) | (go_simp; rfl))
                     intro gb181 hg w39 hbox hb
                     replace HO_12 := ak_ (Kd.R_below (Kd.R_elderB (rl_ HO_12) gb181 (Nat.le_of_eq hg.symm)) hb)
                     have BK181 := ak_ hbox
                     have GW181 := ak_ (gs_ hg HB)
                     have GE181 := ak_ (gs_ hg HB)
                     replace HB := ak_ (bt_ (bl_ HB) hb)
                     clear hb hbox hg
                     refine hK.out _ _ trivial (fun hHeld => ?_)
                     clear hK K
                     refine norm_ (a' := ?_) ?_ ?_
                     rotate_left
                     ·show Act.put _ (some 16) _ = _
                      simp only [Act.put, setIfInBounds_toArray, set_cons_zero, set_cons_succ, i64_w, i32_w]
                      rfl
                     refine one_ (i := 13) (N := none) (bA3 14 14) rfl rfl (one_of HT_.out (by kernel_rfl)) (by decide) (fun K hK => ?_)
                     have hs40 : w39.cell? ⟨gb181, 0, none⟩ = some (.int .u64 0) := (kc_ BK181.out 0).trans rfl
                     have hfs40 := kf_ BK181.out 0
                     have hs41 : w39.cell? ⟨gb181, 1, none⟩ = some (.int .u64 0) := (kc_ BK181.out 1).trans rfl
                     have hfs41 := kf_ BK181.out 1
                     refine skip_ (w1 := ?_) (by rfl) rfl ?_ ?_
                     rotate_left
                     ·go_simp
                      rfl
                     refine hK.out _ _ trivial (fun hHeld => ?_)
                     clear hK K
                     refine done_ (done_of HT_.out (by kernel_rfl)) ?_
                     obtain ⟨hcz42_0, hcz42_1, hfz42_0, hfz42_1⟩ := kc2_ BK181.out
                     try go_wp2_with (first | ((with_reducible refine gate_callee (f := 98) rfl ?_); refine goesL_ (some 89) rfl rfl func98 (by kernel_rfl) rfl #[.int .i64 a0, .agg #[.int .u64 ji29, .int .u64 (Go.bits .xor .u64 (ji32) 1)]] rfl (by (try simp only [map_toArray, map_cons, map_nil]); first | done | (simp only [hji29, hji32]; rfl) | rfl | (simp only [length_drop, length_take]; rfl)) ?_; (with_reducible refine (sub_Useful.calls k3 a0 ji29 (Go.bits .xor .u64 (ji32) 1) true t183 _ A34.out).mono ?_); rintro e w43 ⟨rfl, hb⟩; refine ⟨_, rfl, ?_⟩; replace HO_12 := ak_ (Kd.R_below (by (with_reducible repeat (first | apply Kd.R_alloc | apply Kd.R_drewN | apply Kd.R_drew)); exact (Kd.R_mono (Kd.R_far (p := ⟨gb181, 1, none⟩) (Kd.R_far (p := ⟨gb181, 0, none⟩) (Kd.R_mono HO_12.out (fun k_ hk => (⟨hk, hk.2⟩ : _ ∧ k_ ≠ gb181))) (fun _ hk => hk.2) (.int .u64 ji29)) (fun _ hk => hk.2) (.int .u64 (Go.bits .xor .u64 (ji32) 1))) (fun _ h_ => h_.1))) hb); replace BK181 := ak_ (kb_ (g := gb181) (o := .cells #[.int .u64 ji29, .int .u64 (Go.bits .xor .u64 (ji32) 1)] 39 (0, 0)) (by (with_reducible repeat (first | refine kn_ ?_ _ | refine kd_ ?_ | refine ka_ ?_ _)); exact bp_ (bp_ BK181.out 0 _) 1 _) hb); replace HB := ak_ (bt_ (bw1_ HB GE181) hb); (try clear hb); (try clear hk); have hcz44_0 := kq_ BK181.out 0 rfl; have hcz44_1 := kq_ BK181.out 1 rfl; have hfz44_0 := kf_ BK181.out 0; have hfz44_1 := kf_ BK181.out 1) | ((with_reducible refine gate_builtin (b := .append) (xs := #[.tmp 98, .tmp 100]) rfl ?_); at_builtin; refine Kd.R_append k39 (w0 := w) w.heap.size rfl (.tmp 98) (.tmp 100) 108 39 (.agg #[(.int .u64 0), (.int .u64 0)]) 16 rfl underlying108 info39 rfl (by decide) (by omega) u12 x12_3 (⟨ji29, Go.bits .xor .u64 (ji32) 1⟩ : S39) [.int .u64 ji29, .int .u64 (Go.bits .xor .u64 (ji32) 1)] (fun k_ => k_ ≠ gb181) (fun _ => False) rfl rfl ?aP (fun _ hk => hk.elim) ?aF ?aO ?aB ?aS ?aL ?_; (case aP => exact k39_mkM _ _ _ (⟨ji29, Go.bits .xor .u64 (ji32) 1⟩ : S39)); (case aB => exact (bw1_ HB GE181)); (case aF => exact (fun k_ hk => Kd.freshB (g := gb181) (o := .cells #[.int .u64 ji29, .int .u64 (Go.bits .xor .u64 (ji32) 1)] 39 (0, 0)) (kl_ BK181) k_ hk)); (case aO => exact (by (with_reducible repeat (first | apply Kd.R_alloc | apply Kd.R_drewN | apply Kd.R_drew)); exact Kd.R_mono HO_12.out (fun _ hk => hk.2))); (case aS => exact (bz_ (bw1_ HB GE181))); (case aL => have := LMc37.out; omega); intro v185 w45 ho hb hg hat; rw [← Ny184.out] at ho; replace BK181 := ak_ (blk_grown (g := gb181) (o := .cells #[.int .u64 ji29, .int .u64 (Go.bits .xor .u64 (ji32) 1)] 39 (0, 0)) (kl_ BK181) hg (Kd.R_away HO_12.out (fun _ hk => hk.2))); replace HB := ak_ hb; have HO186 := ak_ ho; clear HO_12; clear ho hb hg hat))
                     try go_wp2_with (first | ((with_reducible refine gate_callee (f := 98) rfl ?_); refine goesL_ (some 89) rfl rfl func98 (by kernel_rfl) rfl #[.int .i64 a0, .agg #[.int .u64 ji29, .int .u64 (Go.bits .xor .u64 (ji32) 1)]] rfl (by (try simp only [map_toArray, map_cons, map_nil]); first | done | (simp only [hji29, hji32]; rfl) | rfl | (simp only [length_drop, length_take]; rfl)) ?_; (with_reducible refine (sub_Useful.calls k3 a0 ji29 (Go.bits .xor .u64 (ji32) 1) true t183 _ A34.out).mono ?_); rintro e w43 ⟨rfl, hb⟩; refine ⟨_, rfl, ?_⟩; replace HO_12 := ak_ (Kd.R_below (by (with_reducible repeat (first | apply Kd.R_alloc | apply Kd.R_drewN | apply Kd.R_drew)); exact (Kd.R_mono (Kd.R_far (p := ⟨gb181, 1, none⟩) (Kd.R_far (p := ⟨gb181, 0, none⟩) (Kd.R_mono HO_12.out (fun k_ hk => (⟨hk, hk.2⟩ : _ ∧ k_ ≠ gb181))) (fun _ hk => hk.2) (.int .u64 ji29)) (fun _ hk => hk.2) (.int .u64 (Go.bits .xor .u64 (ji32) 1))) (fun _ h_ => h_.1))) hb); replace BK181 := ak_ (kb_ (g := gb181) (o := .cells #[.int .u64 ji29, .int .u64 (Go.bits .xor .u64 (ji32) 1)] 39 (0, 0)) (by (with_reducible repeat (first | refine kn_ ?_ _ | refine kd_ ?_ | refine ka_ ?_ _)); exact bp_ (bp_ BK181.out 0 _) 1 _) hb); replace HB := ak_ (bt_ (bw1_ HB GE181) hb); (try clear hb); (try clear hk); obtain ⟨hcz44_0, hcz44_1, hfz44_0, hfz44_1⟩ := kc2_ BK181.out) | ((with_reducible refine gate_builtin (b := .append) (xs := #[.tmp 98, .tmp 100]) rfl ?_); at_builtin; refine Kd.R_append k39 (w0 := w) w.heap.size rfl (.tmp 98) (.tmp 100) 108 39 (.agg #[(.int .u64 0), (.int .u64 0)]) 16 rfl underlying108 info39 rfl (by decide) (by omega) u12 x12_3 (⟨ji29, Go.bits .xor .u64 (ji32) 1⟩ : S39) [.int .u64 ji29, .int .u64 (Go.bits .xor .u64 (ji32) 1)] (fun k_ => k_ ≠ gb181) (fun _ => False) rfl rfl ?aP (fun _ hk => hk.elim) ?aF ?aO ?aB ?aS ?aL ?_; (case aP => exact k39_mkM _ _ _ (⟨ji29, Go.bits .xor .u64 (ji32) 1⟩ : S39)); (case aB => exact (bw1_ HB GE181)); (case aF => exact (fun k_ hk => Kd.freshB (g := gb181) (o := .cells #[.int .u64 ji29, .int .u64 (Go.bits .xor .u64 (ji32) 1)] 39 (0, 0)) (kl_ BK181) k_ hk)); (case aO => exact (by (with_reducible repeat (first | apply Kd.R_alloc | apply Kd.R_drewN | apply Kd.R_drew)); exact Kd.R_mono HO_12.out (fun _ hk => hk.2))); (case aS => exact (bz_ (bw1_ HB GE181))); (case aL => have := LMc37.out; omega); intro v185 w45 ho hb hg hat; rw [← Ny184.out] at ho; replace BK181 := ak_ (blk_grown (g := gb181) (o := .cells #[.int .u64 ji29, .int .u64 (Go.bits .xor .u64 (ji32) 1)] 39 (0, 0)) (kl_ BK181) hg (Kd.R_away HO_12.out (fun _ hk => hk.2))); replace HB := ak_ hb; have HO186 := ak_ ho; clear HO_12; clear ho hb hg hat))
                     go_roundg k3
                     case measure => have := HJ5.out; have := HK2.out; have := HK3.out; omega
                     case rel => exact ⟨(y184), (wrap64 (x15_3 + 1)), rf_, H', ⟨by have := HJ5.out; have := HK2.out; have := HK3.out; omega⟩, ⟨by (with_reducible repeat (first | apply Kd.R_alloc | apply Kd.R_drewN | apply Kd.R_drew)); exact Kd.R_mono HO186.out (fun _ hk => trivial)⟩, ⟨bw1_ HB GE181⟩⟩
                    ·rw [if_neg c37] at H
                     exact absurd H (by simp)
                   ·replace c36 := Bool.eq_false_iff.mpr c36
                    subst c36
                    have H1 : (store_Pairs.l2 k3 a0 a1 t170 x12_3 x62_2 (wrap64 (x15_3 + 1)) a0 x62_2) = some (r1, r2) := by rw [if_neg (show ¬ (false = true) by decide)] at H; exact H
                    clear H
                    have H := H1
                    clear H1
                    have H' := ak_ H
                    clear H
                    try go_wp2
                    replace HO_12 := ak_ (Kd.R_drew HO_12.out)
                    replace HB := ak_ (bd_ HB.out)
                    refine start_ (n := 14) (S := fun w' => True) (ds := []) #[false, false, false, false, false, false, false, false, false, false, false, false, false, false] (by kernel_rfl) rfl rfl trivial (fun hHeld => ?_); refine with_tabW store_Pairs.tab20 store_Pairs.bits20 (fun HT_ HW_ => ?_)
                    generalize wr.drew = w46 at HO_12 HB hHeld ⊢
                    refine pu_ HT_ 0 (some 72) (bA3 1 14) ?_
                    refine pu_ HT_ 1 (some 73) (bA3 2 14) ?_
                    refine pu_ HT_ 2 (some 74) (bA3 3 14) ?_
                    refine pu_ HT_ 3 (some 75) (bA3 4 14) ?_
                    refine pu_ HT_ 4 (some 76) (bA3 5 14) ?_
                    refine pu_ HT_ 5 (some 77) (bA3 6 14) ?_
                    refine pu_ HT_ 6 (some 78) (bA3 7 14) ?_
                    refine pu_ HT_ 7 (some 79) (bA3 8 14) ?_
                    refine pu_ HT_ 8 (some 80) (bA3 9 14) ?_
                    refine pu_ HT_ 9 (some 81) (bA3 10 14) ?_
                    refine pu_ HT_ 10 (some 82) (bA3 11 14) ?_
                    refine pu_ HT_ 11 (some 83) (bA3 12 14) ?_
                    refine one_ (i := 12) (N := some 16) (bA3 13 14) rfl rfl (one_of HT_.out (by kernel_rfl)) (by decide) (fun K hK => ?_)
                    refine box_step ?hg (N := 16) ?hd (cs := #[.int .u64 0, .int .u64 0]) (t := 39) ?hr ?_; (case hd => rfl); (case hg => rfl); (case hr => first | (go_simp; done) | (go_simp; rfl))
                    intro gb181 hg w47 hbox hb
                    replace HO_12 := ak_ (Kd.R_below (Kd.R_elderB (rl_ HO_12) gb181 (Nat.le_of_eq hg.symm)) hb)
                    have BK181 := ak_ hbox
                    have GW181 := ak_ (gs_ hg HB)
                    have GE181 := ak_ (gs_ hg HB)
                    replace HB := ak_ (bt_ (bl_ HB) hb)
                    clear hb hbox hg
                    refine hK.out _ _ trivial (fun hHeld => ?_)
                    clear hK K
                    refine norm_ (a' := ?_) ?_ ?_
                    rotate_left
                    ·show Act.put _ (some 16) _ = _
                     simp only [Act.put, setIfInBounds_toArray, set_cons_zero, set_cons_succ, i64_w, i32_w]
                     rfl
                    refine one_ (i := 13) (N := none) (bA3 14 14) rfl rfl (one_of HT_.out (by kernel_rfl)) (by decide) (fun K hK => ?_)
                    have hs48 : w47.cell? ⟨gb181, 0, none⟩ = some (.int .u64 0) := (kc_ BK181.out 0).trans rfl
                    have hfs48 := kf_ BK181.out 0
                    have hs49 : w47.cell? ⟨gb181, 1, none⟩ = some (.int .u64 0) := (kc_ BK181.out 1).trans rfl
                    have hfs49 := kf_ BK181.out 1
                    refine skip_ (w1 := ?_) (by rfl) rfl ?_ ?_
                    rotate_left
                    ·go_simp
                     rfl
                    refine hK.out _ _ trivial (fun hHeld => ?_)
                    clear hK K
                    refine done_ (done_of HT_.out (by kernel_rfl)) ?_
                    obtain ⟨hcz50_0, hcz50_1, hfz50_0, hfz50_1⟩ := kc2_ BK181.out
                    try go_wp2_with (first | ((with_reducible refine gate_callee (f := 98) rfl ?_); refine goesL_ (some 89) rfl rfl func98 (by kernel_rfl) rfl #[.int .i64 a0, .agg #[.int .u64 ji29, .int .u64 (Go.bits .xor .u64 (ji32) 1)]] rfl (by (try simp only [map_toArray, map_cons, map_nil]); first | done | (simp only [hji29, hji32]; rfl) | rfl | (simp only [length_drop, length_take]; rfl)) ?_; (with_reducible refine (sub_Useful.calls k3 a0 ji29 (Go.bits .xor .u64 (ji32) 1) false t183 _ A34.out).mono ?_); rintro e w51 ⟨rfl, hb⟩; refine ⟨_, rfl, ?_⟩; replace HO_12 := ak_ (Kd.R_below (by (with_reducible repeat (first | apply Kd.R_alloc | apply Kd.R_drewN | apply Kd.R_drew)); exact (Kd.R_mono (Kd.R_far (p := ⟨gb181, 1, none⟩) (Kd.R_far (p := ⟨gb181, 0, none⟩) (Kd.R_mono HO_12.out (fun k_ hk => (⟨hk, hk.2⟩ : _ ∧ k_ ≠ gb181))) (fun _ hk => hk.2) (.int .u64 ji29)) (fun _ hk => hk.2) (.int .u64 (Go.bits .xor .u64 (ji32) 1))) (fun _ h_ => h_.1))) hb); replace BK181 := ak_ (kb_ (g := gb181) (o := .cells #[.int .u64 ji29, .int .u64 (Go.bits .xor .u64 (ji32) 1)] 39 (0, 0)) (by (with_reducible repeat (first | refine kn_ ?_ _ | refine kd_ ?_ | refine ka_ ?_ _)); exact bp_ (bp_ BK181.out 0 _) 1 _) hb); replace HB := ak_ (bt_ (bw1_ HB GE181) hb); (try clear hb); (try clear hk)))
                    try go_wp2_with (first | ((with_reducible refine gate_callee (f := 98) rfl ?_); refine goesL_ (some 89) rfl rfl func98 (by kernel_rfl) rfl #[.int .i64 a0, .agg #[.int .u64 ji29, .int .u64 (Go.bits .xor .u64 (ji32) 1)]] rfl (by (try simp only [map_toArray, map_cons, map_nil]); first | done | (simp only [hji29, hji32]; rfl) | rfl | (simp only [length_drop, length_take]; rfl)) ?_; (with_reducible refine (sub_Useful.calls k3 a0 ji29 (Go.bits .xor .u64 (ji32) 1) false t183 _ A34.out).mono ?_); rintro e w51 ⟨rfl, hb⟩; refine ⟨_, rfl, ?_⟩; replace HO_12 := ak_ (Kd.R_below (by (with_reducible repeat (first | apply Kd.R_alloc | apply Kd.R_drewN | apply Kd.R_drew)); exact (Kd.R_mono (Kd.R_far (p := ⟨gb181, 1, none⟩) (Kd.R_far (p := ⟨gb181, 0, none⟩) (Kd.R_mono HO_12.out (fun k_ hk => (⟨hk, hk.2⟩ : _ ∧ k_ ≠ gb181))) (fun _ hk => hk.2) (.int .u64 ji29)) (fun _ hk => hk.2) (.int .u64 (Go.bits .xor .u64 (ji32) 1))) (fun _ h_ => h_.1))) hb); replace BK181 := ak_ (kb_ (g := gb181) (o := .cells #[.int .u64 ji29, .int .u64 (Go.bits .xor .u64 (ji32) 1)] 39 (0, 0)) (by (with_reducible repeat (first | refine kn_ ?_ _ | refine kd_ ?_ | refine ka_ ?_ _)); exact bp_ (bp_ BK181.out 0 _) 1 _) hb); replace HB := ak_ (bt_ (bw1_ HB GE181) hb); (try clear hb); (try clear hk)))
                    go_roundg k3
                    case measure => have := HJ5.out; have := HK2.out; have := HK3.out; omega
                    case rel => exact ⟨(x12_3), (wrap64 (x15_3 + 1)), rf_, H', ⟨by have := HJ5.out; have := HK2.out; have := HK3.out; omega⟩, ⟨by (with_reducible repeat (first | apply Kd.R_alloc | apply Kd.R_drewN | apply Kd.R_drew)); exact Kd.R_mono HO_12.out (fun _ hk => trivial)⟩, ⟨bw1_ HB GE181⟩⟩
                  ·rw [if_neg c35] at H
                   have c35b0 : (t183 == 0) = false := beq_eq_false_iff_ne.mpr c35
                   have c35b1 : (t183 != 0) = true := bne_iff_ne.mpr c35
                   have H' := ak_ H
                   clear H
                   try go_wp2
                   replace HO_12 := ak_ (Kd.R_drew HO_12.out)
                   replace HB := ak_ (bd_ HB.out)
                   refine start_ (n := 14) (S := fun w' => True) (ds := []) #[false, false, false, false, false, false, false, false, false, false, false, false, false, false] (by kernel_rfl) rfl rfl trivial (fun hHeld => ?_); refine with_tabW store_Pairs.tab20 store_Pairs.bits20 (fun HT_ HW_ => ?_)
                   generalize wr.drew = w52 at HO_12 HB hHeld ⊢
                   refine pu_ HT_ 0 (some 72) (bA3 1 14) ?_
                   refine pu_ HT_ 1 (some 73) (bA3 2 14) ?_
                   refine pu_ HT_ 2 (some 74) (bA3 3 14) ?_
                   refine pu_ HT_ 3 (some 75) (bA3 4 14) ?_
                   refine pu_ HT_ 4 (some 76) (bA3 5 14) ?_
                   refine pu_ HT_ 5 (some 77) (bA3 6 14) ?_
                   refine pu_ HT_ 6 (some 78) (bA3 7 14) ?_
                   refine pu_ HT_ 7 (some 79) (bA3 8 14) ?_
                   refine pu_ HT_ 8 (some 80) (bA3 9 14) ?_
                   refine pu_ HT_ 9 (some 81) (bA3 10 14) ?_
                   refine pu_ HT_ 10 (some 82) (bA3 11 14) ?_
                   refine pu_ HT_ 11 (some 83) (bA3 12 14) ?_
                   refine one_ (i := 12) (N := some 16) (bA3 13 14) rfl rfl (one_of HT_.out (by kernel_rfl)) (by decide) (fun K hK => ?_)
                   refine box_step ?hg (N := 16) ?hd (cs := #[.int .u64 0, .int .u64 0]) (t := 39) ?hr ?_; (case hd => rfl); (case hg => rfl); (case hr => first | (go_simp; done) | (go_simp; rfl))
                   intro gb181 hg w53 hbox hb
                   replace HO_12 := ak_ (Kd.R_below (Kd.R_elderB (rl_ HO_12) gb181 (Nat.le_of_eq hg.symm)) hb)
                   have BK181 := ak_ hbox
                   have GW181 := ak_ (gs_ hg HB)
                   have GE181 := ak_ (gs_ hg HB)
                   replace HB := ak_ (bt_ (bl_ HB) hb)
                   clear hb hbox hg
                   refine hK.out _ _ trivial (fun hHeld => ?_)
                   clear hK K
                   refine norm_ (a' := ?_) ?_ ?_
                   rotate_left
                   ·show Act.put _ (some 16) _ = _
                    simp only [Act.put, setIfInBounds_toArray, set_cons_zero, set_cons_succ, i64_w, i32_w]
                    rfl
                   refine one_ (i := 13) (N := none) (bA3 14 14) rfl rfl (one_of HT_.out (by kernel_rfl)) (by decide) (fun K hK => ?_)
                   have hs54 : w53.cell? ⟨gb181, 0, none⟩ = some (.int .u64 0) := (kc_ BK181.out 0).trans rfl
                   have hfs54 := kf_ BK181.out 0
                   have hs55 : w53.cell? ⟨gb181, 1, none⟩ = some (.int .u64 0) := (kc_ BK181.out 1).trans rfl
                   have hfs55 := kf_ BK181.out 1
                   refine skip_ (w1 := ?_) (by rfl) rfl ?_ ?_
                   rotate_left
                   ·go_simp
                    rfl
                   refine hK.out _ _ trivial (fun hHeld => ?_)
                   clear hK K
                   refine done_ (done_of HT_.out (by kernel_rfl)) ?_
                   obtain ⟨hcz56_0, hcz56_1, hfz56_0, hfz56_1⟩ := kc2_ BK181.out
                   try go_wp2_with (first | ((with_reducible refine gate_callee (f := 98) rfl ?_); refine goesL_ (some 89) rfl rfl func98 (by kernel_rfl) rfl #[.int .i64 a0, .agg #[.int .u64 ji29, .int .u64 (Go.bits .xor .u64 (ji32) 1)]] rfl (by (try simp only [map_toArray, map_cons, map_nil]); first | done | (simp only [hji29, hji32]; rfl) | rfl | (simp only [length_drop, length_take]; rfl)) ?_; (with_reducible refine (sub_Useful.calls k3 a0 ji29 (Go.bits .xor .u64 (ji32) 1) t182 t183 _ A34.out).mono ?_); rintro e w57 ⟨rfl, hb⟩; refine ⟨_, rfl, ?_⟩; replace HO_12 := ak_ (Kd.R_below (by (with_reducible repeat (first | apply Kd.R_alloc | apply Kd.R_drewN | apply Kd.R_drew)); exact (Kd.R_mono (Kd.R_far (p := ⟨gb181, 1, none⟩) (Kd.R_far (p := ⟨gb181, 0, none⟩) (Kd.R_mono HO_12.out (fun k_ hk => (⟨hk, hk.2⟩ : _ ∧ k_ ≠ gb181))) (fun _ hk => hk.2) (.int .u64 ji29)) (fun _ hk => hk.2) (.int .u64 (Go.bits .xor .u64 (ji32) 1))) (fun _ h_ => h_.1))) hb); replace BK181 := ak_ (kb_ (g := gb181) (o := .cells #[.int .u64 ji29, .int .u64 (Go.bits .xor .u64 (ji32) 1)] 39 (0, 0)) (by (with_reducible repeat (first | refine kn_ ?_ _ | refine kd_ ?_ | refine ka_ ?_ _)); exact bp_ (bp_ BK181.out 0 _) 1 _) hb); replace HB := ak_ (bt_ (bw1_ HB GE181) hb); (try clear hb); (try clear hk)))
                   try go_wp2_with (first | ((with_reducible refine gate_callee (f := 98) rfl ?_); refine goesL_ (some 89) rfl rfl func98 (by kernel_rfl) rfl #[.int .i64 a0, .agg #[.int .u64 ji29, .int .u64 (Go.bits .xor .u64 (ji32) 1)]] rfl (by (try simp only [map_toArray, map_cons, map_nil]); first | done | (simp only [hji29, hji32]; rfl) | rfl | (simp only [length_drop, length_take]; rfl)) ?_; (with_reducible refine (sub_Useful.calls k3 a0 ji29 (Go.bits .xor .u64 (ji32) 1) t182 t183 _ A34.out).mono ?_); rintro e w57 ⟨rfl, hb⟩; refine ⟨_, rfl, ?_⟩; replace HO_12 := ak_ (Kd.R_below (by (with_reducible repeat (first | apply Kd.R_alloc | apply Kd.R_drewN | apply Kd.R_drew)); exact (Kd.R_mono (Kd.R_far (p := ⟨gb181, 1, none⟩) (Kd.R_far (p := ⟨gb181, 0, none⟩) (Kd.R_mono HO_12.out (fun k_ hk => (⟨hk, hk.2⟩ : _ ∧ k_ ≠ gb181))) (fun _ hk => hk.2) (.int .u64 ji29)) (fun _ hk => hk.2) (.int .u64 (Go.bits .xor .u64 (ji32) 1))) (fun _ h_ => h_.1))) hb); replace BK181 := ak_ (kb_ (g := gb181) (o := .cells #[.int .u64 ji29, .int .u64 (Go.bits .xor .u64 (ji32) 1)] 39 (0, 0)) (by (with_reducible repeat (first | refine kn_ ?_ _ | refine kd_ ?_ | refine ka_ ?_ _)); exact bp_ (bp_ BK181.out 0 _) 1 _) hb); replace HB := ak_ (bt_ (bw1_ HB GE181) hb); (try clear hb); (try clear hk)))
                   go_roundg k3
                   case measure => have := HJ5.out; have := HK2.out; have := HK3.out; omega
                   case rel => exact ⟨(x12_3), (wrap64 (x15_3 + 1)), rf_, H', ⟨by have := HJ5.out; have := HK2.out; have := HK3.out; omega⟩, ⟨by (with_reducible repeat (first | apply Kd.R_alloc | apply Kd.R_drewN | apply Kd.R_drew)); exact Kd.R_mono HO_12.out (fun _ hk => trivial)⟩, ⟨bw1_ HB GE181⟩⟩
                 ·rw [if_neg c33] at H
                  have c33b0 : (a1 == 3) = false := beq_eq_false_iff_ne.mpr c33
                  have c33b1 : (a1 != 3) = true := bne_iff_ne.mpr c33
                  by_cases c58 : x12_3.length < 8796093022208
                  ·rw [if_pos c58] at H
                   have LMc58 := ak_ c58
                   clear c58
                   obtain ⟨y187, hy187⟩ : ∃ y_ : List (S39), y_ = (x12_3 ++ [(⟨ji29, Go.bits .xor .u64 (ji32) 1⟩ : S39)]) := ⟨_, rfl⟩
                   replace H : (store_Pairs.l2 k3 a0 a1 t170 y187 x62_2 (wrap64 (x15_3 + 1)) a0 x62_2) = some (r1, r2) := by first | (rw [hy187]; with_reducible exact H) | (have H2_ := (Option.bind_some _ _).symm.trans H; rw [hy187]; with_reducible exact H2_) | (have H2_ := (Option.bind_some _ _).symm.trans H; with_reducible exact H2_) | with_reducible exact H | (rw [hy187]; exact H) | exact H
                   have Ny187 := ak_ hy187
                   clear hy187
                   have H' := ak_ H
                   clear H
                   try go_wp2
                   replace HO_12 := ak_ (Kd.R_drew HO_12.out)
                   replace HB := ak_ (bd_ HB.out)
                   refine start_ (n := 14) (S := fun w' => True) (ds := []) #[false, false, false, false, false, false, false, false, false, false, false, false, false, false] (by kernel_rfl) rfl rfl trivial (fun hHeld => ?_); refine with_tabW store_Pairs.tab20 store_Pairs.bits20 (fun HT_ HW_ => ?_)
                   generalize wr.drew = w59 at HO_12 HB hHeld ⊢
                   refine pu_ HT_ 0 (some 72) (bA3 1 14) ?_
                   refine pu_ HT_ 1 (some 73) (bA3 2 14) ?_
                   refine pu_ HT_ 2 (some 74) (bA3 3 14) ?_
                   refine pu_ HT_ 3 (some 75) (bA3 4 14) ?_
                   refine pu_ HT_ 4 (some 76) (bA3 5 14) ?_
                   refine pu_ HT_ 5 (some 77) (bA3 6 14) ?_
                   refine pu_ HT_ 6 (some 78) (bA3 7 14) ?_
                   refine pu_ HT_ 7 (some 79) (bA3 8 14) ?_
                   refine pu_ HT_ 8 (some 80) (bA3 9 14) ?_
                   refine pu_ HT_ 9 (some 81) (bA3 10 14) ?_
                   refine pu_ HT_ 10 (some 82) (bA3 11 14) ?_
                   refine pu_ HT_ 11 (some 83) (bA3 12 14) ?_
                   refine one_ (i := 12) (N := some 16) (bA3 13 14) rfl rfl (one_of HT_.out (by kernel_rfl)) (by decide) (fun K hK => ?_)
                   refine box_step ?hg (N := 16) ?hd (cs := #[.int .u64 0, .int .u64 0]) (t := 39) ?hr ?_; (case hd => rfl); (case hg => rfl); (case hr => first | (go_simp; done) | (go_simp; rfl))
                   intro gb181 hg w60 hbox hb
                   replace HO_12 := ak_ (Kd.R_below (Kd.R_elderB (rl_ HO_12) gb181 (Nat.le_of_eq hg.symm)) hb)
                   have BK181 := ak_ hbox
                   have GW181 := ak_ (gs_ hg HB)
                   have GE181 := ak_ (gs_ hg HB)
                   replace HB := ak_ (bt_ (bl_ HB) hb)
                   clear hb hbox hg
                   refine hK.out _ _ trivial (fun hHeld => ?_)
                   clear hK K
                   refine norm_ (a' := ?_) ?_ ?_
                   rotate_left
                   ·show Act.put _ (some 16) _ = _
                    simp only [Act.put, setIfInBounds_toArray, set_cons_zero, set_cons_succ, i64_w, i32_w]
                    rfl
                   refine one_ (i := 13) (N := none) (bA3 14 14) rfl rfl (one_of HT_.out (by kernel_rfl)) (by decide) (fun K hK => ?_)
                   have hs61 : w60.cell? ⟨gb181, 0, none⟩ = some (.int .u64 0) := (kc_ BK181.out 0).trans rfl
                   have hfs61 := kf_ BK181.out 0
                   have hs62 : w60.cell? ⟨gb181, 1, none⟩ = some (.int .u64 0) := (kc_ BK181.out 1).trans rfl
                   have hfs62 := kf_ BK181.out 1
                   refine skip_ (w1 := ?_) (by rfl) rfl ?_ ?_
                   rotate_left
                   ·go_simp
                    rfl
                   refine hK.out _ _ trivial (fun hHeld => ?_)
                   clear hK K
                   refine done_ (done_of HT_.out (by kernel_rfl)) ?_
                   obtain ⟨hcz63_0, hcz63_1, hfz63_0, hfz63_1⟩ := kc2_ BK181.out
                   try go_wp2_with (first | ((with_reducible refine gate_builtin (b := .append) (xs := #[.tmp 98, .tmp 100]) rfl ?_); at_builtin; refine Kd.R_append k39 (w0 := w) w.heap.size rfl (.tmp 98) (.tmp 100) 108 39 (.agg #[(.int .u64 0), (.int .u64 0)]) 16 rfl underlying108 info39 rfl (by decide) (by omega) u12 x12_3 (⟨ji29, Go.bits .xor .u64 (ji32) 1⟩ : S39) [.int .u64 ji29, .int .u64 (Go.bits .xor .u64 (ji32) 1)] (fun k_ => k_ ≠ gb181) (fun _ => False) rfl (by first | (go_simp; done) | (go_simp; rfl)) ?aP (fun _ hk => hk.elim) ?aF ?aO ?aB ?aS ?aL ?_; (case aP => exact k39_mkM _ _ _ (⟨ji29, Go.bits .xor .u64 (ji32) 1⟩ : S39)); (case aB => exact (bw1_ HB GE181)); (case aF => exact (fun k_ hk => Kd.freshB (g := gb181) (o := .cells #[.int .u64 ji29, .int .u64 (Go.bits .xor .u64 (ji32) 1)] 39 (0, 0)) (by (with_reducible repeat (first | refine kn_ ?_ _ | refine kd_ ?_ | refine ka_ ?_ _)); exact bp_ (bp_ BK181.out 0 _) 1 _) k_ hk)); (case aO => exact (by (with_reducible repeat (first | apply Kd.R_alloc | apply Kd.R_drewN | apply Kd.R_drew)); exact Kd.R_mono (Kd.R_far (p := ⟨gb181, 1, none⟩) (Kd.R_far (p := ⟨gb181, 0, none⟩) (Kd.R_mono HO_12.out (fun k_ hk => (⟨hk, hk.2⟩ : _ ∧ k_ ≠ gb181))) (fun _ hk => hk.2) (.int .u64 ji29)) (fun _ hk => hk.2) (.int .u64 (Go.bits .xor .u64 (ji32) 1))) (fun _ hk => hk.1.2))); (case aS => exact (bz_ (bw1_ HB GE181))); (case aL => have := LMc58.out; omega); intro v188 w64 ho hb hg hat; rw [← Ny187.out] at ho; replace BK181 := ak_ (blk_grown (g := gb181) (o := .cells #[.int .u64 ji29, .int .u64 (Go.bits .xor .u64 (ji32) 1)] 39 (0, 0)) (by (with_reducible repeat (first | refine kn_ ?_ _ | refine kd_ ?_ | refine ka_ ?_ _)); exact bp_ (bp_ BK181.out 0 _) 1 _) hg (Kd.R_away HO_12.out (fun _ hk => hk.2))); replace HB := ak_ hb; have HO189 := ak_ ho; clear HO_12; clear ho hb hg hat))
                   try go_wp2_with (first | ((with_reducible refine gate_builtin (b := .append) (xs := #[.tmp 98, .tmp 100]) rfl ?_); at_builtin; refine Kd.R_append k39 (w0 := w) w.heap.size rfl (.tmp 98) (.tmp 100) 108 39 (.agg #[(.int .u64 0), (.int .u64 0)]) 16 rfl underlying108 info39 rfl (by decide) (by omega) u12 x12_3 (⟨ji29, Go.bits .xor .u64 (ji32) 1⟩ : S39) [.int .u64 ji29, .int .u64 (Go.bits .xor .u64 (ji32) 1)] (fun k_ => k_ ≠ gb181) (fun _ => False) rfl (by first | (go_simp; done) | (go_simp; rfl)) ?aP (fun _ hk => hk.elim) ?aF ?aO ?aB ?aS ?aL ?_; (case aP => exact k39_mkM _ _ _ (⟨ji29, Go.bits .xor .u64 (ji32) 1⟩ : S39)); (case aB => exact (bw1_ HB GE181)); (case aF => exact (fun k_ hk => Kd.freshB (g := gb181) (o := .cells #[.int .u64 ji29, .int .u64 (Go.bits .xor .u64 (ji32) 1)] 39 (0, 0)) (by (with_reducible repeat (first | refine kn_ ?_ _ | refine kd_ ?_ | refine ka_ ?_ _)); exact bp_ (bp_ BK181.out 0 _) 1 _) k_ hk)); (case aO => exact (by (with_reducible repeat (first | apply Kd.R_alloc | apply Kd.R_drewN | apply Kd.R_drew)); exact Kd.R_mono (Kd.R_far (p := ⟨gb181, 1, none⟩) (Kd.R_far (p := ⟨gb181, 0, none⟩) (Kd.R_mono HO_12.out (fun k_ hk => (⟨hk, hk.2⟩ : _ ∧ k_ ≠ gb181))) (fun _ hk => hk.2) (.int .u64 ji29)) (fun _ hk => hk.2) (.int .u64 (Go.bits .xor .u64 (ji32) 1))) (fun _ hk => hk.1.2))); (case aS => exact (bz_ (bw1_ HB GE181))); (case aL => have := LMc58.out; omega); intro v188 w64 ho hb hg hat; rw [← Ny187.out] at ho; replace BK181 := ak_ (blk_grown (g := gb181) (o := .cells #[.int .u64 ji29, .int .u64 (Go.bits .xor .u64 (ji32) 1)] 39 (0, 0)) (by (with_reducible repeat (first | refine kn_ ?_ _ | refine kd_ ?_ | refine ka_ ?_ _)); exact bp_ (bp_ BK181.out 0 _) 1 _) hg (Kd.R_away HO_12.out (fun _ hk => hk.2))); replace HB := ak_ hb; have HO189 := ak_ ho; clear HO_12; clear ho hb hg hat))
                   go_roundg k3
                   case measure => have := HJ5.out; have := HK2.out; have := HK3.out; omega
                   case rel => exact ⟨(y187), (wrap64 (x15_3 + 1)), rf_, H', ⟨by have := HJ5.out; have := HK2.out; have := HK3.out; omega⟩, ⟨by (with_reducible repeat (first | apply Kd.R_alloc | apply Kd.R_drewN | apply Kd.R_drew)); exact Kd.R_mono HO189.out (fun _ hk => trivial)⟩, ⟨bw1_ HB GE181⟩⟩
                  ·rw [if_neg c58] at H
                   exact absurd H (by simp)
                ·rw [if_neg c31] at H
                 exact absurd H (by simp)
               ·rw [if_neg c28] at H
                exact absurd H (by simp)
              ·rw [if_neg c26] at H
               have c26b0 := decide_eq_false c26
               clear c26
               have H' := ak_ H
               clear H
               go_wp2
               go_roundg k3
               case measure => have := HJ5.out; have := HK2.out; have := HK3.out; omega
               case rel => exact ⟨(x12_3), (wrap64 (x62_2 + 1)), rf_, H', ⟨by have := HJ5.out; have := HK2.out; have := HK3.out; omega⟩, ⟨rl_ HO_12⟩, ⟨bl_ HB⟩⟩
           ·rw [if_neg c25] at H
            have c25b0 := decide_eq_false c25
            clear c25
            simp only [some.injEq, Prod.mk.injEq] at H
            obtain ⟨rfl, rfl⟩ := H
            go_wp2
            go_ret2
            exact ⟨_, by first | rfl | (simp <;> rfl) | (simp [*] <;> rfl), by (with_reducible repeat (first | apply Kd.R_alloc | apply Kd.R_drewN | apply Kd.R_drew)); exact HO_12.out, bl_ HB⟩
        ·rw [if_neg c21] at H
         exact absurd H (by simp)
      ·rw [if_neg c11] at H
       exact absurd H (by simp)
     ·rw [if_neg c10] at H
      exact absurd H (by simp)
theorem tc_makeMap {P : Program} {t k e : TypeId} (hu : P.underlying t = some (.map k e)) (w : World) : (Instr.makeMap t (some (.int .i64 0))).run P w = .ok (.map (some w.heap.size)) (w.alloc (.map #[] 0)) := by
  simp [Instr.makeMap, run_underlying hu, asInt, asIntOf, newObj]
  rfl
set_option maxHeartbeats 4000000 in
set_option maxRecDepth 100000 in
theorem tc_index (A0 : Option Addr) (c0 : Nat) (w : World) : Calls Try.prog 126 #[.slice A0 0 c0] w fun e w' => ∃ m : Value, e = .returned (.tuple #[m, .bool true]) ∧ Below w.heap.size w w' := by
  have hmm := fun w => tc_makeMap (P := Try.prog) underlying148 w
  go_enter func126, ntmps126
  go_wp2
  go_loopg [17] 1 (fun kq v17 w' => v17 = .int .i64 0 ∧ Aside0 (kq ≤ 1) ∧ Aside0 (Below w.heap.size w w'))
  case atStart => exact ⟨rfl, ⟨Nat.le_refl _⟩, ⟨by repeat (first | exact Below.refl _ _ | apply ba_ | apply bn_ | apply bd_)⟩⟩
  case round =>
   obtain ⟨rfl, HK1, HB⟩ := hrel
   go_wp2
   go_ret2
   exact ⟨_, rfl, HB.out⟩
set_option maxHeartbeats 4000000 in
set_option maxRecDepth 100000 in
theorem tc_check (A0 : Option Addr) (c0 : Nat) (w : World) : Calls Try.prog 88 #[.slice A0 0 c0] w fun e w' => e = .returned (.int .i64 0) ∧ Below w.heap.size w w' := by
  have IX := ak_ (tc_index A0 c0)
  have HB := ak_ (Below.refl w.heap.size w)
  go_enter func88, ntmps88
  go_wp2_with (first | (go_at_call 126; with_reducible refine (IX.out _).mono ?_; rintro e w1 ⟨m, rfl, hb⟩; have m_ := ak_ (bt_ HB.out hb); clear HB; have HB := m_; clear m_ hb))
  go_ret
  exact ⟨rfl, HB.out⟩
def term_Check.f (l0 : List S75) : Option Int := if l0.length = 0 then some 0 else none
theorem term_Check.calls (A0 : Option Addr) (c0 : Nat) (l0 : List S75) (r : Int) (w : World) (hr0 : Kd.C k75 w A0 l0.length l0) (hc0 : l0.length ≤ c0) (h : term_Check.f l0 = some r) :
   Calls Try.prog 88 #[.slice A0 l0.length c0] w fun e w' => e = .returned (.int .i64 r) ∧ Below w.heap.size w w' := by
  unfold term_Check.f at h
  by_cases c : l0.length = 0
  ·rw [if_pos c] at h
   obtain rfl := Option.some.inj h
   rw [c]; exact tc_check A0 c0 w
  ·rw [if_neg c] at h; exact absurd h (by simp)
def value_Check.j0 : Nat → Int → Bool → Bool → Bool → Int → Int → Int → Int → Int → Int → Int → Bool → Bool → Int → Int → Int → Int → Int → Int → Int → Option (Int)
  | 0, _, _, _, _, _, _, _, _, _, _, _, _, _, _, _, _, _, _, _, _ => none
  | k + 1, x5, x12, x199000, x199001, x199002, x199003, x199004, x199005, x199006, x199007, x199008, x201000, x201001, x201002, x201003, x201004, x201005, x201006, x201007, x201008 => if x12 = true then (if x5 = 0 then (if (!x199000 || (x199001 || ((!(x199002 == 0) || (!(x199003 == 0))) || (((!(x199004 == 0) || (!(x199005 == 0))) || ((!(x199006 == 0) || (!(x199007 == 0))))))))) = true then (some 1) else (some x5)) else (some x5)) else (if x199001 = true then (if x5 = 0 then (if (x199000 || (!x199001 || ((!(x199002 == 0) || (!(x199003 == 0))) || (!(x199008 == 0))))) = true then (some 1) else (some x5)) else (some x5)) else (if x5 = 0 then (if (!(x199000 == x201000) || (!(x199001 == x201001) || ((!(x199002 == x201002) || (!(x199003 == x201003))) || (((!(x199004 == x201004) || (!(x199005 == x201005))) || ((!(x199006 == x201006) || (!(x199007 == x201007))))) || (!(x199008 == x201008)))))) = true then (some 1) else (some x5)) else (some x5)))
def value_Check.f (k : Nat) (l0 : List (S75)) (a1_0 : Bool) (a1_1 : Bool) (a1_2 : Int) (a1_3 : Int) (a1_4 : Int) (a1_5 : Int) (a1_6 : Int) (a1_7 : Int) (a1_8 : Int) : Option (Int) := (term_Check.f l0).bind fun t199 => (if a1_0 = true then (if a1_8 ≥ 0 then (value_Check.j0 k t199 (decide (a1_8 < (l0.length : Int))) a1_0 a1_1 a1_2 a1_3 a1_4 a1_5 a1_6 a1_7 a1_8 false false a1_2 a1_3 0 0 0 0 0) else (value_Check.j0 k t199 false a1_0 a1_1 a1_2 a1_3 a1_4 a1_5 a1_6 a1_7 a1_8 false false a1_2 a1_3 0 0 0 0 0)) else (value_Check.j0 k t199 false a1_0 a1_1 a1_2 a1_3 a1_4 a1_5 a1_6 a1_7 a1_8 false false a1_2 a1_3 0 0 0 0 0))
theorem value_Check.mono_l : ∀ k, (∀ y0 y1 y2 y3 y4 y5 y6 y7 y8 y9 y10 y11 y12 y13 y14 y15 y16 y17 y18 y19, LeO (value_Check.j0 k y0 y1 y2 y3 y4 y5 y6 y7 y8 y9 y10 y11 y12 y13 y14 y15 y16 y17 y18 y19) (value_Check.j0 (k + 1) y0 y1 y2 y3 y4 y5 y6 y7 y8 y9 y10 y11 y12 y13 y14 y15 y16 y17 y18 y19))
  | 0 => fun _ _ _ _ _ _ _ _ _ _ _ _ _ _ _ _ _ _ _ _ r h => by simp [value_Check.j0] at h
  | k + 1 => by
   have ih0 := value_Check.mono_l k
   ·intro y0 y1 y2 y3 y4 y5 y6 y7 y8 y9 y10 y11 y12 y13 y14 y15 y16 y17 y18 y19
    unfold value_Check.j0
    repeat' first | (with_reducible first | exact ih0 .. | exact LeO.refl _ | exact LeO.none _ | refine LeO.ite ?_ ?_ | refine LeO.bind ?_ (fun _ => ?_)) | exact ih0 .. | refine LeO.ite ?_ ?_ | refine LeO.bind ?_ (fun _ => ?_)
theorem value_Check.mono : ∀ a0 a1 a2 a3 a4 a5 a6 a7 a8 a9 k, LeO (value_Check.f k a0 a1 a2 a3 a4 a5 a6 a7 a8 a9) (value_Check.f (k + 1) a0 a1 a2 a3 a4 a5 a6 a7 a8 a9) := by
  intro a0 a1 a2 a3 a4 a5 a6 a7 a8 a9 k
  have ih0 := value_Check.mono_l k
  unfold value_Check.f
  repeat' first | (with_reducible first | exact ih0 .. | exact LeO.refl _ | exact LeO.none _ | refine LeO.ite ?_ ?_ | refine LeO.bind ?_ (fun _ => ?_)) | exact ih0 .. | refine LeO.ite ?_ ?_ | refine LeO.bind ?_ (fun _ => ?_)
set_option maxHeartbeats 8000000 in
set_option maxRecDepth 100000 in
theorem value_Check.calls (k : Nat) (A0 : Option Addr) (c0 : Nat) (l0 : List (S75)) (a1_0 : Bool) (a1_1 : Bool) (a1_2 : Int) (a1_3 : Int) (a1_4 : Int) (a1_5 : Int) (a1_6 : Int) (a1_7 : Int) (a1_8 : Int) (r : Int) (w : World) (hr0 : Kd.C k75 w A0 l0.length l0) (hc0 : l0.length ≤ c0) (h : value_Check.f k l0 a1_0 a1_1 a1_2 a1_3 a1_4 a1_5 a1_6 a1_7 a1_8 = some r) :
   Calls Try.prog 127 #[.slice A0 l0.length c0, .agg #[.bool a1_0, .bool a1_1, .int .u64 a1_2, .int .u64 a1_3, .int .u64 a1_4, .int .u64 a1_5, .int .u64 a1_6, .int .u64 a1_7, .int .i64 a1_8]] w fun e w' => e = .returned (.int .i64 r) ∧ Below w.heap.size w w' := by
  have hu29 := underlying29
  have hu25 := underlying25
  have hu27 := underlying27
  have HR0 := ak_ hr0
  have HC0 := ak_ hc0
  clear hr0 hc0
  have HB := ak_ (Below.refl w.heap.size w)
  have H : ((term_Check.f l0).bind fun t199 => (if a1_0 = true then (if a1_8 ≥ 0 then (value_Check.j0 k t199 (decide (a1_8 < (l0.length : Int))) a1_0 a1_1 a1_2 a1_3 a1_4 a1_5 a1_6 a1_7 a1_8 false false a1_2 a1_3 0 0 0 0 0) else (value_Check.j0 k t199 false a1_0 a1_1 a1_2 a1_3 a1_4 a1_5 a1_6 a1_7 a1_8 false false a1_2 a1_3 0 0 0 0 0)) else (value_Check.j0 k t199 false a1_0 a1_1 a1_2 a1_3 a1_4 a1_5 a1_6 a1_7 a1_8 false false a1_2 a1_3 0 0 0 0 0))) = some r := h
  clear h
  replace H := bind_eq_some_iff.mp H
  obtain ⟨t199, A30, H⟩ := H
  replace H : (if a1_0 = true then (if a1_8 ≥ 0 then (value_Check.j0 k t199 (decide (a1_8 < (l0.length : Int))) a1_0 a1_1 a1_2 a1_3 a1_4 a1_5 a1_6 a1_7 a1_8 false false a1_2 a1_3 0 0 0 0 0) else (value_Check.j0 k t199 false a1_0 a1_1 a1_2 a1_3 a1_4 a1_5 a1_6 a1_7 a1_8 false false a1_2 a1_3 0 0 0 0 0)) else (value_Check.j0 k t199 false a1_0 a1_1 a1_2 a1_3 a1_4 a1_5 a1_6 a1_7 a1_8 false false a1_2 a1_3 0 0 0 0 0)) = some r := H
  have A3 := ak_ A30
  clear A30
  have HC4 := ak_ H
  clear H
  go_enter func127, ntmps127
  go_upto_region 3 with (first | ((with_reducible refine gate_dst (N := 3) rfl ?_); (try (refine gate_guard (by rfl) ?_; dsimp only)); refine bx_ 3 #[.bool a1_0, .bool a1_1, .int .u64 a1_2, .int .u64 a1_3, .int .u64 a1_4, .int .u64 a1_5, .int .u64 a1_6, .int .u64 a1_7, .int .i64 a1_8] 29 ?_; intro gb198 hg w5 hbox hb; have BK198 := ak_ hbox; have GW198 := ak_ (gs_ hg HB); have GE198 := ak_ (gs_ hg HB); replace HB := ak_ (bt_ (bl_ HB) hb); clear hb hbox hg) | ((with_reducible refine gate_callee (f := 88) rfl ?_); refine gl_ (some 8) func88 #[.slice A0 l0.length c0] ?_; (with_reducible refine (term_Check.calls _ _ l0 t199 _ ?side1 ?side2 A3.out).mono ?_); (case side1 => repeat (first | exact (Kd.C_below HR0.out HB.out) | (with_reducible refine Kd.C_alloc ?_ _) | (with_reducible refine Kd.C_drewN ?_ _) | (with_reducible refine Kd.C_drew ?_))); (case side2 => exact HC0.out); rintro e w6 ⟨rfl, hb⟩; refine ⟨_, rfl, ?_⟩; replace BK198 := ak_ (kb_ (kl_ BK198) hb); replace HB := ak_ (bt_ (bw1_ HB GE198) hb); (try clear hb); (try clear hk); obtain ⟨hcz7_0, hcz7_1, hcz7_2, hcz7_3, hcz7_4, hcz7_5, hcz7_6, hcz7_7, hcz7_8, hfz7_0, hfz7_1, hfz7_2, hfz7_3, hfz7_4, hfz7_5, hfz7_6, hfz7_7, hfz7_8⟩ := kc9_ BK198.out) | ((with_reducible refine gate_dst (N := 6) rfl ?_); (try (refine gate_guard (by rfl) ?_; dsimp only)); refine bx_ 6 #[.bool false, .bool false, .int .u64 0, .int .u64 0, .int .u64 0, .int .u64 0, .int .u64 0, .int .u64 0, .int .i64 0] 29 ?_; intro gb200 hg w8 hbox hb; have BK200 := ak_ hbox; have GW200 := ak_ (gw1_ HB GE198 hg); have GE200 := ak_ (gw1_ HB GE198 hg); replace HB := ak_ (bt_ (bw1_ HB GE198) hb); have NB198_200 := ak_ (nl_ hg BK198); have NB200_198 := ak_ (nr_ hg BK198); replace BK198 := ak_ (kb_ (kl_ BK198) hb); clear hb hbox hg; have hnb9 := NB200_198.out; have hnc9 := NB198_200.out; obtain ⟨hcz10_0, hcz10_1, hcz10_2, hcz10_3, hcz10_4, hcz10_5, hcz10_6, hcz10_7, hcz10_8, hfz10_0, hfz10_1, hfz10_2, hfz10_3, hfz10_4, hfz10_5, hfz10_6, hfz10_7, hfz10_8⟩ := kc9_ BK200.out))
  (try simp only [Act.put, setIfInBounds_toArray, set_cons_zero, set_cons_succ])
  go_cut [12] (fun v12 wc => ∃ (kq : Nat) (x12_3 : Bool), v12 = .bool x12_3 ∧ Aside0 (value_Check.j0 kq t199 x12_3 a1_0 a1_1 a1_2 a1_3 a1_4 a1_5 a1_6 a1_7 a1_8 false false a1_2 a1_3 0 0 0 0 0 = some r) ∧ Aside0 (kq ≤ k) ∧ Aside0 (wc.heap[gb198]? = some (.cells #[.bool a1_0, .bool a1_1, .int .u64 a1_2, .int .u64 a1_3, .int .u64 a1_4, .int .u64 a1_5, .int .u64 a1_6, .int .u64 a1_7, .int .i64 a1_8] 29 (0, 0))) ∧ Aside0 (wc.heap[gb200]? = some (.cells #[.bool false, .bool false, .int .u64 a1_2, .int .u64 a1_3, .int .u64 0, .int .u64 0, .int .u64 0, .int .u64 0, .int .i64 0] 29 (0, 0))) ∧ Aside0 (Below w.heap.size w wc))
  case first =>
   have H := HC4.out
   clear HC4
   by_cases c11 : a1_0 = true
   ·subst c11
    have H1 : (if a1_8 ≥ 0 then (value_Check.j0 k t199 (decide (a1_8 < (l0.length : Int))) true a1_1 a1_2 a1_3 a1_4 a1_5 a1_6 a1_7 a1_8 false false a1_2 a1_3 0 0 0 0 0) else (value_Check.j0 k t199 false true a1_1 a1_2 a1_3 a1_4 a1_5 a1_6 a1_7 a1_8 false false a1_2 a1_3 0 0 0 0 0)) = some r := by rw [if_pos rfl] at H; exact H
    clear H
    have H := H1
    clear H1
    by_cases c12 : a1_8 ≥ 0
    ·rw [if_pos c12] at H
     have c12b0 : decide (0 ≤ a1_8) = true := decide_eq_true c12
     clear c12
     (first | rw [c12b0] | (simp only [i64_w, i32_w]; rw [c12b0]) | skip)
     have H' := ak_ H
     clear H
     have hnb13 := NB198_200.out
     have hnc13 := NB200_198.out
     obtain ⟨hcz14_0, hcz14_1, hcz14_2, hcz14_3, hcz14_4, hcz14_5, hcz14_6, hcz14_7, hcz14_8, hfz14_0, hfz14_1, hfz14_2, hfz14_3, hfz14_4, hfz14_5, hfz14_6, hfz14_7, hfz14_8⟩ := kc9_ BK198.out
     go_wp2
     go_wp2
     go_meet
     case rel => exact ⟨_, (decide (a1_8 < (l0.length : Int))), rf_, H', ⟨by first | omega | exact Nat.le_refl _⟩, ⟨by (with_reducible repeat (first | refine kn_ ?_ _ | refine kd_ ?_ | refine ka_ ?_ _)); (iterate 9 refine blk_far ?_ NB198_200.out _); exact BK198.out⟩, ⟨by (with_reducible repeat (first | refine kn_ ?_ _ | refine kd_ ?_ | refine ka_ ?_ _)); exact sC_blk BK200.out rfl rfl⟩, ⟨bw2_ HB GE198 GE200⟩⟩
    ·rw [if_neg c12] at H
     have c12b0 : decide (0 ≤ a1_8) = false := decide_eq_false c12
     clear c12
     (first | rw [c12b0] | (simp only [i64_w, i32_w]; rw [c12b0]) | skip)
     have H' := ak_ H
     clear H
     have hnb15 := NB198_200.out
     have hnc15 := NB200_198.out
     obtain ⟨hcz16_0, hcz16_1, hcz16_2, hcz16_3, hcz16_4, hcz16_5, hcz16_6, hcz16_7, hcz16_8, hfz16_0, hfz16_1, hfz16_2, hfz16_3, hfz16_4, hfz16_5, hfz16_6, hfz16_7, hfz16_8⟩ := kc9_ BK198.out
     go_wp2
     go_wp2
     go_meet
     case rel => exact ⟨_, (false), rf_, H', ⟨by first | omega | exact Nat.le_refl _⟩, ⟨by (with_reducible repeat (first | refine kn_ ?_ _ | refine kd_ ?_ | refine ka_ ?_ _)); (iterate 9 refine blk_far ?_ NB198_200.out _); exact BK198.out⟩, ⟨by (with_reducible repeat (first | refine kn_ ?_ _ | refine kd_ ?_ | refine ka_ ?_ _)); exact sC_blk BK200.out rfl rfl⟩, ⟨bw2_ HB GE198 GE200⟩⟩
   ·replace c11 := Bool.eq_false_iff.mpr c11
    subst c11
    have H1 : (value_Check.j0 k t199 false false a1_1 a1_2 a1_3 a1_4 a1_5 a1_6 a1_7 a1_8 false false a1_2 a1_3 0 0 0 0 0) = some r := by rw [if_neg (show ¬ (false = true) by decide)] at H; exact H
    clear H
    have H := H1
    clear H1
    have H' := ak_ H
    clear H
    have hnb17 := NB198_200.out
    have hnc17 := NB200_198.out
    obtain ⟨hcz18_0, hcz18_1, hcz18_2, hcz18_3, hcz18_4, hcz18_5, hcz18_6, hcz18_7, hcz18_8, hfz18_0, hfz18_1, hfz18_2, hfz18_3, hfz18_4, hfz18_5, hfz18_6, hfz18_7, hfz18_8⟩ := kc9_ BK198.out
    go_wp2
    go_wp2
    go_meet
    case rel => exact ⟨_, (false), rf_, H', ⟨by first | omega | exact Nat.le_refl _⟩, ⟨by (with_reducible repeat (first | refine kn_ ?_ _ | refine kd_ ?_ | refine ka_ ?_ _)); (iterate 9 refine blk_far ?_ NB198_200.out _); exact BK198.out⟩, ⟨by (with_reducible repeat (first | refine kn_ ?_ _ | refine kd_ ?_ | refine ka_ ?_ _)); exact sC_blk BK200.out rfl rfl⟩, ⟨bw2_ HB GE198 GE200⟩⟩
  case rest =>
   clear HC4
   try clear c1
   try clear p2
   try clear c8
   try clear c9
   try clear c11
   try clear c12
   try clear c12b0
   try clear c13
   try clear c15
   try clear c17
   try clear hcz10_0 hcz10_1 hcz10_2 hcz10_3 hcz10_4 hcz10_5 hcz10_6 hcz10_7 hcz10_8
   try clear hcz14_0 hcz14_1 hcz14_2 hcz14_3 hcz14_4 hcz14_5 hcz14_6 hcz14_7 hcz14_8
   try clear hcz16_0 hcz16_1 hcz16_2 hcz16_3 hcz16_4 hcz16_5 hcz16_6 hcz16_7 hcz16_8
   try clear hcz18_0 hcz18_1 hcz18_2 hcz18_3 hcz18_4 hcz18_5 hcz18_6 hcz18_7 hcz18_8
   try clear hcz7_0 hcz7_1 hcz7_2 hcz7_3 hcz7_4 hcz7_5 hcz7_6 hcz7_7 hcz7_8
   try clear hfz10_0 hfz10_1 hfz10_2 hfz10_3 hfz10_4 hfz10_5 hfz10_6 hfz10_7 hfz10_8
   try clear hfz14_0 hfz14_1 hfz14_2 hfz14_3 hfz14_4 hfz14_5 hfz14_6 hfz14_7 hfz14_8
   try clear hfz16_0 hfz16_1 hfz16_2 hfz16_3 hfz16_4 hfz16_5 hfz16_6 hfz16_7 hfz16_8
   try clear hfz18_0 hfz18_1 hfz18_2 hfz18_3 hfz18_4 hfz18_5 hfz18_6 hfz18_7 hfz18_8
   try clear hfz7_0 hfz7_1 hfz7_2 hfz7_3 hfz7_4 hfz7_5 hfz7_6 hfz7_7 hfz7_8
   obtain ⟨kq, x12_3, rfl, HA, HJ3, BK198, BK200, HB⟩ := hcut
   cases kq with
   | zero => exact absurd HA.out (by simp [value_Check.j0])
   | succ kj3 =>
    have H := HA.out
    clear HA
    simp only [value_Check.j0] at H
    by_cases c19 : x12_3 = true
    ·subst c19
     have H1 : (if t199 = 0 then (if (!a1_0 || (a1_1 || ((!(a1_2 == 0) || (!(a1_3 == 0))) || (((!(a1_4 == 0) || (!(a1_5 == 0))) || ((!(a1_6 == 0) || (!(a1_7 == 0))))))))) = true then (some 1) else (some t199)) else (some t199)) = some r := by rw [if_pos rfl] at H; exact H
     clear H
     have H := H1
     clear H1
     by_cases c20 : t199 = 0
     ·rw [if_pos c20] at H
      have c20b0 : (t199 == 0) = true := beq_iff_eq.mpr c20
      have c20b1 : (t199 != 0) = false := bne_eq_false_iff_eq.mpr c20
      clear c20
      by_cases c21 : (!a1_0 || (a1_1 || ((!(a1_2 == 0) || (!(a1_3 == 0))) || (((!(a1_4 == 0) || (!(a1_5 == 0))) || ((!(a1_6 == 0) || (!(a1_7 == 0))))))))) = true
      ·rw [if_pos c21] at H
       have c21b0 : (!a1_0 || (a1_1 || ((!(a1_2 == 0) || (!(a1_3 == 0))) || (((!(a1_4 == 0) || (!(a1_5 == 0))) || ((!(a1_6 == 0) || (!(a1_7 == 0))))))))) = true := c21
       clear c21
       obtain rfl := Option.some.inj H
       have hnb22 := NB198_200.out
       have hnc22 := NB200_198.out
       obtain ⟨hcz23_0, hcz23_1, hcz23_2, hcz23_3, hcz23_4, hcz23_5, hcz23_6, hcz23_7, hcz23_8, hfz23_0, hfz23_1, hfz23_2, hfz23_3, hfz23_4, hfz23_5, hfz23_6, hfz23_7, hfz23_8⟩ := kc9_ BK198.out
       obtain ⟨hcz24_0, hcz24_1, hcz24_2, hcz24_3, hcz24_4, hcz24_5, hcz24_6, hcz24_7, hcz24_8, hfz24_0, hfz24_1, hfz24_2, hfz24_3, hfz24_4, hfz24_5, hfz24_6, hfz24_7, hfz24_8⟩ := kc9_ BK200.out
       go_wp2
       go_wp2
       go_ret
       exact ea_ (bw2_ HB GE198 GE200)
      ·rw [if_neg c21] at H
       have c21b0 : (!a1_0 || (a1_1 || ((!(a1_2 == 0) || (!(a1_3 == 0))) || (((!(a1_4 == 0) || (!(a1_5 == 0))) || ((!(a1_6 == 0) || (!(a1_7 == 0))))))))) = false := by simpa using c21
       clear c21
       obtain rfl := Option.some.inj H
       have hnb25 := NB198_200.out
       have hnc25 := NB200_198.out
       obtain ⟨hcz26_0, hcz26_1, hcz26_2, hcz26_3, hcz26_4, hcz26_5, hcz26_6, hcz26_7, hcz26_8, hfz26_0, hfz26_1, hfz26_2, hfz26_3, hfz26_4, hfz26_5, hfz26_6, hfz26_7, hfz26_8⟩ := kc9_ BK198.out
       obtain ⟨hcz27_0, hcz27_1, hcz27_2, hcz27_3, hcz27_4, hcz27_5, hcz27_6, hcz27_7, hcz27_8, hfz27_0, hfz27_1, hfz27_2, hfz27_3, hfz27_4, hfz27_5, hfz27_6, hfz27_7, hfz27_8⟩ := kc9_ BK200.out
       go_wp2
       go_wp2
       go_ret
       exact ea_ (bw2_ HB GE198 GE200)
     ·rw [if_neg c20] at H
      have c20b0 : (t199 == 0) = false := beq_eq_false_iff_ne.mpr c20
      have c20b1 : (t199 != 0) = true := bne_iff_ne.mpr c20
      obtain rfl := Option.some.inj H
      have hnb28 := NB198_200.out
      have hnc28 := NB200_198.out
      obtain ⟨hcz29_0, hcz29_1, hcz29_2, hcz29_3, hcz29_4, hcz29_5, hcz29_6, hcz29_7, hcz29_8, hfz29_0, hfz29_1, hfz29_2, hfz29_3, hfz29_4, hfz29_5, hfz29_6, hfz29_7, hfz29_8⟩ := kc9_ BK198.out
      obtain ⟨hcz30_0, hcz30_1, hcz30_2, hcz30_3, hcz30_4, hcz30_5, hcz30_6, hcz30_7, hcz30_8, hfz30_0, hfz30_1, hfz30_2, hfz30_3, hfz30_4, hfz30_5, hfz30_6, hfz30_7, hfz30_8⟩ := kc9_ BK200.out
      go_wp2
      go_wp2
      go_ret
      exact ea_ (bw2_ HB GE198 GE200)
    ·replace c19 := Bool.eq_false_iff.mpr c19
     subst c19
     have H1 : (if a1_1 = true then (if t199 = 0 then (if (a1_0 || (!a1_1 || ((!(a1_2 == 0) || (!(a1_3 == 0))) || (!(a1_8 == 0))))) = true then (some 1) else (some t199)) else (some t199)) else (if t199 = 0 then (if (!(a1_0 == false) || (!(a1_1 == false) || ((!(a1_2 == a1_2) || (!(a1_3 == a1_3))) || (((!(a1_4 == 0) || (!(a1_5 == 0))) || ((!(a1_6 == 0) || (!(a1_7 == 0))))) || (!(a1_8 == 0)))))) = true then (some 1) else (some t199)) else (some t199))) = some r := by rw [if_neg (show ¬ (false = true) by decide)] at H; exact H
     clear H
     have H := H1
     clear H1
     by_cases c31 : a1_1 = true
     ·subst c31
      have H1 : (if t199 = 0 then (if (a1_0 || (!true || ((!(a1_2 == 0) || (!(a1_3 == 0))) || (!(a1_8 == 0))))) = true then (some 1) else (some t199)) else (some t199)) = some r := by rw [if_pos rfl] at H; exact H
      clear H
      have H := H1
      clear H1
      by_cases c32 : t199 = 0
      ·rw [if_pos c32] at H
       have c32b0 : (t199 == 0) = true := beq_iff_eq.mpr c32
       have c32b1 : (t199 != 0) = false := bne_eq_false_iff_eq.mpr c32
       clear c32
       by_cases c33 : (a1_0 || (!true || ((!(a1_2 == 0) || (!(a1_3 == 0))) || (!(a1_8 == 0))))) = true
       ·rw [if_pos c33] at H
        have c33b0 : (a1_0 || (!true || ((!(a1_2 == 0) || (!(a1_3 == 0))) || (!(a1_8 == 0))))) = true := c33
        simp only [Bool.not_true, Bool.not_false, Bool.false_or, Bool.true_or, beq_self_eq_true, beq_false, beq_true, Bool.not_not] at c33b0
        clear c33
        obtain rfl := Option.some.inj H
        have hnb34 := NB198_200.out
        have hnc34 := NB200_198.out
        obtain ⟨hcz35_0, hcz35_1, hcz35_2, hcz35_3, hcz35_4, hcz35_5, hcz35_6, hcz35_7, hcz35_8, hfz35_0, hfz35_1, hfz35_2, hfz35_3, hfz35_4, hfz35_5, hfz35_6, hfz35_7, hfz35_8⟩ := kc9_ BK198.out
        obtain ⟨hcz36_0, hcz36_1, hcz36_2, hcz36_3, hcz36_4, hcz36_5, hcz36_6, hcz36_7, hcz36_8, hfz36_0, hfz36_1, hfz36_2, hfz36_3, hfz36_4, hfz36_5, hfz36_6, hfz36_7, hfz36_8⟩ := kc9_ BK200.out
        go_wp2
        go_wp2
        go_ret
        exact ea_ (bw2_ HB GE198 GE200)
       ·rw [if_neg c33] at H
        have c33b0 : (a1_0 || (!true || ((!(a1_2 == 0) || (!(a1_3 == 0))) || (!(a1_8 == 0))))) = false := by simpa using c33
        simp only [Bool.not_true, Bool.not_false, Bool.false_or, Bool.true_or, beq_self_eq_true, beq_false, beq_true, Bool.not_not] at c33b0
        clear c33
        obtain rfl := Option.some.inj H
        have hnb37 := NB198_200.out
        have hnc37 := NB200_198.out
        obtain ⟨hcz38_0, hcz38_1, hcz38_2, hcz38_3, hcz38_4, hcz38_5, hcz38_6, hcz38_7, hcz38_8, hfz38_0, hfz38_1, hfz38_2, hfz38_3, hfz38_4, hfz38_5, hfz38_6, hfz38_7, hfz38_8⟩ := kc9_ BK198.out
        obtain ⟨hcz39_0, hcz39_1, hcz39_2, hcz39_3, hcz39_4, hcz39_5, hcz39_6, hcz39_7, hcz39_8, hfz39_0, hfz39_1, hfz39_2, hfz39_3, hfz39_4, hfz39_5, hfz39_6, hfz39_7, hfz39_8⟩ := kc9_ BK200.out
        go_wp2
        go_wp2
        go_ret
        exact ea_ (bw2_ HB GE198 GE200)
      ·rw [if_neg c32] at H
       have c32b0 : (t199 == 0) = false := beq_eq_false_iff_ne.mpr c32
       have c32b1 : (t199 != 0) = true := bne_iff_ne.mpr c32
       obtain rfl := Option.some.inj H
       have hnb40 := NB198_200.out
       have hnc40 := NB200_198.out
       obtain ⟨hcz41_0, hcz41_1, hcz41_2, hcz41_3, hcz41_4, hcz41_5, hcz41_6, hcz41_7, hcz41_8, hfz41_0, hfz41_1, hfz41_2, hfz41_3, hfz41_4, hfz41_5, hfz41_6, hfz41_7, hfz41_8⟩ := kc9_ BK198.out
       obtain ⟨hcz42_0, hcz42_1, hcz42_2, hcz42_3, hcz42_4, hcz42_5, hcz42_6, hcz42_7, hcz42_8, hfz42_0, hfz42_1, hfz42_2, hfz42_3, hfz42_4, hfz42_5, hfz42_6, hfz42_7, hfz42_8⟩ := kc9_ BK200.out
       go_wp2
       go_wp2
       go_ret
       exact ea_ (bw2_ HB GE198 GE200)
     ·replace c31 := Bool.eq_false_iff.mpr c31
      subst c31
      have H1 : (if t199 = 0 then (if (!(a1_0 == false) || (!(false == false) || ((!(a1_2 == a1_2) || (!(a1_3 == a1_3))) || (((!(a1_4 == 0) || (!(a1_5 == 0))) || ((!(a1_6 == 0) || (!(a1_7 == 0))))) || (!(a1_8 == 0)))))) = true then (some 1) else (some t199)) else (some t199)) = some r := by rw [if_neg (show ¬ (false = true) by decide)] at H; exact H
      clear H
      have H := H1
      clear H1
      by_cases c43 : t199 = 0
      ·rw [if_pos c43] at H
       have c43b0 : (t199 == 0) = true := beq_iff_eq.mpr c43
       have c43b1 : (t199 != 0) = false := bne_eq_false_iff_eq.mpr c43
       clear c43
       by_cases c44 : (!(a1_0 == false) || (!(false == false) || ((!(a1_2 == a1_2) || (!(a1_3 == a1_3))) || (((!(a1_4 == 0) || (!(a1_5 == 0))) || ((!(a1_6 == 0) || (!(a1_7 == 0))))) || (!(a1_8 == 0)))))) = true
       ·rw [if_pos c44] at H
        have c44b0 : (!(a1_0 == false) || (!(false == false) || ((!(a1_2 == a1_2) || (!(a1_3 == a1_3))) || (((!(a1_4 == 0) || (!(a1_5 == 0))) || ((!(a1_6 == 0) || (!(a1_7 == 0))))) || (!(a1_8 == 0)))))) = true := c44
        simp only [Bool.not_true, Bool.not_false, Bool.false_or, Bool.true_or, beq_self_eq_true, beq_false, beq_true, Bool.not_not] at c44b0
        clear c44
        obtain rfl := Option.some.inj H
        have hnb45 := NB198_200.out
        have hnc45 := NB200_198.out
        obtain ⟨hcz46_0, hcz46_1, hcz46_2, hcz46_3, hcz46_4, hcz46_5, hcz46_6, hcz46_7, hcz46_8, hfz46_0, hfz46_1, hfz46_2, hfz46_3, hfz46_4, hfz46_5, hfz46_6, hfz46_7, hfz46_8⟩ := kc9_ BK198.out
        obtain ⟨hcz47_0, hcz47_1, hcz47_2, hcz47_3, hcz47_4, hcz47_5, hcz47_6, hcz47_7, hcz47_8, hfz47_0, hfz47_1, hfz47_2, hfz47_3, hfz47_4, hfz47_5, hfz47_6, hfz47_7, hfz47_8⟩ := kc9_ BK200.out
        go_wp2
        go_wp2
        go_ret
        exact ea_ (bw2_ HB GE198 GE200)
       ·rw [if_neg c44] at H
        have c44b0 : (!(a1_0 == false) || (!(false == false) || ((!(a1_2 == a1_2) || (!(a1_3 == a1_3))) || (((!(a1_4 == 0) || (!(a1_5 == 0))) || ((!(a1_6 == 0) || (!(a1_7 == 0))))) || (!(a1_8 == 0)))))) = false := by simpa using c44
        simp only [Bool.not_true, Bool.not_false, Bool.false_or, Bool.true_or, beq_self_eq_true, beq_false, beq_true, Bool.not_not] at c44b0
        clear c44
        obtain rfl := Option.some.inj H
        have hnb48 := NB198_200.out
        have hnc48 := NB200_198.out
        obtain ⟨hcz49_0, hcz49_1, hcz49_2, hcz49_3, hcz49_4, hcz49_5, hcz49_6, hcz49_7, hcz49_8, hfz49_0, hfz49_1, hfz49_2, hfz49_3, hfz49_4, hfz49_5, hfz49_6, hfz49_7, hfz49_8⟩ := kc9_ BK198.out
        obtain ⟨hcz50_0, hcz50_1, hcz50_2, hcz50_3, hcz50_4, hcz50_5, hcz50_6, hcz50_7, hcz50_8, hfz50_0, hfz50_1, hfz50_2, hfz50_3, hfz50_4, hfz50_5, hfz50_6, hfz50_7, hfz50_8⟩ := kc9_ BK200.out
        go_wp2
        go_wp2
        go_ret
        exact ea_ (bw2_ HB GE198 GE200)
      ·rw [if_neg c43] at H
       have c43b0 : (t199 == 0) = false := beq_eq_false_iff_ne.mpr c43
       have c43b1 : (t199 != 0) = true := bne_iff_ne.mpr c43
       obtain rfl := Option.some.inj H
       have hnb51 := NB198_200.out
       have hnc51 := NB200_198.out
       obtain ⟨hcz52_0, hcz52_1, hcz52_2, hcz52_3, hcz52_4, hcz52_5, hcz52_6, hcz52_7, hcz52_8, hfz52_0, hfz52_1, hfz52_2, hfz52_3, hfz52_4, hfz52_5, hfz52_6, hfz52_7, hfz52_8⟩ := kc9_ BK198.out
       go_wp2
       go_wp2
       go_ret
       exact ea_ (bw2_ HB GE198 GE200)
def store_open.f (k : Nat) (l0 : List (S75)) (a1_0 : Bool) (a1_1 : Bool) (a1_2 : Int) (a1_3 : Int) (a1_4 : Int) (a1_5 : Int) (a1_6 : Int) (a1_7 : Int) (a1_8 : Int) : Option (Bool) := (value_Check.f k l0 a1_0 a1_1 a1_2 a1_3 a1_4 a1_5 a1_6 a1_7 a1_8).bind fun t202 => (if t202 = 0 then (if a1_1 = true then (some false) else (if a1_0 = true then (if 0 ≤ a1_8 then (if a1_8 < (l0.length : Int) then (some (((rd_T75 l0 a1_8).f0) != 5)) else (none)) else (none)) else (some true))) else (some false))
theorem store_open.mono : ∀ a0 a1 a2 a3 a4 a5 a6 a7 a8 a9 k, LeO (store_open.f k a0 a1 a2 a3 a4 a5 a6 a7 a8 a9) (store_open.f (k + 1) a0 a1 a2 a3 a4 a5 a6 a7 a8 a9) := by
  intro a0 a1 a2 a3 a4 a5 a6 a7 a8 a9 k
  unfold store_open.f
  repeat' first | (with_reducible first | exact value_Check.mono .. | exact LeO.refl _ | exact LeO.none _ | refine LeO.ite ?_ ?_ | refine LeO.bind ?_ (fun _ => ?_)) | exact value_Check.mono .. | refine LeO.ite ?_ ?_ | refine LeO.bind ?_ (fun _ => ?_)
set_option maxHeartbeats 8000000 in
set_option maxRecDepth 100000 in
theorem store_open.calls (k : Nat) (A0 : Option Addr) (c0 : Nat) (l0 : List (S75)) (a1_0 : Bool) (a1_1 : Bool) (a1_2 : Int) (a1_3 : Int) (a1_4 : Int) (a1_5 : Int) (a1_6 : Int) (a1_7 : Int) (a1_8 : Int) (r : Bool) (w : World) (hr0 : Kd.C k75 w A0 l0.length l0) (hc0 : l0.length ≤ c0) (h : store_open.f k l0 a1_0 a1_1 a1_2 a1_3 a1_4 a1_5 a1_6 a1_7 a1_8 = some r) :
   Calls Try.prog 89 #[.slice A0 l0.length c0, .agg #[.bool a1_0, .bool a1_1, .int .u64 a1_2, .int .u64 a1_3, .int .u64 a1_4, .int .u64 a1_5, .int .u64 a1_6, .int .u64 a1_7, .int .i64 a1_8]] w fun e w' => e = .returned (.bool r) ∧ Below w.heap.size w w' := by
  have hu29 := underlying29
  have HR0 := ak_ hr0
  have HC0 := ak_ hc0
  clear hr0 hc0
  have HB := ak_ (Below.refl w.heap.size w)
  have H : ((value_Check.f k l0 a1_0 a1_1 a1_2 a1_3 a1_4 a1_5 a1_6 a1_7 a1_8).bind fun t202 => (if t202 = 0 then (if a1_1 = true then (some false) else (if a1_0 = true then (if 0 ≤ a1_8 then (if a1_8 < (l0.length : Int) then (some (((rd_T75 l0 a1_8).f0) != 5)) else (none)) else (none)) else (some true))) else (some false))) = some r := h
  clear h
  replace H := bind_eq_some_iff.mp H
  obtain ⟨t202, A30, H⟩ := H
  replace H : (if t202 = 0 then (if a1_1 = true then (some false) else (if a1_0 = true then (if 0 ≤ a1_8 then (if a1_8 < (l0.length : Int) then (some (((rd_T75 l0 a1_8).f0) != 5)) else (none)) else (none)) else (some true))) else (some false)) = some r := H
  have A3 := ak_ A30
  clear A30
  by_cases c4 : t202 = 0
  ·rw [if_pos c4] at H
   have c4b0 : (t202 == 0) = true := beq_iff_eq.mpr c4
   have c4b1 : (t202 != 0) = false := bne_eq_false_iff_eq.mpr c4
   clear c4
   by_cases c5 : a1_1 = true
   ·subst c5
    have H1 : (some false) = some r := by rw [if_pos rfl] at H; exact H
    clear H
    have H := H1
    clear H1
    obtain rfl := Option.some.inj H
    go_enter func89, ntmps89
    go_wp2_with (first | ((with_reducible refine gate_dst (N := 3) rfl ?_); refine bx_ 3 #[.bool a1_0, .bool true, .int .u64 a1_2, .int .u64 a1_3, .int .u64 a1_4, .int .u64 a1_5, .int .u64 a1_6, .int .u64 a1_7, .int .i64 a1_8] 29 ?_; intro gb201 hg w6 hbox hb; have BK201 := ak_ hbox; have GW201 := ak_ (gs_ hg HB); have GE201 := ak_ (gs_ hg HB); replace HB := ak_ (bt_ (bl_ HB) hb); clear hb hbox hg; obtain ⟨hcz7_0, hcz7_1, hcz7_2, hcz7_3, hcz7_4, hcz7_5, hcz7_6, hcz7_7, hcz7_8, hfz7_0, hfz7_1, hfz7_2, hfz7_3, hfz7_4, hfz7_5, hfz7_6, hfz7_7, hfz7_8⟩ := kc9_ BK201.out) | ((with_reducible refine gate_callee (f := 127) rfl ?_); refine gl_ (some 7) func127 #[.slice A0 l0.length c0, .agg #[.bool a1_0, .bool true, .int .u64 a1_2, .int .u64 a1_3, .int .u64 a1_4, .int .u64 a1_5, .int .u64 a1_6, .int .u64 a1_7, .int .i64 a1_8]] ?_; (with_reducible refine (value_Check.calls k _ _ l0 a1_0 true a1_2 a1_3 a1_4 a1_5 a1_6 a1_7 a1_8 t202 _ ?side1 ?side2 A3.out).mono ?_); (case side1 => repeat (first | exact (Kd.C_below HR0.out HB.out) | (with_reducible refine Kd.C_alloc ?_ _) | (with_reducible refine Kd.C_drewN ?_ _) | (with_reducible refine Kd.C_drew ?_))); (case side2 => exact HC0.out); rintro e w8 ⟨rfl, hb⟩; refine ⟨_, rfl, ?_⟩; replace BK201 := ak_ (kb_ (kl_ BK201) hb); replace HB := ak_ (bt_ (bw1_ HB GE201) hb); (try clear hb); (try clear hk); obtain ⟨hcz9_0, hcz9_1, hcz9_2, hcz9_3, hcz9_4, hcz9_5, hcz9_6, hcz9_7, hcz9_8, hfz9_0, hfz9_1, hfz9_2, hfz9_3, hfz9_4, hfz9_5, hfz9_6, hfz9_7, hfz9_8⟩ := kc9_ BK201.out))
    go_ret
    exact ea_ (bw1_ HB GE201)
   ·replace c5 := Bool.eq_false_iff.mpr c5
    subst c5
    have H1 : (if a1_0 = true then (if 0 ≤ a1_8 then (if a1_8 < (l0.length : Int) then (some (((rd_T75 l0 a1_8).f0) != 5)) else (none)) else (none)) else (some true)) = some r := by rw [if_neg (show ¬ (false = true) by decide)] at H; exact H
    clear H
    have H := H1
    clear H1
    by_cases c10 : a1_0 = true
    ·subst c10
     have H1 : (if 0 ≤ a1_8 then (if a1_8 < (l0.length : Int) then (some (((rd_T75 l0 a1_8).f0) != 5)) else (none)) else (none)) = some r := by rw [if_pos rfl] at H; exact H
     clear H
     have H := H1
     clear H1
     by_cases c11 : 0 ≤ a1_8
     ·rw [if_pos c11] at H
      have c11b0 := decide_eq_true c11
      clear c11
      by_cases c12 : a1_8 < (l0.length : Int)
      ·rw [if_pos c12] at H
       have c12b0 := decide_eq_true c12
       clear c12
       obtain rfl := Option.some.inj H
       go_enter func89, ntmps89
       go_wp2_with (first | ((with_reducible refine gate_dst (N := 3) rfl ?_); refine bx_ 3 #[.bool true, .bool false, .int .u64 a1_2, .int .u64 a1_3, .int .u64 a1_4, .int .u64 a1_5, .int .u64 a1_6, .int .u64 a1_7, .int .i64 a1_8] 29 ?_; intro gb201 hg w13 hbox hb; have BK201 := ak_ hbox; have GW201 := ak_ (gs_ hg HB); have GE201 := ak_ (gs_ hg HB); replace HB := ak_ (bt_ (bl_ HB) hb); clear hb hbox hg; obtain ⟨hcz14_0, hcz14_1, hcz14_2, hcz14_3, hcz14_4, hcz14_5, hcz14_6, hcz14_7, hcz14_8, hfz14_0, hfz14_1, hfz14_2, hfz14_3, hfz14_4, hfz14_5, hfz14_6, hfz14_7, hfz14_8⟩ := kc9_ BK201.out) | ((with_reducible refine gate_callee (f := 127) rfl ?_); refine gl_ (some 7) func127 #[.slice A0 l0.length c0, .agg #[.bool true, .bool false, .int .u64 a1_2, .int .u64 a1_3, .int .u64 a1_4, .int .u64 a1_5, .int .u64 a1_6, .int .u64 a1_7, .int .i64 a1_8]] ?_; (with_reducible refine (value_Check.calls k _ _ l0 true false a1_2 a1_3 a1_4 a1_5 a1_6 a1_7 a1_8 t202 _ ?side1 ?side2 A3.out).mono ?_); (case side1 => repeat (first | exact (Kd.C_below HR0.out HB.out) | (with_reducible refine Kd.C_alloc ?_ _) | (with_reducible refine Kd.C_drewN ?_ _) | (with_reducible refine Kd.C_drew ?_))); (case side2 => exact HC0.out); rintro e w15 ⟨rfl, hb⟩; refine ⟨_, rfl, ?_⟩; replace BK201 := ak_ (kb_ (kl_ BK201) hb); replace HB := ak_ (bt_ (bw1_ HB GE201) hb); (try clear hb); (try clear hk); obtain ⟨hcz16_0, hcz16_1, hcz16_2, hcz16_3, hcz16_4, hcz16_5, hcz16_6, hcz16_7, hcz16_8, hfz16_0, hfz16_1, hfz16_2, hfz16_3, hfz16_4, hfz16_5, hfz16_6, hfz16_7, hfz16_8⟩ := kc9_ BK201.out; have p203 : 0 ≤ (a1_8 : Int) := od_ (by first | (with_reducible assumption) | assumption); have q203 : a1_8 < (l0.length : Int) := od_ (by first | (with_reducible assumption) | assumption); obtain ⟨ad203, e203, hx203_0, hx203_1, hx203_2⟩ := at_T75 HR0.out a1_8 p203 q203; cases e203; replace hx203_0 := cx_ HB hx203_0; replace hx203_1 := cx_ HB hx203_1; replace hx203_2 := cx_ HB hx203_2; replace p203 := eq_true p203; replace q203 := eq_true q203))
       go_ret
       exact ea_ (bw1_ HB GE201)
      ·rw [if_neg c12] at H
       exact absurd H (by simp)
     ·rw [if_neg c11] at H
      exact absurd H (by simp)
    ·replace c10 := Bool.eq_false_iff.mpr c10
     subst c10
     have H1 : (some true) = some r := by rw [if_neg (show ¬ (false = true) by decide)] at H; exact H
     clear H
     have H := H1
     clear H1
     obtain rfl := Option.some.inj H
     go_enter func89, ntmps89
     go_wp2_with (first | ((with_reducible refine gate_dst (N := 3) rfl ?_); refine bx_ 3 #[.bool false, .bool false, .int .u64 a1_2, .int .u64 a1_3, .int .u64 a1_4, .int .u64 a1_5, .int .u64 a1_6, .int .u64 a1_7, .int .i64 a1_8] 29 ?_; intro gb201 hg w17 hbox hb; have BK201 := ak_ hbox; have GW201 := ak_ (gs_ hg HB); have GE201 := ak_ (gs_ hg HB); replace HB := ak_ (bt_ (bl_ HB) hb); clear hb hbox hg; obtain ⟨hcz18_0, hcz18_1, hcz18_2, hcz18_3, hcz18_4, hcz18_5, hcz18_6, hcz18_7, hcz18_8, hfz18_0, hfz18_1, hfz18_2, hfz18_3, hfz18_4, hfz18_5, hfz18_6, hfz18_7, hfz18_8⟩ := kc9_ BK201.out) | ((with_reducible refine gate_callee (f := 127) rfl ?_); refine gl_ (some 7) func127 #[.slice A0 l0.length c0, .agg #[.bool false, .bool false, .int .u64 a1_2, .int .u64 a1_3, .int .u64 a1_4, .int .u64 a1_5, .int .u64 a1_6, .int .u64 a1_7, .int .i64 a1_8]] ?_; (with_reducible refine (value_Check.calls k _ _ l0 false false a1_2 a1_3 a1_4 a1_5 a1_6 a1_7 a1_8 t202 _ ?side1 ?side2 A3.out).mono ?_); (case side1 => repeat (first | exact (Kd.C_below HR0.out HB.out) | (with_reducible refine Kd.C_alloc ?_ _) | (with_reducible refine Kd.C_drewN ?_ _) | (with_reducible refine Kd.C_drew ?_))); (case side2 => exact HC0.out); rintro e w19 ⟨rfl, hb⟩; refine ⟨_, rfl, ?_⟩; replace BK201 := ak_ (kb_ (kl_ BK201) hb); replace HB := ak_ (bt_ (bw1_ HB GE201) hb); (try clear hb); (try clear hk); obtain ⟨hcz20_0, hcz20_1, hcz20_2, hcz20_3, hcz20_4, hcz20_5, hcz20_6, hcz20_7, hcz20_8, hfz20_0, hfz20_1, hfz20_2, hfz20_3, hfz20_4, hfz20_5, hfz20_6, hfz20_7, hfz20_8⟩ := kc9_ BK201.out))
     go_ret
     exact ea_ (bw1_ HB GE201)
  ·rw [if_neg c4] at H
   have c4b0 : (t202 == 0) = false := beq_eq_false_iff_ne.mpr c4
   have c4b1 : (t202 != 0) = true := bne_iff_ne.mpr c4
   obtain rfl := Option.some.inj H
   go_enter func89, ntmps89
   go_wp2_with (first | ((with_reducible refine gate_dst (N := 3) rfl ?_); refine bx_ 3 #[.bool a1_0, .bool a1_1, .int .u64 a1_2, .int .u64 a1_3, .int .u64 a1_4, .int .u64 a1_5, .int .u64 a1_6, .int .u64 a1_7, .int .i64 a1_8] 29 ?_; intro gb201 hg w21 hbox hb; have BK201 := ak_ hbox; have GW201 := ak_ (gs_ hg HB); have GE201 := ak_ (gs_ hg HB); replace HB := ak_ (bt_ (bl_ HB) hb); clear hb hbox hg; obtain ⟨hcz22_0, hcz22_1, hcz22_2, hcz22_3, hcz22_4, hcz22_5, hcz22_6, hcz22_7, hcz22_8, hfz22_0, hfz22_1, hfz22_2, hfz22_3, hfz22_4, hfz22_5, hfz22_6, hfz22_7, hfz22_8⟩ := kc9_ BK201.out) | ((with_reducible refine gate_callee (f := 127) rfl ?_); refine gl_ (some 7) func127 #[.slice A0 l0.length c0, .agg #[.bool a1_0, .bool a1_1, .int .u64 a1_2, .int .u64 a1_3, .int .u64 a1_4, .int .u64 a1_5, .int .u64 a1_6, .int .u64 a1_7, .int .i64 a1_8]] ?_; (with_reducible refine (value_Check.calls k _ _ l0 a1_0 a1_1 a1_2 a1_3 a1_4 a1_5 a1_6 a1_7 a1_8 t202 _ ?side1 ?side2 A3.out).mono ?_); (case side1 => repeat (first | exact (Kd.C_below HR0.out HB.out) | (with_reducible refine Kd.C_alloc ?_ _) | (with_reducible refine Kd.C_drewN ?_ _) | (with_reducible refine Kd.C_drew ?_))); (case side2 => exact HC0.out); rintro e w23 ⟨rfl, hb⟩; refine ⟨_, rfl, ?_⟩; replace BK201 := ak_ (kb_ (kl_ BK201) hb); replace HB := ak_ (bt_ (bw1_ HB GE201) hb); (try clear hb); (try clear hk)))
   go_ret
   exact ea_ (bw1_ HB GE201)
end Go.Proofs.Ytoljdfgkkkpnbaa.MP
