-- written by a program of this session (wip/tools/mprint.sh) for this seat
import Derived.Test.YtoljdfgkkkpnbaaMPx0
import Derived.Test.YtoljdfgkkkpnbaaMPx1
import Derived.Test.YtoljdfgkkkpnbaaMPx2
import Derived.Test.YtoljdfgkkkpnbaaMPx3
import Derived.WalkMore
import Derived.Laws.StructEq
import Derived.ChangeKeysEq
namespace Go.Proofs.Ytoljdfgkkkpnbaa.MP
open Go.RowKit Go.Proofs.YtoljdfgkkkpnbaaW.PrintWords Go.Proofs.YtoljdfgkkkpnbaaW.PrintLast Go.Proofs.YtoljdfgkkkpnbaaW.PrintMore
open Option (bind_eq_some_iff some.injEq)
open _root_.Go.Proofs.Try
open List (setIfInBounds_toArray set_cons_zero set_cons_succ map_toArray map_cons map_nil length_drop length_take)
attribute [local go_sem] max2_int min2_int max_two min_two max_three min_three max_four min_four
set_option linter.unusedVariables false
set_option linter.unusedSimpArgs false
attribute [local go_sem high] eqA39
def bA4 (k n : Nat) : Array Bool := (Array.range n).map fun i => decide (i < k)
mutual
def store_Check.j0 : Nat → List (S75) → List (S65) → List (S39) → Bool → Option (Int)
  | 0, _, _, _, _ => none
  | k + 1, x0, x4, x11, x35 => if x35 = true then (some 1) else (store_Check.l0 k x0 x4 x11 x4 (x4.length : Int) 0)
def store_Check.l0 : Nat → List (S75) → List (S65) → List (S39) → List (S65) → Int → Int → Option (Int)
  | 0, _, _, _, _, _, _ => none
  | k + 1, x0, x4, x11, x36, x37, x38 => if x38 < x37 then (if 0 ≤ x38 then (if x38 < (x36.length : Int) then (if x38 < (x11.length : Int) then (if (!(((rd_T65 x36 x38).f0.f0) == ((rd_T39 x11 x38).f0)) || (!(((rd_T65 x36 x38).f0.f1) == ((rd_T39 x11 x38).f1)))) = true then (some 1) else ((store_open.f k x0 ((rd_T65 x36 x38).f1.f0) ((rd_T65 x36 x38).f1.f1) ((rd_T65 x36 x38).f1.f2.f0) ((rd_T65 x36 x38).f1.f2.f1) ((rd_T65 x36 x38).f1.f3.f0.f0) ((rd_T65 x36 x38).f1.f3.f0.f1) ((rd_T65 x36 x38).f1.f3.f1.f0) ((rd_T65 x36 x38).f1.f3.f1.f1) ((rd_T65 x36 x38).f1.f4)).bind fun t212 => (if t212 = true then (if 0 < (x4.length : Int) then (if (((rd_T65 x36 x38).f1.f0) != ((rd_T65 x4 0).f1.f0)) = true then (some 1) else (store_Check.l0 k x0 x4 x11 x36 x37 (wrap64 (x38 + 1)))) else (none)) else (some 1)))) else (none)) else (none)) else (none)) else (some 0)
end
def store_Check.f (k : Nat) (l0 : List (S75)) (a1 : Int) (a2 : Int) (a3 : Int) (l4 : List (S65)) : Option (Int) := (store_Pairs.f k a1 a2 a3).bind fun bt204 => (if bt204.2 = 0 then ((term_Check.f l0).bind fun t208 => (if t208 = 0 then (store_Check.j0 k l0 l4 bt204.1 ((l4.length : Int) != (bt204.1.length : Int))) else (store_Check.j0 k l0 l4 bt204.1 true))) else (store_Check.j0 k l0 l4 bt204.1 true))
theorem store_Check.mono_l : ∀ k, (∀ y0 y1 y2 y3, LeO (store_Check.j0 k y0 y1 y2 y3) (store_Check.j0 (k + 1) y0 y1 y2 y3)) ∧ (∀ y0 y1 y2 y3 y4 y5, LeO (store_Check.l0 k y0 y1 y2 y3 y4 y5) (store_Check.l0 (k + 1) y0 y1 y2 y3 y4 y5))
  | 0 => ⟨fun _ _ _ _ r h => by simp [store_Check.j0] at h, fun _ _ _ _ _ _ r h => by simp [store_Check.l0] at h⟩
  | k + 1 => by
   obtain ⟨ih0, ih1⟩ := store_Check.mono_l k
   refine ⟨?_, ?_⟩
   all_goals intros
   all_goals first | unfold store_Check.j0 | unfold store_Check.l0
   all_goals repeat' first | (with_reducible first | exact ih0 .. | exact ih1 .. | exact store_Pairs.mono .. | exact store_open.mono .. | exact LeO.refl _ | exact LeO.none _ | refine LeO.ite ?_ ?_ | refine LeO.bind ?_ (fun _ => ?_)) | exact ih0 .. | exact ih1 .. | exact store_Pairs.mono .. | exact store_open.mono .. | refine LeO.ite ?_ ?_ | refine LeO.bind ?_ (fun _ => ?_)
theorem store_Check.mono : ∀ a0 a1 a2 a3 a4 k, LeO (store_Check.f k a0 a1 a2 a3 a4) (store_Check.f (k + 1) a0 a1 a2 a3 a4) := by
  intro a0 a1 a2 a3 a4 k
  obtain ⟨ih0, ih1⟩ := store_Check.mono_l k
  unfold store_Check.f
  repeat' first | (with_reducible first | exact ih0 .. | exact ih1 .. | exact store_Pairs.mono .. | exact store_open.mono .. | exact LeO.refl _ | exact LeO.none _ | refine LeO.ite ?_ ?_ | refine LeO.bind ?_ (fun _ => ?_)) | exact ih0 .. | exact ih1 .. | exact store_Pairs.mono .. | exact store_open.mono .. | refine LeO.ite ?_ ?_ | refine LeO.bind ?_ (fun _ => ?_)
def store_Check.T7 : Bool × List (List Nat × List Nat) := (true, [([], []), ([0], [0]), ([], []), ([], []), ([2, 3], [2, 3]), ([4], [4]), ([1, 5], [1, 5]), ([6], [6]), ([7], [7]), ([7], [7]), ([9, 7], [7, 9]), ([8, 10, 7, 7], [7, 8, 10]), ([11, 7], [7, 11]), ([7, 12], [7, 12]), ([13, 11], [13]), ([14], [14]), ([15, 14], [14, 15]), ([16, 14], [14, 16]), ([14], [14]), ([18, 14], [14, 18]), ([19, 14], [14, 19]), ([20, 14], [14, 20]), ([21, 14], [14, 21]), ([17, 22, 14], [14, 17, 22]), ([14, 23], [14, 23])])
def store_Check.B7 : List Nat := [0, 1, 0, 0, 12, 28, 63, 127, 255, 255, 767, 2047, 4095, 8191, 16383, 32767, 65535, 131071, 32767, 294911, 819199, 1867775, 3964927, 8388607, 16777215]
theorem store_Check.tab7 : rtab .any (opsOf Try.f42 7) = store_Check.T7 := by kernel_rfl
theorem store_Check.bits7 : waitsOk store_Check.T7.2 store_Check.B7 = true := by kernel_rfl
set_option maxHeartbeats 8000000 in
set_option maxRecDepth 100000 in
theorem store_Check.calls (k : Nat) (A0 : Option Addr) (c0 : Nat) (l0 : List (S75)) (a1 : Int) (a2 : Int) (a3 : Int) (A4 : Option Addr) (c4 : Nat) (l4 : List (S65)) (r : Int) (w : World) (hr0 : Kd.C k75 w A0 l0.length l0) (hc0 : l0.length ≤ c0) (hr4 : Kd.C k65 w A4 l4.length l4) (hc4 : l4.length ≤ c4) (h : store_Check.f k l0 a1 a2 a3 l4 = some r) :
   Calls Try.prog 42 #[.slice A0 l0.length c0, .int .i64 a1, .int .i64 a2, .int .u64 a3, .slice A4 l4.length c4] w fun e w' => e = .returned (.int .i64 r) ∧ Below w.heap.size w w' := by
  have hu65 := underlying65
  have hu39 := underlying39
  have hu29 := underlying29
  have HR0 := ak_ hr0
  have HC0 := ak_ hc0
  clear hr0 hc0
  have HR4 := ak_ hr4
  have HC4 := ak_ hc4
  clear hr4 hc4
  have HB := ak_ (Below.refl w.heap.size w)
  have H : ((store_Pairs.f k a1 a2 a3).bind fun bt204 => (if bt204.2 = 0 then ((term_Check.f l0).bind fun t208 => (if t208 = 0 then (store_Check.j0 k l0 l4 bt204.1 ((l4.length : Int) != (bt204.1.length : Int))) else (store_Check.j0 k l0 l4 bt204.1 true))) else (store_Check.j0 k l0 l4 bt204.1 true))) = some r := h
  clear h
  replace H := bind_eq_some_iff.mp H
  obtain ⟨⟨t204, t205⟩, A60, H⟩ := H
  replace H : (if t205 = 0 then ((term_Check.f l0).bind fun t208 => (if t208 = 0 then (store_Check.j0 k l0 l4 t204 ((l4.length : Int) != (t204.length : Int))) else (store_Check.j0 k l0 l4 t204 true))) else (store_Check.j0 k l0 l4 t204 true)) = some r := H
  have A6 := ak_ A60
  clear A60
  have HC7 := ak_ H
  clear H
  go_enter func42, ntmps42
  go_upto_region 2 with (first | ((with_reducible refine gate_callee (f := 77) rfl ?_); refine gl_ (some 19) func77 #[.int .i64 a1, .int .i64 a2, .int .u64 a3] ?_; (with_reducible refine (store_Pairs.calls k a1 a2 a3 t204 t205 _ A6.out).mono ?_); rintro e w8 ⟨v206, rfl, ho0, hb⟩; refine ⟨_, rfl, ?_⟩; have HO207 := ak_ (Kd.R_lower ho0 (bz_ (bl_ HB))); replace HB := ak_ (bt_ (bl_ HB) hb); (try clear hb); (try clear hk); (try clear ho0)))
  (try simp only [Act.put, setIfInBounds_toArray, set_cons_zero, set_cons_succ])
  go_cut [35] (fun v35 wc => ∃ (kq : Nat) (x35_6 : Bool), v35 = .bool x35_6 ∧ Aside0 (store_Check.j0 kq l0 l4 t204 x35_6 = some r) ∧ Aside0 (kq ≤ k) ∧ Aside0 (Kd.R k39 39 wc w.heap.size (fun _ => True) v206 t204) ∧ Aside0 (Below w.heap.size w wc))
  case first =>
   have H := HC7.out
   clear HC7
   by_cases c9 : t205 = 0
   ·rw [if_pos c9] at H
    have c9b0 : (t205 == 0) = true := beq_iff_eq.mpr c9
    have c9b1 : (t205 != 0) = false := bne_eq_false_iff_eq.mpr c9
    clear c9
    (first | rw [c9b0] | (simp only [i64_w, i32_w]; rw [c9b0]) | skip)
    replace H := bind_eq_some_iff.mp H
    obtain ⟨t208, A100, H⟩ := H
    replace H : (if t208 = 0 then (store_Check.j0 k l0 l4 t204 ((l4.length : Int) != (t204.length : Int))) else (store_Check.j0 k l0 l4 t204 true)) = some r := H
    have A10 := ak_ A100
    clear A100
    by_cases c11 : t208 = 0
    ·rw [if_pos c11] at H
     have c11b0 : (t208 == 0) = true := beq_iff_eq.mpr c11
     have c11b1 : (t208 != 0) = false := bne_eq_false_iff_eq.mpr c11
     clear c11
     have H' := ak_ H
     clear H
     go_wp2_with (first | (go_at_call 88; (with_reducible refine (term_Check.calls _ _ l0 t208 _ ?side1 ?side2 A10.out).mono ?_); (case side1 => repeat (first | exact (Kd.C_below HR0.out HB.out) | (with_reducible refine Kd.C_alloc ?_ _) | (with_reducible refine Kd.C_drewN ?_ _) | (with_reducible refine Kd.C_drew ?_))); (case side2 => exact HC0.out); rintro e w12 ⟨rfl, hb⟩; replace HO207 := ak_ (Kd.R_below (rl_ HO207) hb); replace HB := ak_ (bt_ (bl_ HB) hb); (try clear hb); (try clear hk); obtain ⟨Ao13, co13, eo13⟩ := Kd.R_slice HO207.out; subst eo13))
     go_meet
     case rel => exact ⟨_, (((l4.length : Int) != (t204.length : Int))), rf_, H', ⟨by first | omega | exact Nat.le_refl _⟩, ⟨rl_ HO207⟩, ⟨bl_ HB⟩⟩
    ·rw [if_neg c11] at H
     have c11b0 : (t208 == 0) = false := beq_eq_false_iff_ne.mpr c11
     have c11b1 : (t208 != 0) = true := bne_iff_ne.mpr c11
     have H' := ak_ H
     clear H
     go_wp2_with (first | (go_at_call 88; (with_reducible refine (term_Check.calls _ _ l0 t208 _ ?side1 ?side2 A10.out).mono ?_); (case side1 => repeat (first | exact (Kd.C_below HR0.out HB.out) | (with_reducible refine Kd.C_alloc ?_ _) | (with_reducible refine Kd.C_drewN ?_ _) | (with_reducible refine Kd.C_drew ?_))); (case side2 => exact HC0.out); rintro e w14 ⟨rfl, hb⟩; replace HO207 := ak_ (Kd.R_below (rl_ HO207) hb); replace HB := ak_ (bt_ (bl_ HB) hb); (try clear hb); (try clear hk)))
     go_meet
     case rel => exact ⟨_, (true), rf_, H', ⟨by first | omega | exact Nat.le_refl _⟩, ⟨rl_ HO207⟩, ⟨bl_ HB⟩⟩
   ·rw [if_neg c9] at H
    have c9b0 : (t205 == 0) = false := beq_eq_false_iff_ne.mpr c9
    have c9b1 : (t205 != 0) = true := bne_iff_ne.mpr c9
    (first | rw [c9b0] | (simp only [i64_w, i32_w]; rw [c9b0]) | skip)
    have H' := ak_ H
    clear H
    go_wp2
    go_meet
    case rel => exact ⟨_, (true), rf_, H', ⟨by first | omega | exact Nat.le_refl _⟩, ⟨rl_ HO207⟩, ⟨bl_ HB⟩⟩
  case rest =>
   clear HC7
   try clear c1
   try clear p2
   try clear c4
   try clear c7
   try clear c9
   try clear c9b0
   try clear c9b1
   try clear c11
   try clear c11b0
   try clear c11b1
   obtain ⟨kq, x35_6, rfl, HA, HJ6, HO_11, HB⟩ := hcut
   cases kq with
   | zero => exact absurd HA.out (by simp [store_Check.j0])
   | succ kj6 =>
    have H := HA.out
    clear HA
    simp only [store_Check.j0] at H
    by_cases c15 : x35_6 = true
    ·subst c15
     have H1 : (some 1) = some r := by rw [if_pos rfl] at H; exact H
     clear H
     have H := H1
     clear H1
     obtain rfl := Option.some.inj H
     go_wp2
     go_ret
     exact ea_ (bl_ HB)
    ·replace c15 := Bool.eq_false_iff.mpr c15
     subst c15
     have H1 : (store_Check.l0 kj6 l0 l4 t204 l4 (l4.length : Int) 0) = some r := by rw [if_neg (show ¬ (false = true) by decide)] at H; exact H
     clear H
     have H := H1
     clear H1
     have H' := ak_ H
     clear H
     go_wp2
     go_loopg [38] kj6 (fun kq v38 w' => ∃ (x38_2 : Int), v38 = .int .i64 x38_2 ∧ Aside0 (store_Check.l0 kq l0 l4 t204 l4 (l4.length : Int) x38_2 = some r) ∧ Aside0 (kq ≤ kj6) ∧ Aside0 (Kd.R k39 39 w' w.heap.size (fun _ => True) v206 t204) ∧ Aside0 (Below w.heap.size w w'))
     case atStart => exact ⟨(0), rf_, H', ⟨Nat.le_refl _⟩, ⟨rl_ HO_11⟩, ⟨bl_ HB⟩⟩
     case round =>
      clear H'
      try clear c1
      try clear p2
      try clear c4
      try clear c7
      try clear c9
      try clear c9b0
      try clear c9b1
      try clear c11
      try clear c11b0
      try clear c11b1
      try clear c15
      try clear p2
      obtain ⟨x38_2, rfl, HA, HK2, HO_11, HB⟩ := hrel
      cases gk with
      | zero => exact absurd HA.out (by simp [store_Check.l0])
      | succ k2 =>
       have H := HA.out
       clear HA
       simp only [store_Check.l0] at H
       by_cases c16 : x38_2 < (l4.length : Int)
       ·rw [if_pos c16] at H
        have c16b0 := decide_eq_true c16
        clear c16
        by_cases c17 : 0 ≤ x38_2
        ·rw [if_pos c17] at H
         have c17b0 := decide_eq_true c17
         clear c17
         by_cases c18 : x38_2 < (l4.length : Int)
         ·rw [if_pos c18] at H
          have c18b0 := decide_eq_true c18
          clear c18
          by_cases c19 : x38_2 < (t204.length : Int)
          ·rw [if_pos c19] at H
           have c19b0 := decide_eq_true c19
           clear c19
           by_cases c20 : (!(((rd_T65 l4 x38_2).f0.f0) == ((rd_T39 t204 x38_2).f0)) || (!(((rd_T65 l4 x38_2).f0.f1) == ((rd_T39 t204 x38_2).f1)))) = true
           ·rw [if_pos c20] at H
            have c20b0 : (!(((rd_T65 l4 x38_2).f0.f0) == ((rd_T39 t204 x38_2).f0)) || (!(((rd_T65 l4 x38_2).f0.f1) == ((rd_T39 t204 x38_2).f1)))) = true := c20
            clear c20
            obtain rfl := Option.some.inj H
            have p209 : 0 ≤ (x38_2 : Int) := od_ (by first | (with_reducible assumption) | assumption)
            have q209 : x38_2 < (l4.length : Int) := od_ (by first | (with_reducible assumption) | assumption)
            obtain ⟨ad209, e209, hx209_0, hx209_1, hx209_2, hx209_3, hx209_4, hx209_5, hx209_6, hx209_7, hx209_8, hx209_9, hx209_10⟩ := at_T65 HR4.out x38_2 p209 q209
            cases e209
            replace hx209_0 := cx_ HB hx209_0
            replace hx209_1 := cx_ HB hx209_1
            replace hx209_2 := cx_ HB hx209_2
            replace hx209_3 := cx_ HB hx209_3
            replace hx209_4 := cx_ HB hx209_4
            replace hx209_5 := cx_ HB hx209_5
            replace hx209_6 := cx_ HB hx209_6
            replace hx209_7 := cx_ HB hx209_7
            replace hx209_8 := cx_ HB hx209_8
            replace hx209_9 := cx_ HB hx209_9
            replace hx209_10 := cx_ HB hx209_10
            replace p209 := eq_true p209
            replace q209 := eq_true q209
            try go_wp2_with (first | ((with_reducible refine gate_dst (N := 14) rfl ?_); (try (refine gate_guard (by rfl) ?_; dsimp only)); refine bx_ 14 #[.int .u64 0, .int .u64 0, .bool false, .bool false, .int .u64 0, .int .u64 0, .int .u64 0, .int .u64 0, .int .u64 0, .int .u64 0, .int .i64 0] 65 ?_; intro gb210 hg w21 hbox hb; replace HO_11 := ak_ (Kd.R_below (rl_ HO_11) hb); have BK210 := ak_ hbox; have GW210 := ak_ (gs_ hg HB); have GE210 := ak_ (gs_ hg HB); replace HB := ak_ (bt_ (bl_ HB) hb); clear hb hbox hg; obtain ⟨hcz22_0, hcz22_1, hcz22_2, hcz22_3, hcz22_4, hcz22_5, hcz22_6, hcz22_7, hcz22_8, hcz22_9, hcz22_10, hfz22_0, hfz22_1, hfz22_2, hfz22_3, hfz22_4, hfz22_5, hfz22_6, hfz22_7, hfz22_8, hfz22_9, hfz22_10⟩ := kc11_ BK210.out))
            obtain ⟨w23, e_⟩ : ∃ w_, sC_ gb210 0 [.int .u64 ((rd_T65 l4 x38_2).f0.f0), .int .u64 ((rd_T65 l4 x38_2).f0.f1), .bool ((rd_T65 l4 x38_2).f1.f0), .bool ((rd_T65 l4 x38_2).f1.f1), .int .u64 ((rd_T65 l4 x38_2).f1.f2.f0), .int .u64 ((rd_T65 l4 x38_2).f1.f2.f1), .int .u64 ((rd_T65 l4 x38_2).f1.f3.f0.f0), .int .u64 ((rd_T65 l4 x38_2).f1.f3.f0.f1), .int .u64 ((rd_T65 l4 x38_2).f1.f3.f1.f0), .int .u64 ((rd_T65 l4 x38_2).f1.f3.f1.f1), .int .i64 ((rd_T65 l4 x38_2).f1.f4)] w21 = w_ := ⟨_, rfl⟩
            have n0_ : Aside0 (Kd.R k39 39 w23 w.heap.size (fun _ => True) v206 t204) := ⟨Kd.R_mono (sC_far (Kd.R_types HO_11.out BK210.out (by decide)) (fun _ hk => hk.2) e_) (fun _ hk => trivial)⟩
            have n1_ : Aside0 (w23.heap[gb210]? = some (.cells #[.int .u64 ((rd_T65 l4 x38_2).f0.f0), .int .u64 ((rd_T65 l4 x38_2).f0.f1), .bool ((rd_T65 l4 x38_2).f1.f0), .bool ((rd_T65 l4 x38_2).f1.f1), .int .u64 ((rd_T65 l4 x38_2).f1.f2.f0), .int .u64 ((rd_T65 l4 x38_2).f1.f2.f1), .int .u64 ((rd_T65 l4 x38_2).f1.f3.f0.f0), .int .u64 ((rd_T65 l4 x38_2).f1.f3.f0.f1), .int .u64 ((rd_T65 l4 x38_2).f1.f3.f1.f0), .int .u64 ((rd_T65 l4 x38_2).f1.f3.f1.f1), .int .i64 ((rd_T65 l4 x38_2).f1.f4)] 65 (0, 0))) := ⟨sC_blk BK210.out rfl e_⟩
            have n2_ : Aside0 (Below w.heap.size w w23) := ⟨sC_below GE210.out HB.out e_⟩
            (try clear HO_11)
            (try clear BK210)
            (try clear HB)
            simp only [sC_, Nat.reduceAdd] at e_
            rw [e_]
            clear e_
            have HO_11 := n0_
            have BK210 := n1_
            have HB := n2_
            clear n0_ n1_ n2_
            replace HO_11 := ak_ (Kd.R_drew HO_11.out)
            replace BK210 := ak_ (kd_ BK210.out)
            replace HB := ak_ (bd_ HB.out)
            obtain ⟨Ao25, co25, eo25⟩ := Kd.R_slice HO_11.out
            (first | subst eo25 | (injection eo25 with f1_ f2_ f3_; have f4_ := f1_.symm; have f5_ := f3_.symm; clear f1_ f2_ f3_; subst f4_; subst f5_))
            have p211 : 0 ≤ (x38_2 : Int) := od_ (by first | (with_reducible assumption) | assumption)
            have q211 : x38_2 < (t204.length : Int) := od_ (by first | (with_reducible assumption) | assumption)
            obtain ⟨ad211, e211, hx211_0, hx211_1⟩ := at_T39 (Kd.R_reads' HO_11.out).2.2 x38_2 p211 q211
            cases e211
            replace p211 := eq_true p211
            replace q211 := eq_true q211
            refine start_ (n := 25) (S := fun w' => w'.cell? ⟨gb210, 0, none⟩ = some (.int .u64 ((rd_T65 l4 x38_2).f0.f0)) ∧ w'.cell? ⟨gb210, 1, none⟩ = some (.int .u64 ((rd_T65 l4 x38_2).f0.f1)) ∧ w'.cell? ⟨gb210, 2, none⟩ = some (.bool ((rd_T65 l4 x38_2).f1.f0)) ∧ w'.cell? ⟨gb210, 3, none⟩ = some (.bool ((rd_T65 l4 x38_2).f1.f1)) ∧ w'.cell? ⟨gb210, 4, none⟩ = some (.int .u64 ((rd_T65 l4 x38_2).f1.f2.f0)) ∧ w'.cell? ⟨gb210, 5, none⟩ = some (.int .u64 ((rd_T65 l4 x38_2).f1.f2.f1)) ∧ w'.cell? ⟨gb210, 6, none⟩ = some (.int .u64 ((rd_T65 l4 x38_2).f1.f3.f0.f0)) ∧ w'.cell? ⟨gb210, 7, none⟩ = some (.int .u64 ((rd_T65 l4 x38_2).f1.f3.f0.f1)) ∧ w'.cell? ⟨gb210, 8, none⟩ = some (.int .u64 ((rd_T65 l4 x38_2).f1.f3.f1.f0)) ∧ w'.cell? ⟨gb210, 9, none⟩ = some (.int .u64 ((rd_T65 l4 x38_2).f1.f3.f1.f1)) ∧ w'.cell? ⟨gb210, 10, none⟩ = some (.int .i64 ((rd_T65 l4 x38_2).f1.f4)) ∧ w'.cell? (ad211.add ((x38_2).toNat * 2)) = some (.int .u64 ((rd_T39 t204 x38_2).f0)) ∧ w'.cell? ⟨(ad211.add ((x38_2).toNat * 2)).block, (ad211.add ((x38_2).toNat * 2)).off + 1, none⟩ = some (.int .u64 ((rd_T39 t204 x38_2).f1))) (ds := []) #[false, false, false, false, false, false, false, false, false, false, false, false, false, false, false, false, false, false, false, false, false, false, false, false, false] (by kernel_rfl) rfl rfl ⟨kq_ BK210.out 0 rfl, kq_ BK210.out 1 rfl, kq_ BK210.out 2 rfl, kq_ BK210.out 3 rfl, kq_ BK210.out 4 rfl, kq_ BK210.out 5 rfl, kq_ BK210.out 6 rfl, kq_ BK210.out 7 rfl, kq_ BK210.out 8 rfl, kq_ BK210.out 9 rfl, kq_ BK210.out 10 rfl, hx211_0, hx211_1⟩ (fun hHeld => ?_); refine with_tabW store_Check.tab7 store_Check.bits7 (fun HT_ HW_ => ?_)
            generalize w23.drew = w24 at HO_11 BK210 HB hx211_0 hx211_1 hHeld ⊢
            refine pu_ HT_ 0 (some 43) (bA4 1 25) ?_
            refine pu_ HT_ 2 (some 45) #[true, false, true, false, false, false, false, false, false, false, false, false, false, false, false, false, false, false, false, false, false, false, false, false, false] ?_
            refine pu_ HT_ 3 (some 46) #[true, false, true, true, false, false, false, false, false, false, false, false, false, false, false, false, false, false, false, false, false, false, false, false, false] ?_
            refine pu_ HT_ 4 (some 47) #[true, false, true, true, true, false, false, false, false, false, false, false, false, false, false, false, false, false, false, false, false, false, false, false, false] ?_
            refine tk_ HT_ HW_ hHeld 1 (some 44) (bA4 5 25) rfl (by rintro w' ⟨s0, s1, s2, s3, s4, s5, s6, s7, s8, s9, s10, s11, s12⟩; go_simp; with_reducible rfl) ?_
            refine tk_ HT_ HW_ hHeld 5 (some 48) (bA4 6 25) rfl (by rintro w' ⟨s0, s1, s2, s3, s4, s5, s6, s7, s8, s9, s10, s11, s12⟩; go_simp; with_reducible rfl) ?_
            refine pu_ HT_ 6 (some 49) (bA4 7 25) ?_
            refine pu_ HT_ 7 (some 50) (bA4 8 25) ?_
            refine pn_ HT_ 8 (some 51) (bA4 9 25) ?_
            refine pn_ HT_ 9 (some 52) (bA4 10 25) ?_
            refine pn_ HT_ 10 (some 53) (bA4 11 25) ?_
            refine pn_ HT_ 11 (some 54) (bA4 12 25) ?_
            refine pn_ HT_ 12 (some 55) (bA4 13 25) ?_
            refine pu_ HT_ 13 (some 56) (bA4 14 25) ?_
            refine pu_ HT_ 14 (some 57) (bA4 15 25) ?_
            refine pn_ HT_ 15 (some 58) (bA4 16 25) ?_
            refine pn_ HT_ 16 (some 59) (bA4 17 25) ?_
            refine pn_ HT_ 17 (some 60) (bA4 18 25) ?_
            refine pn_ HT_ 18 (some 61) (bA4 19 25) ?_
            refine pn_ HT_ 19 (some 62) (bA4 20 25) ?_
            refine pn_ HT_ 20 (some 63) (bA4 21 25) ?_
            refine pn_ HT_ 21 (some 64) (bA4 22 25) ?_
            refine pn_ HT_ 22 (some 65) (bA4 23 25) ?_
            refine pn_ HT_ 23 (some 66) (bA4 24 25) ?_
            refine pu_ HT_ 24 (some 67) (bA4 25 25) ?_
            refine done_ (done_of HT_.out (by kernel_rfl)) ?_
            try go_wp2
            go_ret
            exact ea_ (bw1_ HB GE210)
           ·rw [if_neg c20] at H
            have c20b0 : (!(((rd_T65 l4 x38_2).f0.f0) == ((rd_T39 t204 x38_2).f0)) || (!(((rd_T65 l4 x38_2).f0.f1) == ((rd_T39 t204 x38_2).f1)))) = false := by simpa using c20
            clear c20
            replace H := bind_eq_some_iff.mp H
            obtain ⟨t212, A260, H⟩ := H
            replace H : (if t212 = true then (if 0 < (l4.length : Int) then (if (((rd_T65 l4 x38_2).f1.f0) != ((rd_T65 l4 0).f1.f0)) = true then (some 1) else (store_Check.l0 k2 l0 l4 t204 l4 (l4.length : Int) (wrap64 (x38_2 + 1)))) else (none)) else (some 1)) = some r := H
            have A26 := ak_ A260
            clear A260
            by_cases c27 : t212 = true
            ·subst c27
             have H1 : (if 0 < (l4.length : Int) then (if (((rd_T65 l4 x38_2).f1.f0) != ((rd_T65 l4 0).f1.f0)) = true then (some 1) else (store_Check.l0 k2 l0 l4 t204 l4 (l4.length : Int) (wrap64 (x38_2 + 1)))) else (none)) = some r := by rw [if_pos rfl] at H; exact H
             clear H
             have H := H1
             clear H1
             by_cases c28 : 0 < (l4.length : Int)
             ·rw [if_pos c28] at H
              have c28b0 := decide_eq_true c28
              have c28b1 : decide (0 < l4.length) = true := decide_eq_true (by omega)
              clear c28
              by_cases c29 : (((rd_T65 l4 x38_2).f1.f0) != ((rd_T65 l4 0).f1.f0)) = true
              ·rw [if_pos c29] at H
               have c29b0 : (((rd_T65 l4 x38_2).f1.f0) != ((rd_T65 l4 0).f1.f0)) = true := c29
               (try (have c29b1 : decide (((rd_T65 l4 x38_2).f1.f0) = ((rd_T65 l4 0).f1.f0)) = false := by simpa using c29))
               (try (have c29b2 : (((rd_T65 l4 x38_2).f1.f0) == ((rd_T65 l4 0).f1.f0)) = false := by simpa using c29))
               (try (have c29b3 : ¬ (((rd_T65 l4 x38_2).f1.f0) = ((rd_T65 l4 0).f1.f0)) := by simpa using c29))
               clear c29
               obtain rfl := Option.some.inj H
               have p209 : 0 ≤ (x38_2 : Int) := od_ (by first | (with_reducible assumption) | assumption)
               have q209 : x38_2 < (l4.length : Int) := od_ (by first | (with_reducible assumption) | assumption)
               obtain ⟨ad209, e209, hx209_0, hx209_1, hx209_2, hx209_3, hx209_4, hx209_5, hx209_6, hx209_7, hx209_8, hx209_9, hx209_10⟩ := at_T65 HR4.out x38_2 p209 q209
               cases e209
               replace hx209_0 := cx_ HB hx209_0
               replace hx209_1 := cx_ HB hx209_1
               replace hx209_2 := cx_ HB hx209_2
               replace hx209_3 := cx_ HB hx209_3
               replace hx209_4 := cx_ HB hx209_4
               replace hx209_5 := cx_ HB hx209_5
               replace hx209_6 := cx_ HB hx209_6
               replace hx209_7 := cx_ HB hx209_7
               replace hx209_8 := cx_ HB hx209_8
               replace hx209_9 := cx_ HB hx209_9
               replace hx209_10 := cx_ HB hx209_10
               replace p209 := eq_true p209
               replace q209 := eq_true q209
               try go_wp2_with (first | ((with_reducible refine gate_dst (N := 14) rfl ?_); (try (refine gate_guard (by rfl) ?_; dsimp only)); refine bx_ 14 #[.int .u64 0, .int .u64 0, .bool false, .bool false, .int .u64 0, .int .u64 0, .int .u64 0, .int .u64 0, .int .u64 0, .int .u64 0, .int .i64 0] 65 ?_; intro gb210 hg w30 hbox hb; replace HO_11 := ak_ (Kd.R_below (rl_ HO_11) hb); have BK210 := ak_ hbox; have GW210 := ak_ (gs_ hg HB); have GE210 := ak_ (gs_ hg HB); replace HB := ak_ (bt_ (bl_ HB) hb); clear hb hbox hg; obtain ⟨hcz31_0, hcz31_1, hcz31_2, hcz31_3, hcz31_4, hcz31_5, hcz31_6, hcz31_7, hcz31_8, hcz31_9, hcz31_10, hfz31_0, hfz31_1, hfz31_2, hfz31_3, hfz31_4, hfz31_5, hfz31_6, hfz31_7, hfz31_8, hfz31_9, hfz31_10⟩ := kc11_ BK210.out))
               obtain ⟨w32, e_⟩ : ∃ w_, sC_ gb210 0 [.int .u64 ((rd_T65 l4 x38_2).f0.f0), .int .u64 ((rd_T65 l4 x38_2).f0.f1), .bool ((rd_T65 l4 x38_2).f1.f0), .bool ((rd_T65 l4 x38_2).f1.f1), .int .u64 ((rd_T65 l4 x38_2).f1.f2.f0), .int .u64 ((rd_T65 l4 x38_2).f1.f2.f1), .int .u64 ((rd_T65 l4 x38_2).f1.f3.f0.f0), .int .u64 ((rd_T65 l4 x38_2).f1.f3.f0.f1), .int .u64 ((rd_T65 l4 x38_2).f1.f3.f1.f0), .int .u64 ((rd_T65 l4 x38_2).f1.f3.f1.f1), .int .i64 ((rd_T65 l4 x38_2).f1.f4)] w30 = w_ := ⟨_, rfl⟩
               have n0_ : Aside0 (Kd.R k39 39 w32 w.heap.size (fun _ => True) v206 t204) := ⟨Kd.R_mono (sC_far (Kd.R_types HO_11.out BK210.out (by decide)) (fun _ hk => hk.2) e_) (fun _ hk => trivial)⟩
               have n1_ : Aside0 (w32.heap[gb210]? = some (.cells #[.int .u64 ((rd_T65 l4 x38_2).f0.f0), .int .u64 ((rd_T65 l4 x38_2).f0.f1), .bool ((rd_T65 l4 x38_2).f1.f0), .bool ((rd_T65 l4 x38_2).f1.f1), .int .u64 ((rd_T65 l4 x38_2).f1.f2.f0), .int .u64 ((rd_T65 l4 x38_2).f1.f2.f1), .int .u64 ((rd_T65 l4 x38_2).f1.f3.f0.f0), .int .u64 ((rd_T65 l4 x38_2).f1.f3.f0.f1), .int .u64 ((rd_T65 l4 x38_2).f1.f3.f1.f0), .int .u64 ((rd_T65 l4 x38_2).f1.f3.f1.f1), .int .i64 ((rd_T65 l4 x38_2).f1.f4)] 65 (0, 0))) := ⟨sC_blk BK210.out rfl e_⟩
               have n2_ : Aside0 (Below w.heap.size w w32) := ⟨sC_below GE210.out HB.out e_⟩
               (try clear HO_11)
               (try clear BK210)
               (try clear HB)
               simp only [sC_, Nat.reduceAdd] at e_
               rw [e_]
               clear e_
               have HO_11 := n0_
               have BK210 := n1_
               have HB := n2_
               clear n0_ n1_ n2_
               replace HO_11 := ak_ (Kd.R_drew HO_11.out)
               replace BK210 := ak_ (kd_ BK210.out)
               replace HB := ak_ (bd_ HB.out)
               obtain ⟨Ao34, co34, eo34⟩ := Kd.R_slice HO_11.out
               (first | subst eo34 | (injection eo34 with f1_ f2_ f3_; have f4_ := f1_.symm; have f5_ := f3_.symm; clear f1_ f2_ f3_; subst f4_; subst f5_))
               have p211 : 0 ≤ (x38_2 : Int) := od_ (by first | (with_reducible assumption) | assumption)
               have q211 : x38_2 < (t204.length : Int) := od_ (by first | (with_reducible assumption) | assumption)
               obtain ⟨ad211, e211, hx211_0, hx211_1⟩ := at_T39 (Kd.R_reads' HO_11.out).2.2 x38_2 p211 q211
               cases e211
               replace p211 := eq_true p211
               replace q211 := eq_true q211
               have p213 : 0 ≤ (0 : Int) := (by omega)
               have q213 : 0 < (l4.length : Int) := od_ (by first | (with_reducible assumption) | assumption)
               obtain ⟨ad213, e213, hx213_0, hx213_1, hx213_2, hx213_3, hx213_4, hx213_5, hx213_6, hx213_7, hx213_8, hx213_9, hx213_10⟩ := at_T65 HR4.out 0 p213 q213
               have hw213_10 := hx213_10
               (try rw [show ((0 : Int)).toNat = 0 from rfl] at hw213_10)
               (try rw [show 0 * 11 = 0 from rfl] at hw213_10)
               (try rw [Addr.add_zero'] at hw213_10)
               have hw213_9 := hx213_9
               (try rw [show ((0 : Int)).toNat = 0 from rfl] at hw213_9)
               (try rw [show 0 * 11 = 0 from rfl] at hw213_9)
               (try rw [Addr.add_zero'] at hw213_9)
               have hw213_8 := hx213_8
               (try rw [show ((0 : Int)).toNat = 0 from rfl] at hw213_8)
               (try rw [show 0 * 11 = 0 from rfl] at hw213_8)
               (try rw [Addr.add_zero'] at hw213_8)
               have hw213_7 := hx213_7
               (try rw [show ((0 : Int)).toNat = 0 from rfl] at hw213_7)
               (try rw [show 0 * 11 = 0 from rfl] at hw213_7)
               (try rw [Addr.add_zero'] at hw213_7)
               have hw213_6 := hx213_6
               (try rw [show ((0 : Int)).toNat = 0 from rfl] at hw213_6)
               (try rw [show 0 * 11 = 0 from rfl] at hw213_6)
               (try rw [Addr.add_zero'] at hw213_6)
               have hw213_5 := hx213_5
               (try rw [show ((0 : Int)).toNat = 0 from rfl] at hw213_5)
               (try rw [show 0 * 11 = 0 from rfl] at hw213_5)
               (try rw [Addr.add_zero'] at hw213_5)
               have hw213_4 := hx213_4
               (try rw [show ((0 : Int)).toNat = 0 from rfl] at hw213_4)
               (try rw [show 0 * 11 = 0 from rfl] at hw213_4)
               (try rw [Addr.add_zero'] at hw213_4)
               have hw213_3 := hx213_3
               (try rw [show ((0 : Int)).toNat = 0 from rfl] at hw213_3)
               (try rw [show 0 * 11 = 0 from rfl] at hw213_3)
               (try rw [Addr.add_zero'] at hw213_3)
               have hw213_2 := hx213_2
               (try rw [show ((0 : Int)).toNat = 0 from rfl] at hw213_2)
               (try rw [show 0 * 11 = 0 from rfl] at hw213_2)
               (try rw [Addr.add_zero'] at hw213_2)
               have hw213_1 := hx213_1
               (try rw [show ((0 : Int)).toNat = 0 from rfl] at hw213_1)
               (try rw [show 0 * 11 = 0 from rfl] at hw213_1)
               (try rw [Addr.add_zero'] at hw213_1)
               have hw213_0 := hx213_0
               (try rw [show ((0 : Int)).toNat = 0 from rfl] at hw213_0)
               (try rw [show 0 * 11 = 0 from rfl] at hw213_0)
               (try rw [Addr.add_zero'] at hw213_0)
               obtain rfl : ad209 = ad213 := (by injection e213)
               have qi213 : (0 < l4.length) = True := eq_true (by omega)
               (try rw [show ((0 : Int)).toNat = 0 from rfl] at hx213_0)
               (try rw [show 0 * 11 = 0 from rfl] at hx213_0)
               (try rw [Addr.add_zero'] at hx213_0)
               (try rw [show ((0 : Int)).toNat = 0 from rfl] at hx213_1)
               (try rw [show 0 * 11 = 0 from rfl] at hx213_1)
               (try rw [Addr.add_zero'] at hx213_1)
               (try rw [show ((0 : Int)).toNat = 0 from rfl] at hx213_2)
               (try rw [show 0 * 11 = 0 from rfl] at hx213_2)
               (try rw [Addr.add_zero'] at hx213_2)
               (try rw [show ((0 : Int)).toNat = 0 from rfl] at hx213_3)
               (try rw [show 0 * 11 = 0 from rfl] at hx213_3)
               (try rw [Addr.add_zero'] at hx213_3)
               (try rw [show ((0 : Int)).toNat = 0 from rfl] at hx213_4)
               (try rw [show 0 * 11 = 0 from rfl] at hx213_4)
               (try rw [Addr.add_zero'] at hx213_4)
               (try rw [show ((0 : Int)).toNat = 0 from rfl] at hx213_5)
               (try rw [show 0 * 11 = 0 from rfl] at hx213_5)
               (try rw [Addr.add_zero'] at hx213_5)
               (try rw [show ((0 : Int)).toNat = 0 from rfl] at hx213_6)
               (try rw [show 0 * 11 = 0 from rfl] at hx213_6)
               (try rw [Addr.add_zero'] at hx213_6)
               (try rw [show ((0 : Int)).toNat = 0 from rfl] at hx213_7)
               (try rw [show 0 * 11 = 0 from rfl] at hx213_7)
               (try rw [Addr.add_zero'] at hx213_7)
               (try rw [show ((0 : Int)).toNat = 0 from rfl] at hx213_8)
               (try rw [show 0 * 11 = 0 from rfl] at hx213_8)
               (try rw [Addr.add_zero'] at hx213_8)
               (try rw [show ((0 : Int)).toNat = 0 from rfl] at hx213_9)
               (try rw [show 0 * 11 = 0 from rfl] at hx213_9)
               (try rw [Addr.add_zero'] at hx213_9)
               (try rw [show ((0 : Int)).toNat = 0 from rfl] at hx213_10)
               (try rw [show 0 * 11 = 0 from rfl] at hx213_10)
               (try rw [Addr.add_zero'] at hx213_10)
               replace hx213_0 := cx_ HB hx213_0
               replace hx213_1 := cx_ HB hx213_1
               replace hx213_2 := cx_ HB hx213_2
               replace hx213_3 := cx_ HB hx213_3
               replace hx213_4 := cx_ HB hx213_4
               replace hx213_5 := cx_ HB hx213_5
               replace hx213_6 := cx_ HB hx213_6
               replace hx213_7 := cx_ HB hx213_7
               replace hx213_8 := cx_ HB hx213_8
               replace hx213_9 := cx_ HB hx213_9
               replace hx213_10 := cx_ HB hx213_10
               replace p213 := eq_true p213
               replace q213 := eq_true q213
               refine start_ (n := 25) (S := fun w' => w'.cell? ⟨gb210, 0, none⟩ = some (.int .u64 ((rd_T65 l4 x38_2).f0.f0)) ∧ w'.cell? ⟨gb210, 1, none⟩ = some (.int .u64 ((rd_T65 l4 x38_2).f0.f1)) ∧ w'.cell? ⟨gb210, 2, none⟩ = some (.bool ((rd_T65 l4 x38_2).f1.f0)) ∧ w'.cell? ⟨gb210, 3, none⟩ = some (.bool ((rd_T65 l4 x38_2).f1.f1)) ∧ w'.cell? ⟨gb210, 4, none⟩ = some (.int .u64 ((rd_T65 l4 x38_2).f1.f2.f0)) ∧ w'.cell? ⟨gb210, 5, none⟩ = some (.int .u64 ((rd_T65 l4 x38_2).f1.f2.f1)) ∧ w'.cell? ⟨gb210, 6, none⟩ = some (.int .u64 ((rd_T65 l4 x38_2).f1.f3.f0.f0)) ∧ w'.cell? ⟨gb210, 7, none⟩ = some (.int .u64 ((rd_T65 l4 x38_2).f1.f3.f0.f1)) ∧ w'.cell? ⟨gb210, 8, none⟩ = some (.int .u64 ((rd_T65 l4 x38_2).f1.f3.f1.f0)) ∧ w'.cell? ⟨gb210, 9, none⟩ = some (.int .u64 ((rd_T65 l4 x38_2).f1.f3.f1.f1)) ∧ w'.cell? ⟨gb210, 10, none⟩ = some (.int .i64 ((rd_T65 l4 x38_2).f1.f4)) ∧ w'.cell? (ad211.add ((x38_2).toNat * 2)) = some (.int .u64 ((rd_T39 t204 x38_2).f0)) ∧ w'.cell? ⟨(ad211.add ((x38_2).toNat * 2)).block, (ad211.add ((x38_2).toNat * 2)).off + 1, none⟩ = some (.int .u64 ((rd_T39 t204 x38_2).f1)) ∧ w'.cell? ad209 = some (.int .u64 ((rd_T65 l4 0).f0.f0)) ∧ w'.cell? ⟨ad209.block, ad209.off + 1, none⟩ = some (.int .u64 ((rd_T65 l4 0).f0.f1)) ∧ w'.cell? ⟨ad209.block, ad209.off + 2, none⟩ = some (.bool ((rd_T65 l4 0).f1.f0)) ∧ w'.cell? ⟨ad209.block, ad209.off + 3, none⟩ = some (.bool ((rd_T65 l4 0).f1.f1)) ∧ w'.cell? ⟨ad209.block, ad209.off + 4, none⟩ = some (.int .u64 ((rd_T65 l4 0).f1.f2.f0)) ∧ w'.cell? ⟨ad209.block, ad209.off + 5, none⟩ = some (.int .u64 ((rd_T65 l4 0).f1.f2.f1)) ∧ w'.cell? ⟨ad209.block, ad209.off + 6, none⟩ = some (.int .u64 ((rd_T65 l4 0).f1.f3.f0.f0)) ∧ w'.cell? ⟨ad209.block, ad209.off + 7, none⟩ = some (.int .u64 ((rd_T65 l4 0).f1.f3.f0.f1)) ∧ w'.cell? ⟨ad209.block, ad209.off + 8, none⟩ = some (.int .u64 ((rd_T65 l4 0).f1.f3.f1.f0)) ∧ w'.cell? ⟨ad209.block, ad209.off + 9, none⟩ = some (.int .u64 ((rd_T65 l4 0).f1.f3.f1.f1)) ∧ w'.cell? ⟨ad209.block, ad209.off + 10, none⟩ = some (.int .i64 ((rd_T65 l4 0).f1.f4))) (ds := []) #[false, false, false, false, false, false, false, false, false, false, false, false, false, false, false, false, false, false, false, false, false, false, false, false, false] (by kernel_rfl) rfl rfl ⟨kq_ BK210.out 0 rfl, kq_ BK210.out 1 rfl, kq_ BK210.out 2 rfl, kq_ BK210.out 3 rfl, kq_ BK210.out 4 rfl, kq_ BK210.out 5 rfl, kq_ BK210.out 6 rfl, kq_ BK210.out 7 rfl, kq_ BK210.out 8 rfl, kq_ BK210.out 9 rfl, kq_ BK210.out 10 rfl, hx211_0, hx211_1, ((HB.out.cell (World.block_lt_of_cell? w _ hw213_0)).trans hw213_0), ((HB.out.cell (World.block_lt_of_cell? w _ hw213_1)).trans hw213_1), ((HB.out.cell (World.block_lt_of_cell? w _ hw213_2)).trans hw213_2), ((HB.out.cell (World.block_lt_of_cell? w _ hw213_3)).trans hw213_3), ((HB.out.cell (World.block_lt_of_cell? w _ hw213_4)).trans hw213_4), ((HB.out.cell (World.block_lt_of_cell? w _ hw213_5)).trans hw213_5), ((HB.out.cell (World.block_lt_of_cell? w _ hw213_6)).trans hw213_6), ((HB.out.cell (World.block_lt_of_cell? w _ hw213_7)).trans hw213_7), ((HB.out.cell (World.block_lt_of_cell? w _ hw213_8)).trans hw213_8), ((HB.out.cell (World.block_lt_of_cell? w _ hw213_9)).trans hw213_9), ((HB.out.cell (World.block_lt_of_cell? w _ hw213_10)).trans hw213_10)⟩ (fun hHeld => ?_); refine with_tabW store_Check.tab7 store_Check.bits7 (fun HT_ HW_ => ?_)
               generalize w32.drew = w33 at HO_11 BK210 HB hx211_0 hx211_1 hx213_0 hx213_1 hx213_10 hx213_2 hx213_3 hx213_4 hx213_5 hx213_6 hx213_7 hx213_8 hx213_9 hHeld ⊢
               refine pu_ HT_ 0 (some 43) (bA4 1 25) ?_
               refine pu_ HT_ 2 (some 45) #[true, false, true, false, false, false, false, false, false, false, false, false, false, false, false, false, false, false, false, false, false, false, false, false, false] ?_
               refine pu_ HT_ 3 (some 46) #[true, false, true, true, false, false, false, false, false, false, false, false, false, false, false, false, false, false, false, false, false, false, false, false, false] ?_
               refine pu_ HT_ 4 (some 47) #[true, false, true, true, true, false, false, false, false, false, false, false, false, false, false, false, false, false, false, false, false, false, false, false, false] ?_
               refine tk_ HT_ HW_ hHeld 1 (some 44) (bA4 5 25) rfl (by rintro w' ⟨s0, s1, s2, s3, s4, s5, s6, s7, s8, s9, s10, s11, s12, s13, s14, s15, s16, s17, s18, s19, s20, s21, s22, s23⟩; go_simp; with_reducible rfl) ?_
               refine tk_ HT_ HW_ hHeld 5 (some 48) (bA4 6 25) rfl (by rintro w' ⟨s0, s1, s2, s3, s4, s5, s6, s7, s8, s9, s10, s11, s12, s13, s14, s15, s16, s17, s18, s19, s20, s21, s22, s23⟩; go_simp; with_reducible rfl) ?_
               refine pu_ HT_ 6 (some 49) (bA4 7 25) ?_
               refine pu_ HT_ 7 (some 50) (bA4 8 25) ?_
               refine pu_ HT_ 8 (some 51) (bA4 9 25) ?_
               refine pu_ HT_ 9 (some 52) (bA4 10 25) ?_
               refine tk_ HT_ HW_ hHeld 10 (some 53) (bA4 11 25) rfl (by rintro w' ⟨s0, s1, s2, s3, s4, s5, s6, s7, s8, s9, s10, s11, s12, s13, s14, s15, s16, s17, s18, s19, s20, s21, s22, s23⟩; go_simp; with_reducible rfl) ?_
               refine one_ (i := 11) (N := some 54) (bA4 12 25) rfl rfl (one_of HT_.out (by kernel_rfl)) (by decide) (fun K hK => ?_)
               refine gg_ func89 #[.slice A0 l0.length c0, .agg #[.bool ((rd_T65 l4 x38_2).f1.f0), .bool ((rd_T65 l4 x38_2).f1.f1), .int .u64 ((rd_T65 l4 x38_2).f1.f2.f0), .int .u64 ((rd_T65 l4 x38_2).f1.f2.f1), .int .u64 ((rd_T65 l4 x38_2).f1.f3.f0.f0), .int .u64 ((rd_T65 l4 x38_2).f1.f3.f0.f1), .int .u64 ((rd_T65 l4 x38_2).f1.f3.f1.f0), .int .u64 ((rd_T65 l4 x38_2).f1.f3.f1.f1), .int .i64 ((rd_T65 l4 x38_2).f1.f4)]] ?_
               with_reducible refine (store_open.calls k2 _ _ l0 ((rd_T65 l4 x38_2).f1.f0) ((rd_T65 l4 x38_2).f1.f1) ((rd_T65 l4 x38_2).f1.f2.f0) ((rd_T65 l4 x38_2).f1.f2.f1) ((rd_T65 l4 x38_2).f1.f3.f0.f0) ((rd_T65 l4 x38_2).f1.f3.f0.f1) ((rd_T65 l4 x38_2).f1.f3.f1.f0) ((rd_T65 l4 x38_2).f1.f3.f1.f1) ((rd_T65 l4 x38_2).f1.f4) true _ ?side1 ?side2 A26.out).mono ?_
               (case side1 => repeat (first | exact (Kd.C_below HR0.out HB.out) | (with_reducible refine Kd.C_alloc ?_ _) | (with_reducible refine Kd.C_drewN ?_ _) | (with_reducible refine Kd.C_drew ?_)))
               (case side2 => exact HC0.out)
               rintro e w35 ⟨rfl, hb⟩
               have HS11_ := (hb.cell (World.block_lt_of_cell? _ _ (hHeld.2.2.2.2.2.2.2.2.2.2.2.1))).trans (hHeld.2.2.2.2.2.2.2.2.2.2.2.1)
               have HS12_ := (hb.cell (World.block_lt_of_cell? _ _ (hHeld.2.2.2.2.2.2.2.2.2.2.2.2.1))).trans (hHeld.2.2.2.2.2.2.2.2.2.2.2.2.1)
               refine ⟨_, rfl, ?_⟩
               replace HO_11 := ak_ (Kd.R_below (rl_ HO_11) hb)
               replace BK210 := ak_ (kb_ (kl_ BK210) hb)
               replace HB := ak_ (bt_ (bw1_ HB GE210) hb)
               (try clear hb)
               (try clear hb2)
               (try clear hk)
               (try clear hi)
               refine hK.out _ _ ⟨kq_ BK210.out 0 rfl, kq_ BK210.out 1 rfl, kq_ BK210.out 2 rfl, kq_ BK210.out 3 rfl, kq_ BK210.out 4 rfl, kq_ BK210.out 5 rfl, kq_ BK210.out 6 rfl, kq_ BK210.out 7 rfl, kq_ BK210.out 8 rfl, kq_ BK210.out 9 rfl, kq_ BK210.out 10 rfl, HS11_, HS12_, ((HB.out.cell (World.block_lt_of_cell? w _ hw213_0)).trans hw213_0), ((HB.out.cell (World.block_lt_of_cell? w _ hw213_1)).trans hw213_1), ((HB.out.cell (World.block_lt_of_cell? w _ hw213_2)).trans hw213_2), ((HB.out.cell (World.block_lt_of_cell? w _ hw213_3)).trans hw213_3), ((HB.out.cell (World.block_lt_of_cell? w _ hw213_4)).trans hw213_4), ((HB.out.cell (World.block_lt_of_cell? w _ hw213_5)).trans hw213_5), ((HB.out.cell (World.block_lt_of_cell? w _ hw213_6)).trans hw213_6), ((HB.out.cell (World.block_lt_of_cell? w _ hw213_7)).trans hw213_7), ((HB.out.cell (World.block_lt_of_cell? w _ hw213_8)).trans hw213_8), ((HB.out.cell (World.block_lt_of_cell? w _ hw213_9)).trans hw213_9), ((HB.out.cell (World.block_lt_of_cell? w _ hw213_10)).trans hw213_10)⟩ (fun hHeld => ?_)
               clear hK K
               refine norm_ (a' := ?_) ?_ ?_
               rotate_left
               ·show Act.put _ (some 54) _ = _
                simp only [Act.put, setIfInBounds_toArray, set_cons_zero, set_cons_succ, i64_w, i32_w]
                rfl
               refine pu_ HT_ 12 (some 55) (bA4 13 25) ?_
               refine pu_ HT_ 13 (some 56) (bA4 14 25) ?_
               refine pu_ HT_ 14 (some 57) (bA4 15 25) ?_
               refine pu_ HT_ 15 (some 58) (bA4 16 25) ?_
               refine pu_ HT_ 16 (some 59) (bA4 17 25) ?_
               refine pu_ HT_ 18 (some 61) #[true, true, true, true, true, true, true, true, true, true, true, true, true, true, true, true, true, false, true, false, false, false, false, false, false] ?_
               refine pu_ HT_ 19 (some 62) #[true, true, true, true, true, true, true, true, true, true, true, true, true, true, true, true, true, false, true, true, false, false, false, false, false] ?_
               refine pu_ HT_ 20 (some 63) #[true, true, true, true, true, true, true, true, true, true, true, true, true, true, true, true, true, false, true, true, true, false, false, false, false] ?_
               refine pu_ HT_ 21 (some 64) #[true, true, true, true, true, true, true, true, true, true, true, true, true, true, true, true, true, false, true, true, true, true, false, false, false] ?_
               refine tk_ HT_ HW_ hHeld 17 (some 60) (bA4 22 25) rfl (by rintro w' ⟨s0, s1, s2, s3, s4, s5, s6, s7, s8, s9, s10, s11, s12, s13, s14, s15, s16, s17, s18, s19, s20, s21, s22, s23⟩; go_simp; with_reducible rfl) ?_
               refine tk_ HT_ HW_ hHeld 22 (some 65) (bA4 23 25) rfl (by rintro w' ⟨s0, s1, s2, s3, s4, s5, s6, s7, s8, s9, s10, s11, s12, s13, s14, s15, s16, s17, s18, s19, s20, s21, s22, s23⟩; go_simp; with_reducible rfl) ?_
               refine pu_ HT_ 23 (some 66) (bA4 24 25) ?_
               refine pu_ HT_ 24 (some 67) (bA4 25 25) ?_
               refine done_ (done_of HT_.out (by kernel_rfl)) ?_
               try go_wp2
               go_ret
               exact ea_ (bw1_ HB GE210)
              ·rw [if_neg c29] at H
               have c29b0 : (((rd_T65 l4 x38_2).f1.f0) != ((rd_T65 l4 0).f1.f0)) = false := by simpa using c29
               (try (have c29b1 : decide (((rd_T65 l4 x38_2).f1.f0) = ((rd_T65 l4 0).f1.f0)) = true := by simpa using c29))
               (try (have c29b2 : (((rd_T65 l4 x38_2).f1.f0) == ((rd_T65 l4 0).f1.f0)) = true := by simpa using c29))
               clear c29
               have H' := ak_ H
               clear H
               have p209 : 0 ≤ (x38_2 : Int) := od_ (by first | (with_reducible assumption) | assumption)
               have q209 : x38_2 < (l4.length : Int) := od_ (by first | (with_reducible assumption) | assumption)
               obtain ⟨ad209, e209, hx209_0, hx209_1, hx209_2, hx209_3, hx209_4, hx209_5, hx209_6, hx209_7, hx209_8, hx209_9, hx209_10⟩ := at_T65 HR4.out x38_2 p209 q209
               cases e209
               replace hx209_0 := cx_ HB hx209_0
               replace hx209_1 := cx_ HB hx209_1
               replace hx209_2 := cx_ HB hx209_2
               replace hx209_3 := cx_ HB hx209_3
               replace hx209_4 := cx_ HB hx209_4
               replace hx209_5 := cx_ HB hx209_5
               replace hx209_6 := cx_ HB hx209_6
               replace hx209_7 := cx_ HB hx209_7
               replace hx209_8 := cx_ HB hx209_8
               replace hx209_9 := cx_ HB hx209_9
               replace hx209_10 := cx_ HB hx209_10
               replace p209 := eq_true p209
               replace q209 := eq_true q209
               try go_wp2_with (first | ((with_reducible refine gate_dst (N := 14) rfl ?_); (try (refine gate_guard (by rfl) ?_; dsimp only)); refine bx_ 14 #[.int .u64 0, .int .u64 0, .bool false, .bool false, .int .u64 0, .int .u64 0, .int .u64 0, .int .u64 0, .int .u64 0, .int .u64 0, .int .i64 0] 65 ?_; intro gb210 hg w36 hbox hb; replace HO_11 := ak_ (Kd.R_below (rl_ HO_11) hb); have BK210 := ak_ hbox; have GW210 := ak_ (gs_ hg HB); have GE210 := ak_ (gs_ hg HB); replace HB := ak_ (bt_ (bl_ HB) hb); clear hb hbox hg; obtain ⟨hcz37_0, hcz37_1, hcz37_2, hcz37_3, hcz37_4, hcz37_5, hcz37_6, hcz37_7, hcz37_8, hcz37_9, hcz37_10, hfz37_0, hfz37_1, hfz37_2, hfz37_3, hfz37_4, hfz37_5, hfz37_6, hfz37_7, hfz37_8, hfz37_9, hfz37_10⟩ := kc11_ BK210.out))
               obtain ⟨w38, e_⟩ : ∃ w_, sC_ gb210 0 [.int .u64 ((rd_T65 l4 x38_2).f0.f0), .int .u64 ((rd_T65 l4 x38_2).f0.f1), .bool ((rd_T65 l4 x38_2).f1.f0), .bool ((rd_T65 l4 x38_2).f1.f1), .int .u64 ((rd_T65 l4 x38_2).f1.f2.f0), .int .u64 ((rd_T65 l4 x38_2).f1.f2.f1), .int .u64 ((rd_T65 l4 x38_2).f1.f3.f0.f0), .int .u64 ((rd_T65 l4 x38_2).f1.f3.f0.f1), .int .u64 ((rd_T65 l4 x38_2).f1.f3.f1.f0), .int .u64 ((rd_T65 l4 x38_2).f1.f3.f1.f1), .int .i64 ((rd_T65 l4 x38_2).f1.f4)] w36 = w_ := ⟨_, rfl⟩
               have n0_ : Aside0 (Kd.R k39 39 w38 w.heap.size (fun _ => True) v206 t204) := ⟨Kd.R_mono (sC_far (Kd.R_types HO_11.out BK210.out (by decide)) (fun _ hk => hk.2) e_) (fun _ hk => trivial)⟩
               have n1_ : Aside0 (w38.heap[gb210]? = some (.cells #[.int .u64 ((rd_T65 l4 x38_2).f0.f0), .int .u64 ((rd_T65 l4 x38_2).f0.f1), .bool ((rd_T65 l4 x38_2).f1.f0), .bool ((rd_T65 l4 x38_2).f1.f1), .int .u64 ((rd_T65 l4 x38_2).f1.f2.f0), .int .u64 ((rd_T65 l4 x38_2).f1.f2.f1), .int .u64 ((rd_T65 l4 x38_2).f1.f3.f0.f0), .int .u64 ((rd_T65 l4 x38_2).f1.f3.f0.f1), .int .u64 ((rd_T65 l4 x38_2).f1.f3.f1.f0), .int .u64 ((rd_T65 l4 x38_2).f1.f3.f1.f1), .int .i64 ((rd_T65 l4 x38_2).f1.f4)] 65 (0, 0))) := ⟨sC_blk BK210.out rfl e_⟩
               have n2_ : Aside0 (Below w.heap.size w w38) := ⟨sC_below GE210.out HB.out e_⟩
               (try clear HO_11)
               (try clear BK210)
               (try clear HB)
               simp only [sC_, Nat.reduceAdd] at e_
               rw [e_]
               clear e_
               have HO_11 := n0_
               have BK210 := n1_
               have HB := n2_
               clear n0_ n1_ n2_
               replace HO_11 := ak_ (Kd.R_drew HO_11.out)
               replace BK210 := ak_ (kd_ BK210.out)
               replace HB := ak_ (bd_ HB.out)
               obtain ⟨Ao40, co40, eo40⟩ := Kd.R_slice HO_11.out
               (first | subst eo40 | (injection eo40 with f1_ f2_ f3_; have f4_ := f1_.symm; have f5_ := f3_.symm; clear f1_ f2_ f3_; subst f4_; subst f5_))
               have p211 : 0 ≤ (x38_2 : Int) := od_ (by first | (with_reducible assumption) | assumption)
               have q211 : x38_2 < (t204.length : Int) := od_ (by first | (with_reducible assumption) | assumption)
               obtain ⟨ad211, e211, hx211_0, hx211_1⟩ := at_T39 (Kd.R_reads' HO_11.out).2.2 x38_2 p211 q211
               cases e211
               replace p211 := eq_true p211
               replace q211 := eq_true q211
               have p213 : 0 ≤ (0 : Int) := (by omega)
               have q213 : 0 < (l4.length : Int) := od_ (by first | (with_reducible assumption) | assumption)
               obtain ⟨ad213, e213, hx213_0, hx213_1, hx213_2, hx213_3, hx213_4, hx213_5, hx213_6, hx213_7, hx213_8, hx213_9, hx213_10⟩ := at_T65 HR4.out 0 p213 q213
               have hw213_10 := hx213_10
               (try rw [show ((0 : Int)).toNat = 0 from rfl] at hw213_10)
               (try rw [show 0 * 11 = 0 from rfl] at hw213_10)
               (try rw [Addr.add_zero'] at hw213_10)
               have hw213_9 := hx213_9
               (try rw [show ((0 : Int)).toNat = 0 from rfl] at hw213_9)
               (try rw [show 0 * 11 = 0 from rfl] at hw213_9)
               (try rw [Addr.add_zero'] at hw213_9)
               have hw213_8 := hx213_8
               (try rw [show ((0 : Int)).toNat = 0 from rfl] at hw213_8)
               (try rw [show 0 * 11 = 0 from rfl] at hw213_8)
               (try rw [Addr.add_zero'] at hw213_8)
               have hw213_7 := hx213_7
               (try rw [show ((0 : Int)).toNat = 0 from rfl] at hw213_7)
               (try rw [show 0 * 11 = 0 from rfl] at hw213_7)
               (try rw [Addr.add_zero'] at hw213_7)
               have hw213_6 := hx213_6
               (try rw [show ((0 : Int)).toNat = 0 from rfl] at hw213_6)
               (try rw [show 0 * 11 = 0 from rfl] at hw213_6)
               (try rw [Addr.add_zero'] at hw213_6)
               have hw213_5 := hx213_5
               (try rw [show ((0 : Int)).toNat = 0 from rfl] at hw213_5)
               (try rw [show 0 * 11 = 0 from rfl] at hw213_5)
               (try rw [Addr.add_zero'] at hw213_5)
               have hw213_4 := hx213_4
               (try rw [show ((0 : Int)).toNat = 0 from rfl] at hw213_4)
               (try rw [show 0 * 11 = 0 from rfl] at hw213_4)
               (try rw [Addr.add_zero'] at hw213_4)
               have hw213_3 := hx213_3
               (try rw [show ((0 : Int)).toNat = 0 from rfl] at hw213_3)
               (try rw [show 0 * 11 = 0 from rfl] at hw213_3)
               (try rw [Addr.add_zero'] at hw213_3)
               have hw213_2 := hx213_2
               (try rw [show ((0 : Int)).toNat = 0 from rfl] at hw213_2)
               (try rw [show 0 * 11 = 0 from rfl] at hw213_2)
               (try rw [Addr.add_zero'] at hw213_2)
               have hw213_1 := hx213_1
               (try rw [show ((0 : Int)).toNat = 0 from rfl] at hw213_1)
               (try rw [show 0 * 11 = 0 from rfl] at hw213_1)
               (try rw [Addr.add_zero'] at hw213_1)
               have hw213_0 := hx213_0
               (try rw [show ((0 : Int)).toNat = 0 from rfl] at hw213_0)
               (try rw [show 0 * 11 = 0 from rfl] at hw213_0)
               (try rw [Addr.add_zero'] at hw213_0)
               obtain rfl : ad209 = ad213 := (by injection e213)
               have qi213 : (0 < l4.length) = True := eq_true (by omega)
               (try rw [show ((0 : Int)).toNat = 0 from rfl] at hx213_0)
               (try rw [show 0 * 11 = 0 from rfl] at hx213_0)
               (try rw [Addr.add_zero'] at hx213_0)
               (try rw [show ((0 : Int)).toNat = 0 from rfl] at hx213_1)
               (try rw [show 0 * 11 = 0 from rfl] at hx213_1)
               (try rw [Addr.add_zero'] at hx213_1)
               (try rw [show ((0 : Int)).toNat = 0 from rfl] at hx213_2)
               (try rw [show 0 * 11 = 0 from rfl] at hx213_2)
               (try rw [Addr.add_zero'] at hx213_2)
               (try rw [show ((0 : Int)).toNat = 0 from rfl] at hx213_3)
               (try rw [show 0 * 11 = 0 from rfl] at hx213_3)
               (try rw [Addr.add_zero'] at hx213_3)
               (try rw [show ((0 : Int)).toNat = 0 from rfl] at hx213_4)
               (try rw [show 0 * 11 = 0 from rfl] at hx213_4)
               (try rw [Addr.add_zero'] at hx213_4)
               (try rw [show ((0 : Int)).toNat = 0 from rfl] at hx213_5)
               (try rw [show 0 * 11 = 0 from rfl] at hx213_5)
               (try rw [Addr.add_zero'] at hx213_5)
               (try rw [show ((0 : Int)).toNat = 0 from rfl] at hx213_6)
               (try rw [show 0 * 11 = 0 from rfl] at hx213_6)
               (try rw [Addr.add_zero'] at hx213_6)
               (try rw [show ((0 : Int)).toNat = 0 from rfl] at hx213_7)
               (try rw [show 0 * 11 = 0 from rfl] at hx213_7)
               (try rw [Addr.add_zero'] at hx213_7)
               (try rw [show ((0 : Int)).toNat = 0 from rfl] at hx213_8)
               (try rw [show 0 * 11 = 0 from rfl] at hx213_8)
               (try rw [Addr.add_zero'] at hx213_8)
               (try rw [show ((0 : Int)).toNat = 0 from rfl] at hx213_9)
               (try rw [show 0 * 11 = 0 from rfl] at hx213_9)
               (try rw [Addr.add_zero'] at hx213_9)
               (try rw [show ((0 : Int)).toNat = 0 from rfl] at hx213_10)
               (try rw [show 0 * 11 = 0 from rfl] at hx213_10)
               (try rw [Addr.add_zero'] at hx213_10)
               replace hx213_0 := cx_ HB hx213_0
               replace hx213_1 := cx_ HB hx213_1
               replace hx213_2 := cx_ HB hx213_2
               replace hx213_3 := cx_ HB hx213_3
               replace hx213_4 := cx_ HB hx213_4
               replace hx213_5 := cx_ HB hx213_5
               replace hx213_6 := cx_ HB hx213_6
               replace hx213_7 := cx_ HB hx213_7
               replace hx213_8 := cx_ HB hx213_8
               replace hx213_9 := cx_ HB hx213_9
               replace hx213_10 := cx_ HB hx213_10
               replace p213 := eq_true p213
               replace q213 := eq_true q213
               refine start_ (n := 25) (S := fun w' => w'.cell? ⟨gb210, 0, none⟩ = some (.int .u64 ((rd_T65 l4 x38_2).f0.f0)) ∧ w'.cell? ⟨gb210, 1, none⟩ = some (.int .u64 ((rd_T65 l4 x38_2).f0.f1)) ∧ w'.cell? ⟨gb210, 2, none⟩ = some (.bool ((rd_T65 l4 x38_2).f1.f0)) ∧ w'.cell? ⟨gb210, 3, none⟩ = some (.bool ((rd_T65 l4 x38_2).f1.f1)) ∧ w'.cell? ⟨gb210, 4, none⟩ = some (.int .u64 ((rd_T65 l4 x38_2).f1.f2.f0)) ∧ w'.cell? ⟨gb210, 5, none⟩ = some (.int .u64 ((rd_T65 l4 x38_2).f1.f2.f1)) ∧ w'.cell? ⟨gb210, 6, none⟩ = some (.int .u64 ((rd_T65 l4 x38_2).f1.f3.f0.f0)) ∧ w'.cell? ⟨gb210, 7, none⟩ = some (.int .u64 ((rd_T65 l4 x38_2).f1.f3.f0.f1)) ∧ w'.cell? ⟨gb210, 8, none⟩ = some (.int .u64 ((rd_T65 l4 x38_2).f1.f3.f1.f0)) ∧ w'.cell? ⟨gb210, 9, none⟩ = some (.int .u64 ((rd_T65 l4 x38_2).f1.f3.f1.f1)) ∧ w'.cell? ⟨gb210, 10, none⟩ = some (.int .i64 ((rd_T65 l4 x38_2).f1.f4)) ∧ w'.cell? (ad211.add ((x38_2).toNat * 2)) = some (.int .u64 ((rd_T39 t204 x38_2).f0)) ∧ w'.cell? ⟨(ad211.add ((x38_2).toNat * 2)).block, (ad211.add ((x38_2).toNat * 2)).off + 1, none⟩ = some (.int .u64 ((rd_T39 t204 x38_2).f1)) ∧ w'.cell? ad209 = some (.int .u64 ((rd_T65 l4 0).f0.f0)) ∧ w'.cell? ⟨ad209.block, ad209.off + 1, none⟩ = some (.int .u64 ((rd_T65 l4 0).f0.f1)) ∧ w'.cell? ⟨ad209.block, ad209.off + 2, none⟩ = some (.bool ((rd_T65 l4 0).f1.f0)) ∧ w'.cell? ⟨ad209.block, ad209.off + 3, none⟩ = some (.bool ((rd_T65 l4 0).f1.f1)) ∧ w'.cell? ⟨ad209.block, ad209.off + 4, none⟩ = some (.int .u64 ((rd_T65 l4 0).f1.f2.f0)) ∧ w'.cell? ⟨ad209.block, ad209.off + 5, none⟩ = some (.int .u64 ((rd_T65 l4 0).f1.f2.f1)) ∧ w'.cell? ⟨ad209.block, ad209.off + 6, none⟩ = some (.int .u64 ((rd_T65 l4 0).f1.f3.f0.f0)) ∧ w'.cell? ⟨ad209.block, ad209.off + 7, none⟩ = some (.int .u64 ((rd_T65 l4 0).f1.f3.f0.f1)) ∧ w'.cell? ⟨ad209.block, ad209.off + 8, none⟩ = some (.int .u64 ((rd_T65 l4 0).f1.f3.f1.f0)) ∧ w'.cell? ⟨ad209.block, ad209.off + 9, none⟩ = some (.int .u64 ((rd_T65 l4 0).f1.f3.f1.f1)) ∧ w'.cell? ⟨ad209.block, ad209.off + 10, none⟩ = some (.int .i64 ((rd_T65 l4 0).f1.f4))) (ds := []) #[false, false, false, false, false, false, false, false, false, false, false, false, false, false, false, false, false, false, false, false, false, false, false, false, false] (by kernel_rfl) rfl rfl ⟨kq_ BK210.out 0 rfl, kq_ BK210.out 1 rfl, kq_ BK210.out 2 rfl, kq_ BK210.out 3 rfl, kq_ BK210.out 4 rfl, kq_ BK210.out 5 rfl, kq_ BK210.out 6 rfl, kq_ BK210.out 7 rfl, kq_ BK210.out 8 rfl, kq_ BK210.out 9 rfl, kq_ BK210.out 10 rfl, hx211_0, hx211_1, ((HB.out.cell (World.block_lt_of_cell? w _ hw213_0)).trans hw213_0), ((HB.out.cell (World.block_lt_of_cell? w _ hw213_1)).trans hw213_1), ((HB.out.cell (World.block_lt_of_cell? w _ hw213_2)).trans hw213_2), ((HB.out.cell (World.block_lt_of_cell? w _ hw213_3)).trans hw213_3), ((HB.out.cell (World.block_lt_of_cell? w _ hw213_4)).trans hw213_4), ((HB.out.cell (World.block_lt_of_cell? w _ hw213_5)).trans hw213_5), ((HB.out.cell (World.block_lt_of_cell? w _ hw213_6)).trans hw213_6), ((HB.out.cell (World.block_lt_of_cell? w _ hw213_7)).trans hw213_7), ((HB.out.cell (World.block_lt_of_cell? w _ hw213_8)).trans hw213_8), ((HB.out.cell (World.block_lt_of_cell? w _ hw213_9)).trans hw213_9), ((HB.out.cell (World.block_lt_of_cell? w _ hw213_10)).trans hw213_10)⟩ (fun hHeld => ?_); refine with_tabW store_Check.tab7 store_Check.bits7 (fun HT_ HW_ => ?_)
               generalize w38.drew = w39 at HO_11 BK210 HB hx211_0 hx211_1 hx213_0 hx213_1 hx213_10 hx213_2 hx213_3 hx213_4 hx213_5 hx213_6 hx213_7 hx213_8 hx213_9 hHeld ⊢
               refine pu_ HT_ 0 (some 43) (bA4 1 25) ?_
               refine pu_ HT_ 2 (some 45) #[true, false, true, false, false, false, false, false, false, false, false, false, false, false, false, false, false, false, false, false, false, false, false, false, false] ?_
               refine pu_ HT_ 3 (some 46) #[true, false, true, true, false, false, false, false, false, false, false, false, false, false, false, false, false, false, false, false, false, false, false, false, false] ?_
               refine pu_ HT_ 4 (some 47) #[true, false, true, true, true, false, false, false, false, false, false, false, false, false, false, false, false, false, false, false, false, false, false, false, false] ?_
               refine tk_ HT_ HW_ hHeld 1 (some 44) (bA4 5 25) rfl (by rintro w' ⟨s0, s1, s2, s3, s4, s5, s6, s7, s8, s9, s10, s11, s12, s13, s14, s15, s16, s17, s18, s19, s20, s21, s22, s23⟩; go_simp; with_reducible rfl) ?_
               refine tk_ HT_ HW_ hHeld 5 (some 48) (bA4 6 25) rfl (by rintro w' ⟨s0, s1, s2, s3, s4, s5, s6, s7, s8, s9, s10, s11, s12, s13, s14, s15, s16, s17, s18, s19, s20, s21, s22, s23⟩; go_simp; with_reducible rfl) ?_
               refine pu_ HT_ 6 (some 49) (bA4 7 25) ?_
               refine pu_ HT_ 7 (some 50) (bA4 8 25) ?_
               refine pu_ HT_ 8 (some 51) (bA4 9 25) ?_
               refine pu_ HT_ 9 (some 52) (bA4 10 25) ?_
               refine tk_ HT_ HW_ hHeld 10 (some 53) (bA4 11 25) rfl (by rintro w' ⟨s0, s1, s2, s3, s4, s5, s6, s7, s8, s9, s10, s11, s12, s13, s14, s15, s16, s17, s18, s19, s20, s21, s22, s23⟩; go_simp; with_reducible rfl) ?_
               refine one_ (i := 11) (N := some 54) (bA4 12 25) rfl rfl (one_of HT_.out (by kernel_rfl)) (by decide) (fun K hK => ?_)
               refine gg_ func89 #[.slice A0 l0.length c0, .agg #[.bool ((rd_T65 l4 x38_2).f1.f0), .bool ((rd_T65 l4 x38_2).f1.f1), .int .u64 ((rd_T65 l4 x38_2).f1.f2.f0), .int .u64 ((rd_T65 l4 x38_2).f1.f2.f1), .int .u64 ((rd_T65 l4 x38_2).f1.f3.f0.f0), .int .u64 ((rd_T65 l4 x38_2).f1.f3.f0.f1), .int .u64 ((rd_T65 l4 x38_2).f1.f3.f1.f0), .int .u64 ((rd_T65 l4 x38_2).f1.f3.f1.f1), .int .i64 ((rd_T65 l4 x38_2).f1.f4)]] ?_
               with_reducible refine (store_open.calls k2 _ _ l0 ((rd_T65 l4 x38_2).f1.f0) ((rd_T65 l4 x38_2).f1.f1) ((rd_T65 l4 x38_2).f1.f2.f0) ((rd_T65 l4 x38_2).f1.f2.f1) ((rd_T65 l4 x38_2).f1.f3.f0.f0) ((rd_T65 l4 x38_2).f1.f3.f0.f1) ((rd_T65 l4 x38_2).f1.f3.f1.f0) ((rd_T65 l4 x38_2).f1.f3.f1.f1) ((rd_T65 l4 x38_2).f1.f4) true _ ?side1 ?side2 A26.out).mono ?_
               (case side1 => repeat (first | exact (Kd.C_below HR0.out HB.out) | (with_reducible refine Kd.C_alloc ?_ _) | (with_reducible refine Kd.C_drewN ?_ _) | (with_reducible refine Kd.C_drew ?_)))
               (case side2 => exact HC0.out)
               rintro e w41 ⟨rfl, hb⟩
               have HS11_ := (hb.cell (World.block_lt_of_cell? _ _ (hHeld.2.2.2.2.2.2.2.2.2.2.2.1))).trans (hHeld.2.2.2.2.2.2.2.2.2.2.2.1)
               have HS12_ := (hb.cell (World.block_lt_of_cell? _ _ (hHeld.2.2.2.2.2.2.2.2.2.2.2.2.1))).trans (hHeld.2.2.2.2.2.2.2.2.2.2.2.2.1)
               refine ⟨_, rfl, ?_⟩
               replace HO_11 := ak_ (Kd.R_below (rl_ HO_11) hb)
               replace BK210 := ak_ (kb_ (kl_ BK210) hb)
               replace HB := ak_ (bt_ (bw1_ HB GE210) hb)
               (try clear hb)
               (try clear hb2)
               (try clear hk)
               (try clear hi)
               refine hK.out _ _ ⟨kq_ BK210.out 0 rfl, kq_ BK210.out 1 rfl, kq_ BK210.out 2 rfl, kq_ BK210.out 3 rfl, kq_ BK210.out 4 rfl, kq_ BK210.out 5 rfl, kq_ BK210.out 6 rfl, kq_ BK210.out 7 rfl, kq_ BK210.out 8 rfl, kq_ BK210.out 9 rfl, kq_ BK210.out 10 rfl, HS11_, HS12_, ((HB.out.cell (World.block_lt_of_cell? w _ hw213_0)).trans hw213_0), ((HB.out.cell (World.block_lt_of_cell? w _ hw213_1)).trans hw213_1), ((HB.out.cell (World.block_lt_of_cell? w _ hw213_2)).trans hw213_2), ((HB.out.cell (World.block_lt_of_cell? w _ hw213_3)).trans hw213_3), ((HB.out.cell (World.block_lt_of_cell? w _ hw213_4)).trans hw213_4), ((HB.out.cell (World.block_lt_of_cell? w _ hw213_5)).trans hw213_5), ((HB.out.cell (World.block_lt_of_cell? w _ hw213_6)).trans hw213_6), ((HB.out.cell (World.block_lt_of_cell? w _ hw213_7)).trans hw213_7), ((HB.out.cell (World.block_lt_of_cell? w _ hw213_8)).trans hw213_8), ((HB.out.cell (World.block_lt_of_cell? w _ hw213_9)).trans hw213_9), ((HB.out.cell (World.block_lt_of_cell? w _ hw213_10)).trans hw213_10)⟩ (fun hHeld => ?_)
               clear hK K
               refine norm_ (a' := ?_) ?_ ?_
               rotate_left
               ·show Act.put _ (some 54) _ = _
                simp only [Act.put, setIfInBounds_toArray, set_cons_zero, set_cons_succ, i64_w, i32_w]
                rfl
               refine pu_ HT_ 12 (some 55) (bA4 13 25) ?_
               refine pu_ HT_ 13 (some 56) (bA4 14 25) ?_
               refine pu_ HT_ 14 (some 57) (bA4 15 25) ?_
               refine pu_ HT_ 15 (some 58) (bA4 16 25) ?_
               refine pu_ HT_ 16 (some 59) (bA4 17 25) ?_
               refine pu_ HT_ 18 (some 61) #[true, true, true, true, true, true, true, true, true, true, true, true, true, true, true, true, true, false, true, false, false, false, false, false, false] ?_
               refine pu_ HT_ 19 (some 62) #[true, true, true, true, true, true, true, true, true, true, true, true, true, true, true, true, true, false, true, true, false, false, false, false, false] ?_
               refine pu_ HT_ 20 (some 63) #[true, true, true, true, true, true, true, true, true, true, true, true, true, true, true, true, true, false, true, true, true, false, false, false, false] ?_
               refine pu_ HT_ 21 (some 64) #[true, true, true, true, true, true, true, true, true, true, true, true, true, true, true, true, true, false, true, true, true, true, false, false, false] ?_
               refine tk_ HT_ HW_ hHeld 17 (some 60) (bA4 22 25) rfl (by rintro w' ⟨s0, s1, s2, s3, s4, s5, s6, s7, s8, s9, s10, s11, s12, s13, s14, s15, s16, s17, s18, s19, s20, s21, s22, s23⟩; go_simp; with_reducible rfl) ?_
               refine tk_ HT_ HW_ hHeld 22 (some 65) (bA4 23 25) rfl (by rintro w' ⟨s0, s1, s2, s3, s4, s5, s6, s7, s8, s9, s10, s11, s12, s13, s14, s15, s16, s17, s18, s19, s20, s21, s22, s23⟩; go_simp; with_reducible rfl) ?_
               refine pu_ HT_ 23 (some 66) (bA4 24 25) ?_
               refine pu_ HT_ 24 (some 67) (bA4 25 25) ?_
               refine done_ (done_of HT_.out (by kernel_rfl)) ?_
               try go_wp2
               go_roundg k2
               case measure => have := HJ6.out; have := HK2.out; omega
               case rel => exact ⟨(wrap64 (x38_2 + 1)), rf_, H', ⟨by have := HJ6.out; have := HK2.out; omega⟩, ⟨rl_ HO_11⟩, ⟨bw1_ HB GE210⟩⟩
             ·rw [if_neg c28] at H
              exact absurd H (by simp)
            ·replace c27 := Bool.eq_false_iff.mpr c27
             subst c27
             have H1 : (some 1) = some r := by rw [if_neg (show ¬ (false = true) by decide)] at H; exact H
             clear H
             have H := H1
             clear H1
             obtain rfl := Option.some.inj H
             have p209 : 0 ≤ (x38_2 : Int) := od_ (by first | (with_reducible assumption) | assumption)
             have q209 : x38_2 < (l4.length : Int) := od_ (by first | (with_reducible assumption) | assumption)
             obtain ⟨ad209, e209, hx209_0, hx209_1, hx209_2, hx209_3, hx209_4, hx209_5, hx209_6, hx209_7, hx209_8, hx209_9, hx209_10⟩ := at_T65 HR4.out x38_2 p209 q209
             cases e209
             replace hx209_0 := cx_ HB hx209_0
             replace hx209_1 := cx_ HB hx209_1
             replace hx209_2 := cx_ HB hx209_2
             replace hx209_3 := cx_ HB hx209_3
             replace hx209_4 := cx_ HB hx209_4
             replace hx209_5 := cx_ HB hx209_5
             replace hx209_6 := cx_ HB hx209_6
             replace hx209_7 := cx_ HB hx209_7
             replace hx209_8 := cx_ HB hx209_8
             replace hx209_9 := cx_ HB hx209_9
             replace hx209_10 := cx_ HB hx209_10
             replace p209 := eq_true p209
             replace q209 := eq_true q209
             try go_wp2_with (first | ((with_reducible refine gate_dst (N := 14) rfl ?_); (try (refine gate_guard (by rfl) ?_; dsimp only)); refine bx_ 14 #[.int .u64 0, .int .u64 0, .bool false, .bool false, .int .u64 0, .int .u64 0, .int .u64 0, .int .u64 0, .int .u64 0, .int .u64 0, .int .i64 0] 65 ?_; intro gb210 hg w42 hbox hb; replace HO_11 := ak_ (Kd.R_below (rl_ HO_11) hb); have BK210 := ak_ hbox; have GW210 := ak_ (gs_ hg HB); have GE210 := ak_ (gs_ hg HB); replace HB := ak_ (bt_ (bl_ HB) hb); clear hb hbox hg; obtain ⟨hcz43_0, hcz43_1, hcz43_2, hcz43_3, hcz43_4, hcz43_5, hcz43_6, hcz43_7, hcz43_8, hcz43_9, hcz43_10, hfz43_0, hfz43_1, hfz43_2, hfz43_3, hfz43_4, hfz43_5, hfz43_6, hfz43_7, hfz43_8, hfz43_9, hfz43_10⟩ := kc11_ BK210.out))
             obtain ⟨w44, e_⟩ : ∃ w_, sC_ gb210 0 [.int .u64 ((rd_T65 l4 x38_2).f0.f0), .int .u64 ((rd_T65 l4 x38_2).f0.f1), .bool ((rd_T65 l4 x38_2).f1.f0), .bool ((rd_T65 l4 x38_2).f1.f1), .int .u64 ((rd_T65 l4 x38_2).f1.f2.f0), .int .u64 ((rd_T65 l4 x38_2).f1.f2.f1), .int .u64 ((rd_T65 l4 x38_2).f1.f3.f0.f0), .int .u64 ((rd_T65 l4 x38_2).f1.f3.f0.f1), .int .u64 ((rd_T65 l4 x38_2).f1.f3.f1.f0), .int .u64 ((rd_T65 l4 x38_2).f1.f3.f1.f1), .int .i64 ((rd_T65 l4 x38_2).f1.f4)] w42 = w_ := ⟨_, rfl⟩
             have n0_ : Aside0 (Kd.R k39 39 w44 w.heap.size (fun _ => True) v206 t204) := ⟨Kd.R_mono (sC_far (Kd.R_types HO_11.out BK210.out (by decide)) (fun _ hk => hk.2) e_) (fun _ hk => trivial)⟩
             have n1_ : Aside0 (w44.heap[gb210]? = some (.cells #[.int .u64 ((rd_T65 l4 x38_2).f0.f0), .int .u64 ((rd_T65 l4 x38_2).f0.f1), .bool ((rd_T65 l4 x38_2).f1.f0), .bool ((rd_T65 l4 x38_2).f1.f1), .int .u64 ((rd_T65 l4 x38_2).f1.f2.f0), .int .u64 ((rd_T65 l4 x38_2).f1.f2.f1), .int .u64 ((rd_T65 l4 x38_2).f1.f3.f0.f0), .int .u64 ((rd_T65 l4 x38_2).f1.f3.f0.f1), .int .u64 ((rd_T65 l4 x38_2).f1.f3.f1.f0), .int .u64 ((rd_T65 l4 x38_2).f1.f3.f1.f1), .int .i64 ((rd_T65 l4 x38_2).f1.f4)] 65 (0, 0))) := ⟨sC_blk BK210.out rfl e_⟩
             have n2_ : Aside0 (Below w.heap.size w w44) := ⟨sC_below GE210.out HB.out e_⟩
             (try clear HO_11)
             (try clear BK210)
             (try clear HB)
             simp only [sC_, Nat.reduceAdd] at e_
             rw [e_]
             clear e_
             have HO_11 := n0_
             have BK210 := n1_
             have HB := n2_
             clear n0_ n1_ n2_
             replace HO_11 := ak_ (Kd.R_drew HO_11.out)
             replace BK210 := ak_ (kd_ BK210.out)
             replace HB := ak_ (bd_ HB.out)
             obtain ⟨Ao46, co46, eo46⟩ := Kd.R_slice HO_11.out
             (first | subst eo46 | (injection eo46 with f1_ f2_ f3_; have f4_ := f1_.symm; have f5_ := f3_.symm; clear f1_ f2_ f3_; subst f4_; subst f5_))
             have p211 : 0 ≤ (x38_2 : Int) := od_ (by first | (with_reducible assumption) | assumption)
             have q211 : x38_2 < (t204.length : Int) := od_ (by first | (with_reducible assumption) | assumption)
             obtain ⟨ad211, e211, hx211_0, hx211_1⟩ := at_T39 (Kd.R_reads' HO_11.out).2.2 x38_2 p211 q211
             cases e211
             replace p211 := eq_true p211
             replace q211 := eq_true q211
             refine start_ (n := 25) (S := fun w' => w'.cell? ⟨gb210, 0, none⟩ = some (.int .u64 ((rd_T65 l4 x38_2).f0.f0)) ∧ w'.cell? ⟨gb210, 1, none⟩ = some (.int .u64 ((rd_T65 l4 x38_2).f0.f1)) ∧ w'.cell? ⟨gb210, 2, none⟩ = some (.bool ((rd_T65 l4 x38_2).f1.f0)) ∧ w'.cell? ⟨gb210, 3, none⟩ = some (.bool ((rd_T65 l4 x38_2).f1.f1)) ∧ w'.cell? ⟨gb210, 4, none⟩ = some (.int .u64 ((rd_T65 l4 x38_2).f1.f2.f0)) ∧ w'.cell? ⟨gb210, 5, none⟩ = some (.int .u64 ((rd_T65 l4 x38_2).f1.f2.f1)) ∧ w'.cell? ⟨gb210, 6, none⟩ = some (.int .u64 ((rd_T65 l4 x38_2).f1.f3.f0.f0)) ∧ w'.cell? ⟨gb210, 7, none⟩ = some (.int .u64 ((rd_T65 l4 x38_2).f1.f3.f0.f1)) ∧ w'.cell? ⟨gb210, 8, none⟩ = some (.int .u64 ((rd_T65 l4 x38_2).f1.f3.f1.f0)) ∧ w'.cell? ⟨gb210, 9, none⟩ = some (.int .u64 ((rd_T65 l4 x38_2).f1.f3.f1.f1)) ∧ w'.cell? ⟨gb210, 10, none⟩ = some (.int .i64 ((rd_T65 l4 x38_2).f1.f4)) ∧ w'.cell? (ad211.add ((x38_2).toNat * 2)) = some (.int .u64 ((rd_T39 t204 x38_2).f0)) ∧ w'.cell? ⟨(ad211.add ((x38_2).toNat * 2)).block, (ad211.add ((x38_2).toNat * 2)).off + 1, none⟩ = some (.int .u64 ((rd_T39 t204 x38_2).f1))) (ds := []) #[false, false, false, false, false, false, false, false, false, false, false, false, false, false, false, false, false, false, false, false, false, false, false, false, false] (by kernel_rfl) rfl rfl ⟨kq_ BK210.out 0 rfl, kq_ BK210.out 1 rfl, kq_ BK210.out 2 rfl, kq_ BK210.out 3 rfl, kq_ BK210.out 4 rfl, kq_ BK210.out 5 rfl, kq_ BK210.out 6 rfl, kq_ BK210.out 7 rfl, kq_ BK210.out 8 rfl, kq_ BK210.out 9 rfl, kq_ BK210.out 10 rfl, hx211_0, hx211_1⟩ (fun hHeld => ?_); refine with_tabW store_Check.tab7 store_Check.bits7 (fun HT_ HW_ => ?_)
             generalize w44.drew = w45 at HO_11 BK210 HB hx211_0 hx211_1 hHeld ⊢
             refine pu_ HT_ 0 (some 43) (bA4 1 25) ?_
             refine pu_ HT_ 2 (some 45) #[true, false, true, false, false, false, false, false, false, false, false, false, false, false, false, false, false, false, false, false, false, false, false, false, false] ?_
             refine pu_ HT_ 3 (some 46) #[true, false, true, true, false, false, false, false, false, false, false, false, false, false, false, false, false, false, false, false, false, false, false, false, false] ?_
             refine pu_ HT_ 4 (some 47) #[true, false, true, true, true, false, false, false, false, false, false, false, false, false, false, false, false, false, false, false, false, false, false, false, false] ?_
             refine tk_ HT_ HW_ hHeld 1 (some 44) (bA4 5 25) rfl (by rintro w' ⟨s0, s1, s2, s3, s4, s5, s6, s7, s8, s9, s10, s11, s12⟩; go_simp; with_reducible rfl) ?_
             refine tk_ HT_ HW_ hHeld 5 (some 48) (bA4 6 25) rfl (by rintro w' ⟨s0, s1, s2, s3, s4, s5, s6, s7, s8, s9, s10, s11, s12⟩; go_simp; with_reducible rfl) ?_
             refine pu_ HT_ 6 (some 49) (bA4 7 25) ?_
             refine pu_ HT_ 7 (some 50) (bA4 8 25) ?_
             refine pu_ HT_ 8 (some 51) (bA4 9 25) ?_
             refine pu_ HT_ 9 (some 52) (bA4 10 25) ?_
             refine tk_ HT_ HW_ hHeld 10 (some 53) (bA4 11 25) rfl (by rintro w' ⟨s0, s1, s2, s3, s4, s5, s6, s7, s8, s9, s10, s11, s12⟩; go_simp; with_reducible rfl) ?_
             refine one_ (i := 11) (N := some 54) (bA4 12 25) rfl rfl (one_of HT_.out (by kernel_rfl)) (by decide) (fun K hK => ?_)
             refine gg_ func89 #[.slice A0 l0.length c0, .agg #[.bool ((rd_T65 l4 x38_2).f1.f0), .bool ((rd_T65 l4 x38_2).f1.f1), .int .u64 ((rd_T65 l4 x38_2).f1.f2.f0), .int .u64 ((rd_T65 l4 x38_2).f1.f2.f1), .int .u64 ((rd_T65 l4 x38_2).f1.f3.f0.f0), .int .u64 ((rd_T65 l4 x38_2).f1.f3.f0.f1), .int .u64 ((rd_T65 l4 x38_2).f1.f3.f1.f0), .int .u64 ((rd_T65 l4 x38_2).f1.f3.f1.f1), .int .i64 ((rd_T65 l4 x38_2).f1.f4)]] ?_
             with_reducible refine (store_open.calls k2 _ _ l0 ((rd_T65 l4 x38_2).f1.f0) ((rd_T65 l4 x38_2).f1.f1) ((rd_T65 l4 x38_2).f1.f2.f0) ((rd_T65 l4 x38_2).f1.f2.f1) ((rd_T65 l4 x38_2).f1.f3.f0.f0) ((rd_T65 l4 x38_2).f1.f3.f0.f1) ((rd_T65 l4 x38_2).f1.f3.f1.f0) ((rd_T65 l4 x38_2).f1.f3.f1.f1) ((rd_T65 l4 x38_2).f1.f4) false _ ?side1 ?side2 A26.out).mono ?_
             (case side1 => repeat (first | exact (Kd.C_below HR0.out HB.out) | (with_reducible refine Kd.C_alloc ?_ _) | (with_reducible refine Kd.C_drewN ?_ _) | (with_reducible refine Kd.C_drew ?_)))
             (case side2 => exact HC0.out)
             rintro e w47 ⟨rfl, hb⟩
             have HS11_ := (hb.cell (World.block_lt_of_cell? _ _ (hHeld.2.2.2.2.2.2.2.2.2.2.2.1))).trans (hHeld.2.2.2.2.2.2.2.2.2.2.2.1)
             have HS12_ := (hb.cell (World.block_lt_of_cell? _ _ (hHeld.2.2.2.2.2.2.2.2.2.2.2.2))).trans (hHeld.2.2.2.2.2.2.2.2.2.2.2.2)
             refine ⟨_, rfl, ?_⟩
             replace HO_11 := ak_ (Kd.R_below (rl_ HO_11) hb)
             replace BK210 := ak_ (kb_ (kl_ BK210) hb)
             replace HB := ak_ (bt_ (bw1_ HB GE210) hb)
             (try clear hb)
             (try clear hb2)
             (try clear hk)
             (try clear hi)
             refine hK.out _ _ ⟨kq_ BK210.out 0 rfl, kq_ BK210.out 1 rfl, kq_ BK210.out 2 rfl, kq_ BK210.out 3 rfl, kq_ BK210.out 4 rfl, kq_ BK210.out 5 rfl, kq_ BK210.out 6 rfl, kq_ BK210.out 7 rfl, kq_ BK210.out 8 rfl, kq_ BK210.out 9 rfl, kq_ BK210.out 10 rfl, HS11_, HS12_⟩ (fun hHeld => ?_)
             clear hK K
             refine norm_ (a' := ?_) ?_ ?_
             rotate_left
             ·show Act.put _ (some 54) _ = _
              simp only [Act.put, setIfInBounds_toArray, set_cons_zero, set_cons_succ, i64_w, i32_w]
              rfl
             refine pu_ HT_ 12 (some 55) (bA4 13 25) ?_
             refine pu_ HT_ 13 (some 56) (bA4 14 25) ?_
             refine pu_ HT_ 14 (some 57) (bA4 15 25) ?_
             refine pn_ HT_ 15 (some 58) (bA4 16 25) ?_
             refine pn_ HT_ 16 (some 59) (bA4 17 25) ?_
             refine pn_ HT_ 17 (some 60) (bA4 18 25) ?_
             refine pn_ HT_ 18 (some 61) (bA4 19 25) ?_
             refine pn_ HT_ 19 (some 62) (bA4 20 25) ?_
             refine pn_ HT_ 20 (some 63) (bA4 21 25) ?_
             refine pn_ HT_ 21 (some 64) (bA4 22 25) ?_
             refine pn_ HT_ 22 (some 65) (bA4 23 25) ?_
             refine pn_ HT_ 23 (some 66) (bA4 24 25) ?_
             refine pu_ HT_ 24 (some 67) (bA4 25 25) ?_
             refine done_ (done_of HT_.out (by kernel_rfl)) ?_
             try go_wp2
             go_ret
             exact ea_ (bw1_ HB GE210)
          ·rw [if_neg c19] at H
           exact absurd H (by simp)
         ·rw [if_neg c18] at H
          exact absurd H (by simp)
        ·rw [if_neg c17] at H
         exact absurd H (by simp)
       ·rw [if_neg c16] at H
        have c16b0 := decide_eq_false c16
        clear c16
        obtain rfl := Option.some.inj H
        go_wp2
        go_ret
        exact ea_ (bl_ HB)
theorem se_goesC {P : Program} {ops : Array Oper} {Q : Exit → Act → World → Prop} {rest : List Oper} {oi : Oper} {a : Act} {w : World} (N : Option Tmp) (hd : oi.dst = N) (hg : oi.guard = none) {f : FuncId} {caps : Array Value} {x : Operand} {fn : Func} {xs_ : Array Operand} {ts : Array TypeId} (hf : P.funcs[f]? = some fn) (hname : (fn.name == "runtime.NumGoroutine") = false) (hb : fn.body.isSome = true) (args : Array Value)
   (hop : oi.op = .call { callee := .value x, args := xs_, argTypes := ts }) (hx : a.eval x = .func (.func f) #[] caps) (hargs : xs_.map a.eval = args)
   (h : Calls P f (args ++ caps) w fun e w' => ∃ v, e = .returned v ∧ wpList P ops Q rest (a.put N v) w') : wpList P ops Q (oi :: rest) a w := by
  refine wpList_plain hg fun K hK => ?_
  have he := enters_ hf hname hb (args ++ caps) w
  have hrun : (execOp a.eval oi).run P w = .ok (.enter f (args ++ caps)) w := by
   unfold execOp
   simp [hop, resolve, Deferred.ofValue, invoke, hx, hargs, he]
  unfold Oper.wp
  rw [hrun, Oper.upon_enter]
  refine h.mono fun e w'' hh => ?_
  obtain ⟨v, rfl, hk⟩ := hh
  subst hd
  exact hK _ _ hk
theorem se_gateC {P : Program} {ops : Array Oper} {Q : Exit → Act → World → Prop} {rest : List Oper} {o : Oper} {a : Act} {W : World} {x : Operand} {xs_ : Array Operand} {ts : Array TypeId} (_ho : o.op = .call { callee := .value x, args := xs_, argTypes := ts }) (h : wpList P ops Q (o :: rest) a W) : wpList P ops Q (o :: rest) a W := h
def se_any.f (q : S65 → Option Bool) : List S65 → Option Bool
  | [] => some false
  | x :: l => (q x).bind fun b => if b = true then some true else se_any.f q l
theorem se_any.mono {q q' : S65 → Option Bool} (hq : ∀ x, LeO (q x) (q' x)) : ∀ l, LeO (se_any.f q l) (se_any.f q' l)
  | [] => LeO.refl _
  | x :: l => LeO.bind (hq x) (fun _ => LeO.ite (LeO.refl _) (se_any.mono hq l))
set_option maxHeartbeats 4000000 in
set_option maxRecDepth 100000 in
theorem se_index.calls (q : S65 → Option Bool) (g : Nat) (fn : Func) (lb : Array Value) (hf : Try.prog.funcs[g]? = some fn) (hname : (fn.name == "runtime.NumGoroutine") = false) (hbo : fn.body.isSome = true) (A : Option Addr) (c : Nat) (l : List S65) (r : Bool) (w : World) (hr : Kd.C k65 w A l.length l) (hlen : l.length ≤ 1000000)
   (hst : ∀ (x : S65) (b : Bool) (W : World), Below w.heap.size w W → q x = some b → Calls Try.prog g (#[.agg #[.int .u64 x.f0.f0, .int .u64 x.f0.f1, .bool x.f1.f0, .bool x.f1.f1, .int .u64 x.f1.f2.f0, .int .u64 x.f1.f2.f1, .int .u64 x.f1.f3.f0.f0, .int .u64 x.f1.f3.f0.f1, .int .u64 x.f1.f3.f1.f0, .int .u64 x.f1.f3.f1.f1, .int .i64 x.f1.f4]] ++ lb) W fun e W' => e = .returned (.bool b) ∧ Below W.heap.size W W')
   (h : se_any.f q l = some r) :
   Calls Try.prog 111 #[.slice A l.length c, .func (.func g) #[] lb] w fun e w' => (∃ i : Int, e = .returned (.int .i64 i) ∧ decide (0 ≤ i) = r) ∧ Below w.heap.size w w' := by
  have HR := ak_ hr
  have HF := ak_ hf
  have HN := ak_ hname
  have HBO := ak_ hbo
  have HST := ak_ hst
  have H0 := ak_ h
  clear hr hf hname hbo hst h
  go_enter func111, ntmps111
  go_wp2
  go_loopw [8] (fun i wr => ∃ k : Nat, i = .int .i64 k ∧ Aside0 (k ≤ l.length) ∧ Aside0 (se_any.f q (l.drop k) = some r) ∧ Aside0 (Below w.heap.size w wr)) (fun i _ => l.length - (intOf i).toNat)
  case atStart => exact ⟨0, rfl, ⟨Nat.zero_le _⟩, ⟨H0.out⟩, ⟨Below.refl _ _⟩⟩
  case round =>
   obtain ⟨k, rfl, HK, HA, HB⟩ := hrel
   by_cases hlt : k < l.length
   ·obtain ⟨ad, e1, hx0, hx1, hx2, hx3, hx4, hx5, hx6, hx7, hx8, hx9, hx10⟩ := at_T65 (Kd.C_below HR.out HB.out) (k : Int) (by omega) (by omega)
    cases e1
    rw [Int.toNat_natCast] at hx0 hx1 hx2 hx3 hx4 hx5 hx6 hx7 hx8 hx9 hx10
    have hg : rd_T65 l (k : Int) = l[k] := by
     first | (unfold rd_T65; simp [hlt]; done) | (simp [rd_T65, rdOf, hlt]; done)
    rw [hg] at hx0 hx1 hx2 hx3 hx4 hx5 hx6 hx7 hx8 hx9 hx10
    have hd : l.drop k = l[k] :: l.drop (k + 1) := List.drop_eq_getElem_cons hlt
    have HA2 := HA.out
    rw [hd, se_any.f] at HA2
    clear hg hd HA
    generalize l[k] = x at *
    obtain ⟨b, hq, HA3⟩ := bind_eq_some_iff.mp HA2
    clear HA2
    have HQ := ak_ hq
    have HD := ak_ HA3
    clear hq HA3
    have hkd : decide ((k : Int) < (l.length : Int)) = true := decide_eq_true (by omega)
    cases b with
    | true =>
     go_wp2_with ((with_reducible refine se_gateC (x := .tmp 11) (xs_ := #[.tmp 15]) rfl ?_); refine se_goesC (some 16) rfl rfl HF.out HN.out HBO.out #[.agg #[.int .u64 x.f0.f0, .int .u64 x.f0.f1, .bool x.f1.f0, .bool x.f1.f1, .int .u64 x.f1.f2.f0, .int .u64 x.f1.f2.f1, .int .u64 x.f1.f3.f0.f0, .int .u64 x.f1.f3.f0.f1, .int .u64 x.f1.f3.f1.f0, .int .u64 x.f1.f3.f1.f1, .int .i64 x.f1.f4]] rfl rfl (by (try simp only [map_toArray, map_cons, map_nil]); first | done | rfl) ?_; refine (HST.out x true _ HB.out HQ.out).mono ?_; rintro e w5 ⟨rfl, hb⟩; refine ⟨_, rfl, ?_⟩; have HB5 := ak_ (bt_ HB.out hb); clear hb)
     go_ret
     have h9 : some true = some r := HD.out
     have h8 := Option.some.inj h9
     exact ⟨⟨_, rfl, by rw [← h8]; exact decide_eq_true (by omega)⟩, HB5.out⟩
    | false =>
     go_wp2_with ((with_reducible refine se_gateC (x := .tmp 11) (xs_ := #[.tmp 15]) rfl ?_); refine se_goesC (some 16) rfl rfl HF.out HN.out HBO.out #[.agg #[.int .u64 x.f0.f0, .int .u64 x.f0.f1, .bool x.f1.f0, .bool x.f1.f1, .int .u64 x.f1.f2.f0, .int .u64 x.f1.f2.f1, .int .u64 x.f1.f3.f0.f0, .int .u64 x.f1.f3.f0.f1, .int .u64 x.f1.f3.f1.f0, .int .u64 x.f1.f3.f1.f1, .int .i64 x.f1.f4]] rfl rfl (by (try simp only [map_toArray, map_cons, map_nil]); first | done | rfl) ?_; refine (HST.out x false _ HB.out HQ.out).mono ?_; rintro e w5 ⟨rfl, hb⟩; refine ⟨_, rfl, ?_⟩; have HB5 := ak_ (bt_ HB.out hb); clear hb)
     go_roundw
     case rel => exact ⟨k + 1, by go_num, ⟨by omega⟩, ⟨by have := HD.out; simpa using this⟩, HB5⟩
     case measure => simp [intOf]; omega
   ·have hkl : k = l.length := by have := HK.out; omega
    subst hkl
    have hkd : decide ((l.length : Int) < (l.length : Int)) = false := decide_eq_false (by omega)
    have HA2 := HA.out
    rw [List.drop_length, se_any.f] at HA2
    go_wp2
    go_ret
    have h8 := Option.some.inj HA2
    exact ⟨⟨_, rfl, by rw [← h8]; rfl⟩, HB.out⟩
set_option maxHeartbeats 4000000 in
set_option maxRecDepth 100000 in
theorem se_contains.calls (q : S65 → Option Bool) (g : Nat) (fn : Func) (lb : Array Value) (hf : Try.prog.funcs[g]? = some fn) (hname : (fn.name == "runtime.NumGoroutine") = false) (hbo : fn.body.isSome = true) (A : Option Addr) (c : Nat) (l : List S65) (r : Bool) (w : World) (hr : Kd.C k65 w A l.length l) (hlen : l.length ≤ 1000000)
   (hst : ∀ (x : S65) (b : Bool) (W : World), Below w.heap.size w W → q x = some b → Calls Try.prog g (#[.agg #[.int .u64 x.f0.f0, .int .u64 x.f0.f1, .bool x.f1.f0, .bool x.f1.f1, .int .u64 x.f1.f2.f0, .int .u64 x.f1.f2.f1, .int .u64 x.f1.f3.f0.f0, .int .u64 x.f1.f3.f0.f1, .int .u64 x.f1.f3.f1.f0, .int .u64 x.f1.f3.f1.f1, .int .i64 x.f1.f4]] ++ lb) W fun e W' => e = .returned (.bool b) ∧ Below W.heap.size W W')
   (h : se_any.f q l = some r) :
   Calls Try.prog 74 #[.slice A l.length c, .func (.func g) #[] lb] w fun e w' => e = .returned (.bool r) ∧ Below w.heap.size w w' := by
  have K := ak_ (se_index.calls q g fn lb hf hname hbo A c l r w hr hlen hst h)
  clear hr hf hname hbo hst h
  go_enter func74, ntmps74
  go_wp2_with ((with_reducible refine gate_callee (f := 111) rfl ?_); refine gl_ (some 7) func111 #[.slice A l.length c, .func (.func g) #[] lb] ?_; refine (K.out).mono ?_; rintro e w5 ⟨⟨i, rfl, hi⟩, hb⟩; refine ⟨_, rfl, ?_⟩; have HI := ak_ hi; have HB5 := ak_ hb; clear hi hb)
  go_ret
  exact ⟨by rw [← HI.out]; rfl, HB5.out⟩
set_option maxHeartbeats 4000000 in
set_option maxRecDepth 100000 in
theorem se_sym (x : S65) (W : World) : Calls Try.prog 73 #[.agg #[.int .u64 x.f0.f0, .int .u64 x.f0.f1, .bool x.f1.f0, .bool x.f1.f1, .int .u64 x.f1.f2.f0, .int .u64 x.f1.f2.f1, .int .u64 x.f1.f3.f0.f0, .int .u64 x.f1.f3.f0.f1, .int .u64 x.f1.f3.f1.f0, .int .u64 x.f1.f3.f1.f1, .int .i64 x.f1.f4]] W fun e W' => e = .returned (.bool x.f1.f0) ∧ Below W.heap.size W W' := by
  have HB := ak_ (Below.refl W.heap.size W)
  have hu65 := underlying65
  go_enter func73, ntmps73
  go_wp2_with (first | ((with_reducible refine gate_dst (N := 1) rfl ?_); refine bx_ 1 #[.int .u64 x.f0.f0, .int .u64 x.f0.f1, .bool x.f1.f0, .bool x.f1.f1, .int .u64 x.f1.f2.f0, .int .u64 x.f1.f2.f1, .int .u64 x.f1.f3.f0.f0, .int .u64 x.f1.f3.f0.f1, .int .u64 x.f1.f3.f1.f0, .int .u64 x.f1.f3.f1.f1, .int .i64 x.f1.f4] 65 ?_; intro g hgq w1 hbox hb; have m_ := ak_ (bt_ HB.out hb); have z2 : w1.cell? ⟨g, 2, none⟩ = some (.bool x.f1.f0) := (kc_ hbox 2).trans rfl; clear HB; have HB := m_; clear m_ hb hbox hgq))
  go_ret
  exact ⟨rfl, by repeat (first | exact HB.out | apply bn_ | apply bd_)⟩
def api_Entry_74.f (l : List S65) : Option Bool := if l.length ≤ 1000000 then se_any.f (fun x => some x.f1.f0) l else none
theorem api_Entry_74.calls (A0 : Option Addr) (c0 : Nat) (l0 : List S65) (r : Bool) (w : World) (hr0 : Kd.C k65 w A0 l0.length l0) (hc0 : l0.length ≤ c0) (h : api_Entry_74.f l0 = some r) :
   Calls Try.prog 74 #[.slice A0 l0.length c0, .func (.func 73) #[] #[]] w fun e w' => e = .returned (.bool r) ∧ Below w.heap.size w w' := by
  unfold api_Entry_74.f at h
  by_cases c : l0.length ≤ 1000000
  ·rw [if_pos c] at h
   exact se_contains.calls (fun x => some x.f1.f0) 73 _ #[] func73 (by kernel_rfl) (by kernel_rfl) A0 c0 l0 r w hr0 c (fun x b W _ hq => by obtain rfl := Option.some.inj hq; exact se_sym x W) h
  ·rw [if_neg c] at h; exact absurd h (by simp)
theorem arr_C2 {w : World} {g : Nat} {t : TypeId} {a b : Int} (h : w.heap[g]? = some (.cells #[.int .u64 a, .int .u64 b] t (0, 0))) : Kd.C (Kd.int .u64) w (some ⟨g, 0, none⟩) 2 [a, b] := by
  refine ⟨rfl, by decide, fun _ => ⟨_, rfl, fun j p hj => ?_⟩⟩
  have hs : (Kd.int .u64).sz = 1 := rfl
  rw [hs]
  match j, hj with
  | 0, hj =>
   obtain rfl : a = p := by simpa using hj
   exact ⟨[.int .u64 a], rfl, rfl, fun i u hu => by
    match i, hu with
    | 0, hu => rw [Addr.add_lit]; exact ((kc_ h 0).trans rfl).trans (by simpa using hu)
    | i + 1, hu => simp at hu⟩
  | 1, hj =>
   obtain rfl : b = p := by simpa using hj
   exact ⟨[.int .u64 b], rfl, rfl, fun i u hu => by
    match i, hu with
    | 0, hu => rw [Addr.add_lit]; exact ((kc_ h 1).trans rfl).trans (by simpa using hu)
    | i + 1, hu => simp at hu⟩
  | j + 2, hj => simp at hj
theorem arr_index2 {P : Program} {t e : TypeId} (hu : P.underlying t = some (.array 2 e)) (hg : P.plainKey e = true) (hs : P.cellsOf e = 1) (a b i : Int) (h0 : 0 ≤ i) (h1 : i < 2) (w : World) :
   (Instr.index t (.agg #[.int .u64 a, .int .u64 b]) (.int .i64 i)).run P w = .ok (.int .u64 (rd [a, b] i)) w := by
  obtain ⟨q, hq⟩ : ∃ q, P.info? e = some q := by
   unfold Program.plainKey at hg
   cases hu : P.underlying e with
   | none => simp [hu] at hg
   | some d => exact info_of_underlying hu
  have z := run_sizeOf w hq
  rw [hs] at z
  rcases (show i = 0 ∨ i = 1 by omega) with rfl | rfl
  ·have p0 := run_part_plain w hg (xs := #[.int .u64 a, .int .u64 b]) (off := 0) (v := .int .u64 a) rfl
   simp [Instr.index, run_underlying hu, asIntOf, z, p0, rd]
  ·have p1 := run_part_plain w hg (xs := #[.int .u64 a, .int .u64 b]) (off := 1) (v := .int .u64 b) rfl
   simp [Instr.index, run_underlying hu, asIntOf, z, p1, rd]
def mix_Octets.l0 : Nat → List Int → List Int → Int → Int → Option (List Int)
  | 0, _, _, _, _ => none
  | k + 1, x1, x3, x7, x8 => if x8 < x7 then (if 0 ≤ (wrap64 (Int.tdiv x8 8)) then (if (wrap64 (Int.tdiv x8 8)) < 2 then (if 0 ≤ (wrap64 ((Int.tmod x8 8) * 8)) then (if 0 ≤ x8 then (if x8 < (x3.length : Int) then (mix_Octets.l0 k x1 (x3.set (x8 : Int).toNat ((shr .u64 (rd x1 (wrap64 (Int.tdiv x8 8))) (wrap64 ((Int.tmod x8 8) * 8))) % 256)) x7 (wrap64 (x8 + 1))) else (none)) else (none)) else (none)) else (none)) else (none)) else (some x3)
def mix_Octets.g (k : Nat) (l0 : List Int) : Option (List Int) := if 16 ≤ 281474976710656 then ((some (List.replicate 16 0 : List Int)).bind fun y214 => (mix_Octets.l0 k l0 y214 (y214.length : Int) 0)) else (none)
def mix_Octets.f (k : Nat) (a0_0 : Int) (a0_1 : Int) : Option (List Int) := mix_Octets.g k [a0_0, a0_1]
theorem mix_Octets.mono_l : ∀ k, (∀ y0 y1 y2 y3, LeO (mix_Octets.l0 k y0 y1 y2 y3) (mix_Octets.l0 (k + 1) y0 y1 y2 y3))
  | 0 => fun _ _ _ _ r h => by simp [mix_Octets.l0] at h
  | k + 1 => by
   have ih0 := mix_Octets.mono_l k
   ·intro y0 y1 y2 y3
    unfold mix_Octets.l0
    repeat' first | (with_reducible first | exact ih0 .. | exact LeO.refl _ | exact LeO.none _ | refine LeO.ite ?_ ?_ | refine LeO.bind ?_ (fun _ => ?_)) | exact ih0 .. | refine LeO.ite ?_ ?_ | refine LeO.bind ?_ (fun _ => ?_)
theorem mix_Octets.mono : ∀ a0 a1 k, LeO (mix_Octets.f k a0 a1) (mix_Octets.f (k + 1) a0 a1) := by
  intro a0 a1 k
  have ih0 := mix_Octets.mono_l k
  unfold mix_Octets.f mix_Octets.g
  repeat' first | (with_reducible first | exact ih0 .. | exact LeO.refl _ | exact LeO.none _ | refine LeO.ite ?_ ?_ | refine LeO.bind ?_ (fun _ => ?_)) | exact ih0 .. | refine LeO.ite ?_ ?_ | refine LeO.bind ?_ (fun _ => ?_)
set_option maxHeartbeats 8000000 in
set_option maxRecDepth 100000 in
theorem mix_Octets.calls (k : Nat) (a0_0 : Int) (a0_1 : Int) (r : List Int) (w : World) (h : mix_Octets.f k a0_0 a0_1 = some r) :
   Calls Try.prog 75 #[.agg #[.int .u64 a0_0, .int .u64 a0_1]] w fun e w' => ∃ v0_ : Value, e = .returned (v0_) ∧ Kd.R (Kd.int .u8) 5 w' w.heap.size (fun _ => True) v0_ r ∧ Below w.heap.size w w' := by
  have hu_b := underlying25
  have H : (if 16 ≤ 281474976710656 then ((some (List.replicate 16 0 : List Int)).bind fun y214 => (mix_Octets.l0 k [a0_0, a0_1] y214 (y214.length : Int) 0)) else (none)) = some r := h
  clear h
  by_cases c2 : 16 ≤ 281474976710656
  ·rw [if_pos c2] at H
   have c2b0 := eq_true c2
   have c2b1 := decide_eq_true c2
   clear c2
   obtain ⟨y214, hy214⟩ : ∃ y_ : List Int, y_ = (List.replicate 16 0) := ⟨_, rfl⟩
   replace H : (mix_Octets.l0 k [a0_0, a0_1] y214 (y214.length : Int) 0) = some r := by first | (rw [hy214]; with_reducible exact H) | (have H2_ := (Option.bind_some _ _).symm.trans H; rw [hy214]; with_reducible exact H2_) | (have H2_ := (Option.bind_some _ _).symm.trans H; with_reducible exact H2_) | with_reducible exact H | (rw [hy214]; exact H) | exact H
   have Ny214 := ak_ hy214
   clear hy214
   have H' := ak_ H
   clear H
   go_enter func75, ntmps75
   go_wp2_with (first | ((with_reducible refine gate_dst (N := 1) rfl ?_); refine bx_ 1 #[.int .u64 a0_0, .int .u64 a0_1] 25 ?_; intro gb0 hg wq hbox hb; have BX := ak_ hb; have HR0 := ak_ (arr_C2 hbox); clear hb hbox hg; have HB := ak_ (Below.refl wq.heap.size wq)) | ((with_reducible refine gate_dst (N := 5) rfl ?_); refine Kd.R_make (Kd.int .u8) _ 5 rfl (N := 5) rfl 35 _ _ rfl 16 rfl rfl underlying35 (.int .u8 0) 1 info5 rfl (by decide) (by omega) 0 (ok := fun _ => True) (okp := fun _ => True) rfl (fun _ hk => hk) trivial (by omega) (by omega) (Below.refl _ _) (Nat.le_refl _) ?_; intro v215 w3 ho4 hb hg_ hnew_; clear hg_ hnew_; (first | rw [← Ny214.out] at ho4 | (simp only [Int.reduceToNat] at ho4; rw [← Ny214.out] at ho4)); have HO216 := ak_ (Kd.R_lower ho4 (bz_ (bl_ HB))); replace HB := ak_ (bt_ (bl_ HB) hb); clear hb ho4; obtain ⟨Ao5, co5, eo5⟩ := Kd.R_slice HO216.out; subst eo5))
   go_loopg [8] k (fun kq v8 wq' => ∃ (x3_1 : List Int) (x8_1 : Int), v8 = .int .i64 x8_1 ∧ Aside0 (mix_Octets.l0 kq [a0_0, a0_1] x3_1 (y214.length : Int) x8_1 = some r) ∧ Aside0 (kq ≤ k) ∧ Aside0 (Kd.R (Kd.int .u8) 5 wq' wq.heap.size (fun _ => True) (.slice Ao5 y214.length co5) x3_1) ∧ Aside0 (Below wq.heap.size wq wq'))
   case atStart => exact ⟨(y214), (0), rf_, H', ⟨Nat.le_refl _⟩, ⟨rl_ HO216⟩, ⟨bl_ HB⟩⟩
   case round =>
    clear H'
    try clear c2
    try clear c2b0
    try clear c2b1
    try clear p2
    obtain ⟨x3_1, x8_1, rfl, HA, HK1, HO_3, HB⟩ := hrel
    have hl3_1 := (Kd.R_reads' HO_3.out).1
    rw [hl3_1] at HO_3
    (try simp only [hl3_1])
    cases gk with
    | zero => exact absurd HA.out (by simp [mix_Octets.l0])
    | succ k1 =>
     have H := HA.out
     clear HA
     simp only [mix_Octets.l0] at H
     by_cases c6 : x8_1 < (y214.length : Int)
     ·rw [if_pos c6] at H
      have c6b0 := decide_eq_true c6
      clear c6
      obtain ⟨ji7, hji7⟩ : ∃ j_ : Int, (wrap64 (Int.tdiv x8_1 8)) = j_ := ⟨_, rfl⟩
      replace H : (if 0 ≤ (ji7) then (if (ji7) < 2 then (if 0 ≤ (wrap64 ((Int.tmod x8_1 8) * 8)) then (if 0 ≤ x8_1 then (if x8_1 < (x3_1.length : Int) then (mix_Octets.l0 k1 [a0_0, a0_1] (x3_1.set (x8_1 : Int).toNat ((shr .u64 (rd [a0_0, a0_1] (ji7)) (wrap64 ((Int.tmod x8_1 8) * 8))) % 256)) (y214.length : Int) (wrap64 (x8_1 + 1))) else (none)) else (none)) else (none)) else (none)) else (none)) = some r := by first | (rw [hji7] at H; exact H) | (simp only [hji7] at H ⊢; exact H)
      have hji7w : (IntKind.i64.wrap (Int.tdiv x8_1 8)) = ji7 := (i64_w _).trans hji7
      by_cases c8 : 0 ≤ (ji7)
      ·rw [if_pos c8] at H
       have c8b0 := decide_eq_true c8
       clear c8
       by_cases c9 : (ji7) < 2
       ·rw [if_pos c9] at H
        have c9b0 := decide_eq_true c9
        clear c9
        obtain ⟨ji10, hji10⟩ : ∃ j_ : Int, (wrap64 ((Int.tmod x8_1 8) * 8)) = j_ := ⟨_, rfl⟩
        replace H : (if 0 ≤ (ji10) then (if 0 ≤ x8_1 then (if x8_1 < (x3_1.length : Int) then (mix_Octets.l0 k1 [a0_0, a0_1] (x3_1.set (x8_1 : Int).toNat ((shr .u64 (rd [a0_0, a0_1] (ji7)) (ji10)) % 256)) (y214.length : Int) (wrap64 (x8_1 + 1))) else (none)) else (none)) else (none)) = some r := by first | (rw [hji10] at H; exact H) | (simp only [hji10] at H ⊢; exact H)
        have hji10w : (IntKind.i64.wrap ((Int.tmod x8_1 8) * 8)) = ji10 := (i64_w _).trans hji10
        by_cases c11 : 0 ≤ (ji10)
        ·rw [if_pos c11] at H
         have c11b0 := eq_true c11
         have c11b1 := decide_eq_true c11
         clear c11
         obtain ⟨ji12, hji12⟩ : ∃ j_ : Int, (shr .u64 (rd [a0_0, a0_1] (ji7)) (ji10)) = j_ := ⟨_, rfl⟩
         replace H : (if 0 ≤ x8_1 then (if x8_1 < (x3_1.length : Int) then (mix_Octets.l0 k1 [a0_0, a0_1] (x3_1.set (x8_1 : Int).toNat ((ji12) % 256)) (y214.length : Int) (wrap64 (x8_1 + 1))) else (none)) else (none)) = some r := by first | (rw [hji12] at H; exact H) | (simp only [hji12] at H ⊢; exact H)
         have hji12_ : ((rd [a0_0, a0_1] (ji7)) / 2 ^ min (ji10).toNat 64) = ji12 := hji12
         have hji12z : (ji10) ≤ 64 → ((rd [a0_0, a0_1] (ji7)) / 2 ^ (ji10).toNat) = ji12 := shr_small hji12
         by_cases c13 : 0 ≤ x8_1
         ·rw [if_pos c13] at H
          have c13b0 := decide_eq_true c13
          clear c13
          by_cases c14 : x8_1 < (x3_1.length : Int)
          ·rw [if_pos c14] at H
           have c14b0 := decide_eq_true c14
           clear c14
           obtain ⟨y218, hy218⟩ : ∃ y_ : List Int, y_ = (x3_1.set (x8_1 : Int).toNat ((ji12) % 256)) := ⟨_, rfl⟩
           replace H : (mix_Octets.l0 k1 [a0_0, a0_1] y218 (y214.length : Int) (wrap64 (x8_1 + 1))) = some r := by first | (rw [hy218]; with_reducible exact H) | (have H2_ := (Option.bind_some _ _).symm.trans H; rw [hy218]; with_reducible exact H2_) | (have H2_ := (Option.bind_some _ _).symm.trans H; with_reducible exact H2_) | with_reducible exact H | (rw [hy218]; exact H) | exact H
           have Ny218 := ak_ hy218
           clear hy218
           have H' := ak_ H
           clear H
           have p217 : 0 ≤ ((ji7) : Int) := od_ (by first | (with_reducible assumption) | assumption)
           have q217 : (ji7) < 2 := od_ (by first | (with_reducible assumption) | assumption)
           obtain ⟨ad217, e217, hx217_0⟩ := Kd.at_int HR0.out (ji7) p217 (show (ji7 : Int) < ((2 : Nat) : Int) from q217)
           cases e217
           replace hx217_0 := (HB.out.cell (World.block_lt_of_cell? wq _ hx217_0)).trans hx217_0
           have hx217_z := hx217_0
           rw [Addr.add_lit, Nat.zero_add] at hx217_z
           replace p217 := eq_true p217
           replace q217 := eq_true q217
           have p15 : 0 ≤ (x8_1 : Int) := od_ (by first | (with_reducible assumption) | assumption)
           have q15 : (x8_1 : Int) < ((x3_1.length : Int) : Int) := od_ (by first | (with_reducible assumption) | assumption)
           obtain ⟨go15, co15, eo15, gb15, gl15, cl15, HG15⟩ := Kd.R_form HO_3.out (by omega)
           (first | cases eo15 | (injection eo15 with ea_ en_ ec_; (first | subst ea_ | (injection ea_ with ea_; subst ea_)); subst ec_; clear en_))
           have GB15 := ak_ gb15
           have GG15 := ak_ HG15
           clear gb15 gl15 HG15
           obtain ⟨hx15_0, hf15_0⟩ := Kd.R_celln 0 HO_3.out (x8_1 : Int) p15 q15
           replace p15 := eq_true p15
           replace q15 := eq_true q15
           have HP16 := Kd.R_putg HO_3.out (x8_1 : Int) ((ji12) % 256)
           go_wp2_with (first | ((with_reducible refine gate_store (t := 5) (p := 22) rfl ?_); refine store_event (t := 5) (p := 22) (v := ?vo_w17) (w1 := (wr.setCell ⟨go15, (x8_1 : Int).toNat, none⟩ (.int .u8 ((ji12) % 256)))) ?hg ?ho ?hn ?hr ?_; (case ho => rfl); (case hg => rfl); (case hn => rfl); (case hr => first | (go_simp; done) | (go_simp; rfl)); intro w17 hw; have hg : wr.grownBy w17 (some go15) := (by rw [hw]; exact HP16.2); have hp_ : Kd.R (Kd.int .u8) 5 w17 wq.heap.size (fun _ => True) (.slice (some ⟨go15, 0, none⟩) x3_1.length co5) y218 := (by rw [hw, Ny218.out]; exact HP16.1); clear HP16; replace HO_3 := ak_ hp_; replace HB := ak_ (by rw [hw]; exact below_set (HB.out) GB15.out : Below wq.heap.size wq w17); clear hg hw hp_))
           (try simp only [← hl3_1])
           go_roundg k1
           case measure => have := HK1.out; omega
           case rel => exact ⟨(y218), (wrap64 (x8_1 + 1)), rf_, H', ⟨by have := HK1.out; omega⟩, ⟨by (try simp only [hl3_1]); (with_reducible repeat (first | apply Kd.R_alloc | apply Kd.R_drewN | apply Kd.R_drew)); exact HO_3.out⟩, ⟨bl_ HB⟩⟩
          ·rw [if_neg c14] at H
           exact absurd H (by simp)
         ·rw [if_neg c13] at H
          exact absurd H (by simp)
        ·rw [if_neg c11] at H
         exact absurd H (by simp)
       ·rw [if_neg c9] at H
        exact absurd H (by simp)
      ·rw [if_neg c8] at H
       exact absurd H (by simp)
     ·rw [if_neg c6] at H
      have c6b0 := decide_eq_false c6
      rw [hl3_1] at c6b0
      clear c6
      obtain rfl := Option.some.inj H
      go_wp2
      go_ret
      exact ⟨_, by first | rfl | (simp [*]; done), Kd.R_lower (rl_ HO_3) BX.out.size, bt_ BX.out (bl_ HB)⟩
  ·rw [if_neg c2] at H
   exact absurd H (by simp)
mutual
def image_Store.j0 : Nat → Int → Int → Int → List (S65) → Bool → Option (List Int × Int)
  | 0, _, _, _, _, _ => none
  | k + 1, x0, x1, x2, x3, x24 => if x24 = true then (some (([] : List Int), 1)) else ((image_put.f k (([1, (x1) % 256, (x0) % 256] : List Int)) x2 8).bind fun t224 => (image_Store.l0 k t224 x3 (x3.length : Int) 0))
def image_Store.l0 : Nat → List Int → List (S65) → Int → Int → Option (List Int × Int)
  | 0, _, _, _, _ => none
  | k + 1, x11, x32, x33, x34 => if x34 < x33 then (if 0 ≤ x34 then (if x34 < (x32.length : Int) then ((mix_Octets.f k ((rd_T65 x32 x34).f1.f2.f0) ((rd_T65 x32 x34).f1.f2.f1)).bind fun t229 => (if x11.length + t229.length < 140737488355328 then (image_Store.l0 k (x11 ++ t229) x32 x33 (wrap64 (x34 + 1))) else (none))) else (none)) else (none)) else (some (x11, 0))
end
def image_Store.f (k : Nat) (a0 : Int) (a1 : Int) (a2 : Int) (l3 : List (S65)) : Option (List Int × Int) := (store_Check.f k ([] : List (S75)) a0 a1 a2 l3).bind fun t219 => (if t219 = 0 then ((api_Entry_74.f l3).bind fun t220 => (image_Store.j0 k a0 a1 a2 l3 t220)) else (image_Store.j0 k a0 a1 a2 l3 true))
theorem image_Store.mono_l : ∀ k, (∀ y0 y1 y2 y3 y4, LeO (image_Store.j0 k y0 y1 y2 y3 y4) (image_Store.j0 (k + 1) y0 y1 y2 y3 y4)) ∧ (∀ y0 y1 y2 y3, LeO (image_Store.l0 k y0 y1 y2 y3) (image_Store.l0 (k + 1) y0 y1 y2 y3))
  | 0 => ⟨fun _ _ _ _ _ r h => by simp [image_Store.j0] at h, fun _ _ _ _ r h => by simp [image_Store.l0] at h⟩
  | k + 1 => by
   obtain ⟨ih0, ih1⟩ := image_Store.mono_l k
   refine ⟨?_, ?_⟩
   all_goals intros
   all_goals first | unfold image_Store.j0 | unfold image_Store.l0
   all_goals repeat' first | (with_reducible first | exact ih0 .. | exact ih1 .. | exact image_put.mono .. | exact mix_Octets.mono .. | exact store_Check.mono .. | exact LeO.refl _ | exact LeO.none _ | refine LeO.ite ?_ ?_ | refine LeO.bind ?_ (fun _ => ?_)) | exact ih0 .. | exact ih1 .. | exact image_put.mono .. | exact mix_Octets.mono .. | exact store_Check.mono .. | refine LeO.ite ?_ ?_ | refine LeO.bind ?_ (fun _ => ?_)
theorem image_Store.mono : ∀ a0 a1 a2 a3 k, LeO (image_Store.f k a0 a1 a2 a3) (image_Store.f (k + 1) a0 a1 a2 a3) := by
  intro a0 a1 a2 a3 k
  obtain ⟨ih0, ih1⟩ := image_Store.mono_l k
  unfold image_Store.f
  repeat' first | (with_reducible first | exact ih0 .. | exact ih1 .. | exact image_put.mono .. | exact mix_Octets.mono .. | exact store_Check.mono .. | exact LeO.refl _ | exact LeO.none _ | refine LeO.ite ?_ ?_ | refine LeO.bind ?_ (fun _ => ?_)) | exact ih0 .. | exact ih1 .. | exact image_put.mono .. | exact mix_Octets.mono .. | exact store_Check.mono .. | refine LeO.ite ?_ ?_ | refine LeO.bind ?_ (fun _ => ?_)
set_option maxHeartbeats 8000000 in
set_option maxRecDepth 100000 in
theorem image_Store.calls (k : Nat) (a0 : Int) (a1 : Int) (a2 : Int) (A3 : Option Addr) (c3 : Nat) (l3 : List (S65)) (r1 : List Int) (r2 : Int) (w : World) (hr3 : Kd.C k65 w A3 l3.length l3) (hc3 : l3.length ≤ c3) (h : image_Store.f k a0 a1 a2 l3 = some (r1, r2)) :
   Calls Try.prog 33 #[.int .i64 a0, .int .i64 a1, .int .u64 a2, .slice A3 l3.length c3] w fun e w' => ∃ v0_ : Value, e = .returned (.tuple #[v0_, .int .i64 r2]) ∧ Kd.R (Kd.int .u8) 5 w' w.heap.size (fun _ => True) v0_ r1 ∧ Below w.heap.size w w' := by
  have hu65 := underlying65
  have hu25 := underlying25
  have HR3 := ak_ hr3
  have HC3 := ak_ hc3
  clear hr3 hc3
  have HB := ak_ (Below.refl w.heap.size w)
  have H : ((store_Check.f k ([] : List (S75)) a0 a1 a2 l3).bind fun t219 => (if t219 = 0 then ((api_Entry_74.f l3).bind fun t220 => (image_Store.j0 k a0 a1 a2 l3 t220)) else (image_Store.j0 k a0 a1 a2 l3 true))) = some (r1, r2) := h
  clear h
  have HC5 := ak_ H
  clear H
  go_enter func33, ntmps33
  go_upto_region 2 with (fail)
  go_cut [24] (fun v24 wc => ∃ (kq : Nat) (x24_4 : Bool), v24 = .bool x24_4 ∧ Aside0 (image_Store.j0 kq a0 a1 a2 l3 x24_4 = some (r1, r2)) ∧ Aside0 (kq ≤ k) ∧ Aside0 (Below w.heap.size w wc))
  case first =>
   have H := HC5.out
   clear HC5
   replace H := bind_eq_some_iff.mp H
   obtain ⟨t219, A60, H⟩ := H
   replace H : (if t219 = 0 then ((api_Entry_74.f l3).bind fun t220 => (image_Store.j0 k a0 a1 a2 l3 t220)) else (image_Store.j0 k a0 a1 a2 l3 true)) = some (r1, r2) := H
   have A6 := ak_ A60
   clear A60
   by_cases c7 : t219 = 0
   ·rw [if_pos c7] at H
    have c7b0 : (t219 == 0) = true := beq_iff_eq.mpr c7
    have c7b1 : (t219 != 0) = false := bne_eq_false_iff_eq.mpr c7
    clear c7
    (first | rw [c7b0] | (simp only [i64_w, i32_w]; rw [c7b0]) | skip)
    replace H := bind_eq_some_iff.mp H
    obtain ⟨t220, A80, H⟩ := H
    replace H : (image_Store.j0 k a0 a1 a2 l3 t220) = some (r1, r2) := H
    have A8 := ak_ A80
    clear A80
    have H' := ak_ H
    clear H
    go_wp2_with (first | ((with_reducible refine gate_callee (f := 42) rfl ?_); refine gl_ (some 18) func42 #[.slice none 0 0, .int .i64 a0, .int .i64 a1, .int .u64 a2, .slice A3 l3.length c3] ?_; (refine (store_Check.calls k _ _ ([] : List (S75)) a0 a1 a2 _ _ l3 t219 _ ?side1 ?side2 ?side3 ?side4 A6.out).mono ?_); (case side1 => exact Kd.C_nil _ _); (case side2 => exact Nat.le_refl _); (case side3 => repeat (first | exact (Kd.C_below HR3.out HB.out) | (with_reducible refine Kd.C_alloc ?_ _) | (with_reducible refine Kd.C_drewN ?_ _) | (with_reducible refine Kd.C_drew ?_))); (case side4 => exact HC3.out); rintro e w9 ⟨rfl, hb⟩; refine ⟨_, rfl, ?_⟩; replace HB := ak_ (bt_ (bl_ HB) hb); (try clear hb); (try clear hk)) | (go_at_call 74; (with_reducible refine (api_Entry_74.calls _ _ l3 t220 _ ?side1 ?side2 A8.out).mono ?_); (case side1 => repeat (first | exact (Kd.C_below HR3.out HB.out) | (with_reducible refine Kd.C_alloc ?_ _) | (with_reducible refine Kd.C_drewN ?_ _) | (with_reducible refine Kd.C_drew ?_))); (case side2 => exact HC3.out); rintro e w10 ⟨rfl, hb⟩; replace HB := ak_ (bt_ (bl_ HB) hb); (try clear hb); (try clear hk)))
    go_meet
    case rel => exact ⟨_, (t220), rf_, H', ⟨by first | omega | exact Nat.le_refl _⟩, ⟨bl_ HB⟩⟩
   ·rw [if_neg c7] at H
    have c7b0 : (t219 == 0) = false := beq_eq_false_iff_ne.mpr c7
    have c7b1 : (t219 != 0) = true := bne_iff_ne.mpr c7
    (first | rw [c7b0] | (simp only [i64_w, i32_w]; rw [c7b0]) | skip)
    have H' := ak_ H
    clear H
    go_wp2_with (first | ((with_reducible refine gate_callee (f := 42) rfl ?_); refine gl_ (some 18) func42 #[.slice none 0 0, .int .i64 a0, .int .i64 a1, .int .u64 a2, .slice A3 l3.length c3] ?_; (refine (store_Check.calls k _ _ ([] : List (S75)) a0 a1 a2 _ _ l3 t219 _ ?side1 ?side2 ?side3 ?side4 A6.out).mono ?_); (case side1 => exact Kd.C_nil _ _); (case side2 => exact Nat.le_refl _); (case side3 => repeat (first | exact (Kd.C_below HR3.out HB.out) | (with_reducible refine Kd.C_alloc ?_ _) | (with_reducible refine Kd.C_drewN ?_ _) | (with_reducible refine Kd.C_drew ?_))); (case side4 => exact HC3.out); rintro e w11 ⟨rfl, hb⟩; refine ⟨_, rfl, ?_⟩; replace HB := ak_ (bt_ (bl_ HB) hb); (try clear hb); (try clear hk)))
    go_meet
    case rel => exact ⟨_, (true), rf_, H', ⟨by first | omega | exact Nat.le_refl _⟩, ⟨bl_ HB⟩⟩
  case rest =>
   clear HC5
   try clear p2
   try clear c3
   try clear c4
   try clear c7
   try clear c7b0
   try clear c7b1
   obtain ⟨kq, x24_4, rfl, HA, HJ4, HB⟩ := hcut
   cases kq with
   | zero => exact absurd HA.out (by simp [image_Store.j0])
   | succ kj4 =>
    have H := HA.out
    clear HA
    simp only [image_Store.j0] at H
    by_cases c12 : x24_4 = true
    ·subst c12
     have H1 : (some (([] : List Int), 1)) = some (r1, r2) := by rw [if_pos rfl] at H; exact H
     clear H
     have H := H1
     clear H1
     simp only [some.injEq, Prod.mk.injEq] at H
     obtain ⟨rfl, rfl⟩ := H
     go_wp2
     go_ret2
     exact ⟨_, by first | rfl | (simp <;> rfl) | (simp [*] <;> rfl), by first | exact Kd.R_nil _ _ _ _ _ | exact Kd.N_nil _ _ _ _ _ | exact Kd.V_nil _ _ _ _ _ | exact Kd.Q_nil _ _ _ _ _ | exact Kd.S_nil _ _ _ _ _, bl_ HB⟩
    ·replace c12 := Bool.eq_false_iff.mpr c12
     subst c12
     have H1 : ((image_put.f kj4 (([1, (a1) % 256, (a0) % 256] : List Int)) a2 8).bind fun t224 => (image_Store.l0 kj4 t224 l3 (l3.length : Int) 0)) = some (r1, r2) := by rw [if_neg (show ¬ (false = true) by decide)] at H; exact H
     clear H
     have H := H1
     clear H1
     obtain ⟨y221, hy221⟩ : ∃ y_ : List Int, y_ = (([1, (a1) % 256, (a0) % 256] : List Int)) := ⟨_, rfl⟩
     replace H : ((image_put.f kj4 y221 a2 8).bind fun t224 => (image_Store.l0 kj4 t224 l3 (l3.length : Int) 0)) = some (r1, r2) := by first | (rw [hy221]; with_reducible exact H) | (have H2_ := (Option.bind_some _ _).symm.trans H; rw [hy221]; with_reducible exact H2_) | (have H2_ := (Option.bind_some _ _).symm.trans H; with_reducible exact H2_) | with_reducible exact H | (rw [hy221]; exact H) | exact H
     have Ny221 := ak_ hy221
     clear hy221
     replace H := bind_eq_some_iff.mp H
     obtain ⟨t224, A130, H⟩ := H
     replace H : (image_Store.l0 kj4 t224 l3 (l3.length : Int) 0) = some (r1, r2) := H
     have A13 := ak_ A130
     clear A130
     have H' := ak_ H
     clear H
     go_wp2_with (first | ((with_reducible refine gate_dst (N := 29) rfl ?_); refine Kd.R_lit (Kd.int .u8) _ 5 ?hg (N := 29) ?hd (xs := ([1, (a1) % 256, (a0) % 256] : List Int)) (inner := [.int .u8 1, .int .u8 ((a1) % 256), .int .u8 ((a0) % 256)]) (ok := fun _ => True) (okp := fun _ => True) ?hr ?hp (fun _ hk => hk) trivial (Below.refl _ _) (Nat.le_refl _) (by simp) ?_; (case hd => rfl); (case hg => rfl); (case hr => first | (go_simp; done) | (go_simp; rfl)); (case hp => exact (Reps.one (show Kd.M (Kd.int .u8) _ _ _ 1 [.int .u8 1] from rfl) (Reps.one (show Kd.M (Kd.int .u8) _ _ _ ((a1) % 256) [.int .u8 ((a1) % 256)] from rfl) (Reps.one (show Kd.M (Kd.int .u8) _ _ _ ((a0) % 256) [.int .u8 ((a0) % 256)] from rfl) (Reps.none _ _))))); intro v222 w14 ho15 hb hg_ hnew_; clear hg_ hnew_; (first | rw [← Ny221.out] at ho15 | (simp only [Int.reduceToNat] at ho15; rw [← Ny221.out] at ho15)); have HO223 := ak_ (Kd.R_lower ho15 (bz_ (bl_ HB))); replace HB := ak_ (bt_ (bl_ HB) hb); clear hb ho15; obtain ⟨Ao16, co16, eo16⟩ := Kd.R_slice HO223.out; subst eo16) | ((with_reducible refine gate_callee (f := 66) rfl ?_); refine goesL_ (some 31) rfl rfl func66 (by kernel_rfl) rfl #[.slice Ao16 y221.length co16, .int .u64 a2, .int .i64 8] rfl (by (try simp only [map_toArray, map_cons, map_nil]); first | done | rfl | (simp only [length_drop, length_take]; rfl)) ?_; (with_reducible refine (image_put.calls kj4 (fun k_ => some k_ = (.slice Ao16 y221.length co16 : Value).ownBlock) (.slice Ao16 y221.length co16) y221 a2 8 t224 w _ ?side1 ?side2 A13.out).mono ?_); (case side1 => repeat (first | (with_reducible first | exact HB.out | apply ba_ | apply bn_ | apply bd_) | exact HB.out)); (case side2 => exact Kd.R_tight rfl HO223.out); rintro e w17 ⟨v225, rfl, ho0, hb, hkp⟩; refine ⟨_, rfl, ?_⟩; have HO226 := ak_ (Kd.R_mono (ok' := fun k_ => True) ho0 (fun k_ hk_ => trivial)); replace HB := ak_ hb; clear HO223; (try clear hb); (try clear hkp); (try clear ho0)))
     go_loopg [11, 34] kj4 (fun kq v11 v34 w' => ∃ (x11_2 : List Int) (x34_2 : Int), v34 = .int .i64 x34_2 ∧ Aside0 (image_Store.l0 kq x11_2 l3 (l3.length : Int) x34_2 = some (r1, r2)) ∧ Aside0 (kq ≤ kj4) ∧ Aside0 (Kd.R (Kd.int .u8) 5 w' w.heap.size (fun _ => True) v11 x11_2) ∧ Aside0 (Below w.heap.size w w'))
     case atStart => exact ⟨(t224), (0), rf_, H', ⟨Nat.le_refl _⟩, ⟨rl_ HO226⟩, ⟨bl_ HB⟩⟩
     case round =>
      clear H'
      try clear c1
      try clear p2
      try clear c3
      try clear c4
      try clear c6
      try clear c7
      try clear c7b0
      try clear c7b1
      try clear c12
      try clear p2
      obtain ⟨x11_2, x34_2, rfl, HA, HK2, HO_11, HB⟩ := hrel
      cases gk with
      | zero => exact absurd HA.out (by simp [image_Store.l0])
      | succ k2 =>
       have H := HA.out
       clear HA
       simp only [image_Store.l0] at H
       by_cases c18 : x34_2 < (l3.length : Int)
       ·rw [if_pos c18] at H
        have c18b0 := decide_eq_true c18
        clear c18
        by_cases c19 : 0 ≤ x34_2
        ·rw [if_pos c19] at H
         have c19b0 := decide_eq_true c19
         clear c19
         by_cases c20 : x34_2 < (l3.length : Int)
         ·rw [if_pos c20] at H
          have c20b0 := decide_eq_true c20
          clear c20
          replace H := bind_eq_some_iff.mp H
          obtain ⟨t229, A210, H⟩ := H
          replace H : (if x11_2.length + t229.length < 140737488355328 then (image_Store.l0 k2 (x11_2 ++ t229) l3 (l3.length : Int) (wrap64 (x34_2 + 1))) else (none)) = some (r1, r2) := H
          have A21 := ak_ A210
          clear A210
          by_cases c22 : x11_2.length + t229.length < 140737488355328
          ·rw [if_pos c22] at H
           have LMc22 := ak_ c22
           clear c22
           obtain ⟨y232, hy232⟩ : ∃ y_ : List Int, y_ = (x11_2 ++ t229) := ⟨_, rfl⟩
           replace H : (image_Store.l0 k2 y232 l3 (l3.length : Int) (wrap64 (x34_2 + 1))) = some (r1, r2) := by first | (rw [hy232]; with_reducible exact H) | (have H2_ := (Option.bind_some _ _).symm.trans H; rw [hy232]; with_reducible exact H2_) | (have H2_ := (Option.bind_some _ _).symm.trans H; with_reducible exact H2_) | with_reducible exact H | (rw [hy232]; exact H) | exact H
           have Ny232 := ak_ hy232
           clear hy232
           have H' := ak_ H
           clear H
           have p227 : 0 ≤ (x34_2 : Int) := od_ (by first | (with_reducible assumption) | assumption)
           have q227 : x34_2 < (l3.length : Int) := od_ (by first | (with_reducible assumption) | assumption)
           obtain ⟨ad227, e227, hx227_0, hx227_1, hx227_2, hx227_3, hx227_4, hx227_5, hx227_6, hx227_7, hx227_8, hx227_9, hx227_10⟩ := at_T65 HR3.out x34_2 p227 q227
           cases e227
           replace hx227_0 := cx_ HB hx227_0
           replace hx227_1 := cx_ HB hx227_1
           replace hx227_2 := cx_ HB hx227_2
           replace hx227_3 := cx_ HB hx227_3
           replace hx227_4 := cx_ HB hx227_4
           replace hx227_5 := cx_ HB hx227_5
           replace hx227_6 := cx_ HB hx227_6
           replace hx227_7 := cx_ HB hx227_7
           replace hx227_8 := cx_ HB hx227_8
           replace hx227_9 := cx_ HB hx227_9
           replace hx227_10 := cx_ HB hx227_10
           replace p227 := eq_true p227
           replace q227 := eq_true q227
           go_wp2_with (first | ((with_reducible refine gate_dst (N := 13) rfl ?_); refine bx_ 13 #[.int .u64 0, .int .u64 0, .bool false, .bool false, .int .u64 0, .int .u64 0, .int .u64 0, .int .u64 0, .int .u64 0, .int .u64 0, .int .i64 0] 65 ?_; intro gb228 hg w23 hbox hb; replace HO_11 := ak_ (Kd.R_below (rl_ HO_11) hb); have BK228 := ak_ hbox; have GW228 := ak_ (gs_ hg HB); have GE228 := ak_ (gs_ hg HB); replace HB := ak_ (bt_ (bl_ HB) hb); clear hb hbox hg; obtain ⟨hcz24_0, hcz24_1, hcz24_2, hcz24_3, hcz24_4, hcz24_5, hcz24_6, hcz24_7, hcz24_8, hcz24_9, hcz24_10, hfz24_0, hfz24_1, hfz24_2, hfz24_3, hfz24_4, hfz24_5, hfz24_6, hfz24_7, hfz24_8, hfz24_9, hfz24_10⟩ := kc11_ BK228.out) | ((with_reducible refine gate_callee (f := 75) rfl ?_); refine gl_ (some 42) func75 #[.agg #[.int .u64 ((rd_T65 l3 x34_2).f1.f2.f0), .int .u64 ((rd_T65 l3 x34_2).f1.f2.f1)]] ?_; (with_reducible refine (mix_Octets.calls k2 ((rd_T65 l3 x34_2).f1.f2.f0) ((rd_T65 l3 x34_2).f1.f2.f1) t229 _ A21.out).mono ?_); rintro e w25 ⟨v230, rfl, ho0, hb⟩; refine ⟨_, rfl, ?_⟩; have HO231 := ak_ (Kd.R_lower (Kd.R_new' ho0 (Kd.R_lt (by (with_reducible repeat (first | apply Kd.R_alloc | apply Kd.R_drewN | apply Kd.R_drew)); exact (Kd.R_mono (Kd.R_far (p := ⟨gb228, 10, none⟩) (Kd.R_far (p := ⟨gb228, 9, none⟩) (Kd.R_far (p := ⟨gb228, 8, none⟩) (Kd.R_far (p := ⟨gb228, 7, none⟩) (Kd.R_far (p := ⟨gb228, 6, none⟩) (Kd.R_far (p := ⟨gb228, 5, none⟩) (Kd.R_far (p := ⟨gb228, 4, none⟩) (Kd.R_far (p := ⟨gb228, 3, none⟩) (Kd.R_far (p := ⟨gb228, 2, none⟩) (Kd.R_far (p := ⟨gb228, 1, none⟩) (Kd.R_far (p := ⟨gb228, 0, none⟩) (Kd.R_types HO_11.out BK228.out (by decide)) (fun _ hk => hk.2) (.int .u64 ((rd_T65 l3 x34_2).f0.f0))) (fun _ hk => hk.2) (.int .u64 ((rd_T65 l3 x34_2).f0.f1))) (fun _ hk => hk.2) (.bool ((rd_T65 l3 x34_2).f1.f0))) (fun _ hk => hk.2) (.bool ((rd_T65 l3 x34_2).f1.f1))) (fun _ hk => hk.2) (.int .u64 ((rd_T65 l3 x34_2).f1.f2.f0))) (fun _ hk => hk.2) (.int .u64 ((rd_T65 l3 x34_2).f1.f2.f1))) (fun _ hk => hk.2) (.int .u64 ((rd_T65 l3 x34_2).f1.f3.f0.f0))) (fun _ hk => hk.2) (.int .u64 ((rd_T65 l3 x34_2).f1.f3.f0.f1))) (fun _ hk => hk.2) (.int .u64 ((rd_T65 l3 x34_2).f1.f3.f1.f0))) (fun _ hk => hk.2) (.int .u64 ((rd_T65 l3 x34_2).f1.f3.f1.f1))) (fun _ hk => hk.2) (.int .i64 ((rd_T65 l3 x34_2).f1.f4))) (fun _ h_ => h_.1))))) (bz_ (bw1_ HB GE228))); replace HO_11 := ak_ (Kd.R_elder' (by (with_reducible repeat (first | apply Kd.R_alloc | apply Kd.R_drewN | apply Kd.R_drew)); exact (Kd.R_mono (Kd.R_far (p := ⟨gb228, 10, none⟩) (Kd.R_far (p := ⟨gb228, 9, none⟩) (Kd.R_far (p := ⟨gb228, 8, none⟩) (Kd.R_far (p := ⟨gb228, 7, none⟩) (Kd.R_far (p := ⟨gb228, 6, none⟩) (Kd.R_far (p := ⟨gb228, 5, none⟩) (Kd.R_far (p := ⟨gb228, 4, none⟩) (Kd.R_far (p := ⟨gb228, 3, none⟩) (Kd.R_far (p := ⟨gb228, 2, none⟩) (Kd.R_far (p := ⟨gb228, 1, none⟩) (Kd.R_far (p := ⟨gb228, 0, none⟩) (Kd.R_types HO_11.out BK228.out (by decide)) (fun _ hk => hk.2) (.int .u64 ((rd_T65 l3 x34_2).f0.f0))) (fun _ hk => hk.2) (.int .u64 ((rd_T65 l3 x34_2).f0.f1))) (fun _ hk => hk.2) (.bool ((rd_T65 l3 x34_2).f1.f0))) (fun _ hk => hk.2) (.bool ((rd_T65 l3 x34_2).f1.f1))) (fun _ hk => hk.2) (.int .u64 ((rd_T65 l3 x34_2).f1.f2.f0))) (fun _ hk => hk.2) (.int .u64 ((rd_T65 l3 x34_2).f1.f2.f1))) (fun _ hk => hk.2) (.int .u64 ((rd_T65 l3 x34_2).f1.f3.f0.f0))) (fun _ hk => hk.2) (.int .u64 ((rd_T65 l3 x34_2).f1.f3.f0.f1))) (fun _ hk => hk.2) (.int .u64 ((rd_T65 l3 x34_2).f1.f3.f1.f0))) (fun _ hk => hk.2) (.int .u64 ((rd_T65 l3 x34_2).f1.f3.f1.f1))) (fun _ hk => hk.2) (.int .i64 ((rd_T65 l3 x34_2).f1.f4))) (fun _ h_ => h_.1))) (Kd.R_base ho0) hb); replace BK228 := ak_ (kb_ (g := gb228) (o := .cells #[.int .u64 ((rd_T65 l3 x34_2).f0.f0), .int .u64 ((rd_T65 l3 x34_2).f0.f1), .bool ((rd_T65 l3 x34_2).f1.f0), .bool ((rd_T65 l3 x34_2).f1.f1), .int .u64 ((rd_T65 l3 x34_2).f1.f2.f0), .int .u64 ((rd_T65 l3 x34_2).f1.f2.f1), .int .u64 ((rd_T65 l3 x34_2).f1.f3.f0.f0), .int .u64 ((rd_T65 l3 x34_2).f1.f3.f0.f1), .int .u64 ((rd_T65 l3 x34_2).f1.f3.f1.f0), .int .u64 ((rd_T65 l3 x34_2).f1.f3.f1.f1), .int .i64 ((rd_T65 l3 x34_2).f1.f4)] 65 (0, 0)) (by (with_reducible repeat (first | refine kn_ ?_ _ | refine kd_ ?_ | refine ka_ ?_ _)); exact sC_blk BK228.out rfl rfl) hb); replace HB := ak_ (bt_ (bw1_ HB GE228) hb); (try clear hb); (try clear hk); (try clear ho0); obtain ⟨Ao27, co27, eo27⟩ := Kd.R_slice HO231.out; subst eo27) | ((with_reducible refine gate_builtin (b := .append) (xs := #[.tmp 38, .tmp 42]) rfl ?_); at_builtin; refine Kd.R_append_rows (Kd.int .u8) (w0 := w) w.heap.size rfl (.tmp 38) (.tmp 42) 35 5 (.int .u8 0) 1 rfl underlying35 info5 rfl (by decide) (by omega) u11 x11_2 t229 _ _ _ (fun k_ => some k_ ≠ (.slice Ao27 t229.length co27 : Value).ownBlock) (fun _ => False) rfl rfl ?aO ?aR (fun _ _ h => h) (fun _ h => h.elim) ?aF ?aB ?aS ?aL ?_; (case aR => repeat (first | exact (Kd.R_reads' HO231.out).2.2 | (with_reducible refine Kd.C_alloc ?_ _) | (with_reducible refine Kd.C_drewN ?_ _) | (with_reducible refine Kd.C_drew ?_))); (case aB => exact (bw1_ HB GE228)); (case aF => exact (fun k_ hk => Kd.fresh' (Kd.R_lt (rl_ HO231)) k_ hk)); (case aO => exact (by (with_reducible repeat (first | apply Kd.R_alloc | apply Kd.R_drewN | apply Kd.R_drew)); exact Kd.R_mono HO_11.out (fun _ hk => hk.2))); (case aS => exact (bz_ (bw1_ HB GE228))); (case aL => have := LMc22.out; omega); intro v233 w26 ho hb hg hat; rw [← Ny232.out] at ho; replace BK228 := ak_ (blk_grown (g := gb228) (o := .cells #[.int .u64 ((rd_T65 l3 x34_2).f0.f0), .int .u64 ((rd_T65 l3 x34_2).f0.f1), .bool ((rd_T65 l3 x34_2).f1.f0), .bool ((rd_T65 l3 x34_2).f1.f1), .int .u64 ((rd_T65 l3 x34_2).f1.f2.f0), .int .u64 ((rd_T65 l3 x34_2).f1.f2.f1), .int .u64 ((rd_T65 l3 x34_2).f1.f3.f0.f0), .int .u64 ((rd_T65 l3 x34_2).f1.f3.f0.f1), .int .u64 ((rd_T65 l3 x34_2).f1.f3.f1.f0), .int .u64 ((rd_T65 l3 x34_2).f1.f3.f1.f1), .int .i64 ((rd_T65 l3 x34_2).f1.f4)] 65 (0, 0)) (kl_ BK228) hg (Kd.R_ne HO_11.out BK228.out (by decide))); replace HO231 := ak_ (Kd.R_after (ok := (fun _ => True)) (rl_ HO231) hg hat); replace HB := ak_ hb; have HO234 := ak_ ho; clear HO_11; clear ho hb hg hat))
           go_roundg k2
           case measure => have := HJ4.out; have := HK2.out; omega
           case rel => exact ⟨(y232), (wrap64 (x34_2 + 1)), rf_, H', ⟨by have := HJ4.out; have := HK2.out; omega⟩, ⟨by (with_reducible repeat (first | apply Kd.R_alloc | apply Kd.R_drewN | apply Kd.R_drew)); exact Kd.R_mono HO234.out (fun _ hk => trivial)⟩, ⟨bw1_ HB GE228⟩⟩
          ·rw [if_neg c22] at H
           exact absurd H (by simp)
         ·rw [if_neg c20] at H
          exact absurd H (by simp)
        ·rw [if_neg c19] at H
         exact absurd H (by simp)
       ·rw [if_neg c18] at H
        have c18b0 := decide_eq_false c18
        clear c18
        simp only [some.injEq, Prod.mk.injEq] at H
        obtain ⟨rfl, rfl⟩ := H
        go_wp2
        go_ret2
        exact ⟨_, by first | rfl | (simp <;> rfl) | (simp [*] <;> rfl), by (with_reducible repeat (first | apply Kd.R_alloc | apply Kd.R_drewN | apply Kd.R_drew)); exact HO_11.out, bl_ HB⟩
def image_number.l0 : Nat → Int → List Int → Int → Int → Option (Int)
  | 0, _, _, _, _ => none
  | k + 1, x2, x5, x6, x7 => if x7 < x6 then (if 0 ≤ x7 then (if x7 < (x5.length : Int) then (if 0 ≤ (wrap64 (8 * x7)) then (image_number.l0 k (Go.bits .or .u64 x2 (shl .u64 (IntKind.u64.wrap (rd x5 x7)) (wrap64 (8 * x7)))) x5 x6 (wrap64 (x7 + 1))) else (none)) else (none)) else (none)) else (some x2)
def image_number.f (k : Nat) (l0 : List Int) : Option (Int) := image_number.l0 k 0 l0 (l0.length : Int) 0
theorem image_number.mono_l : ∀ k, (∀ y0 y1 y2 y3, LeO (image_number.l0 k y0 y1 y2 y3) (image_number.l0 (k + 1) y0 y1 y2 y3))
  | 0 => fun _ _ _ _ r h => by simp [image_number.l0] at h
  | k + 1 => by
   have ih0 := image_number.mono_l k
   ·intro y0 y1 y2 y3
    unfold image_number.l0
    repeat' first | (with_reducible first | exact ih0 .. | exact LeO.refl _ | exact LeO.none _ | refine LeO.ite ?_ ?_ | refine LeO.bind ?_ (fun _ => ?_)) | exact ih0 .. | refine LeO.ite ?_ ?_ | refine LeO.bind ?_ (fun _ => ?_)
theorem image_number.mono : ∀ a0 k, LeO (image_number.f k a0) (image_number.f (k + 1) a0) := by
  intro a0 k
  have ih0 := image_number.mono_l k
  unfold image_number.f
  repeat' first | (with_reducible first | exact ih0 .. | exact LeO.refl _ | exact LeO.none _ | refine LeO.ite ?_ ?_ | refine LeO.bind ?_ (fun _ => ?_)) | exact ih0 .. | refine LeO.ite ?_ ?_ | refine LeO.bind ?_ (fun _ => ?_)
set_option maxHeartbeats 8000000 in
set_option maxRecDepth 100000 in
theorem image_number.calls (k : Nat) (A0 : Option Addr) (c0 : Nat) (l0 : List Int) (r : Int) (w : World) (hr0 : Kd.C (Kd.int .u8) w A0 l0.length l0) (hc0 : l0.length ≤ c0) (h : image_number.f k l0 = some r) :
   Calls Try.prog 70 #[.slice A0 l0.length c0] w fun e w' => e = .returned (.int .u64 r) ∧ Drawn0 w w' := by
  have HR0 := ak_ hr0
  have HC0 := ak_ hc0
  clear hr0 hc0
  have H : (image_number.l0 k 0 l0 (l0.length : Int) 0) = some r := h
  clear h
  have H' := ak_ H
  clear H
  go_enter func70, ntmps70
  go_wp2
  go_loopg [2, 7] k (fun kq v2 v7 w' => ∃ (x2_1 : Int) (x7_1 : Int), v2 = .int .u64 x2_1 ∧ v7 = .int .i64 x7_1 ∧ Aside0 (image_number.l0 kq x2_1 l0 (l0.length : Int) x7_1 = some r) ∧ Aside0 (kq ≤ k) ∧ Drawn0 w w')
  case atStart => exact ⟨(0), (0), rf_, rf_, H', ⟨Nat.le_refl _⟩, by repeat (first | exact Drawn0.refl _ | apply Drawn0.step)⟩
  case round =>
   clear H'
   obtain ⟨x2_1, x7_1, rfl, rfl, HA, HK1, ⟨m1, rfl⟩⟩ := hrel
   cases gk with
   | zero => exact absurd HA.out (by simp [image_number.l0])
   | succ k1 =>
    have H := HA.out
    clear HA
    simp only [image_number.l0] at H
    by_cases c2 : x7_1 < (l0.length : Int)
    ·rw [if_pos c2] at H
     have c2b0 := decide_eq_true c2
     clear c2
     by_cases c3 : 0 ≤ x7_1
     ·rw [if_pos c3] at H
      have c3b0 := decide_eq_true c3
      clear c3
      by_cases c4 : x7_1 < (l0.length : Int)
      ·rw [if_pos c4] at H
       have c4b0 := decide_eq_true c4
       clear c4
       obtain ⟨ji5, hji5⟩ : ∃ j_ : Int, (wrap64 (8 * x7_1)) = j_ := ⟨_, rfl⟩
       replace H : (if 0 ≤ (ji5) then (image_number.l0 k1 (Go.bits .or .u64 x2_1 (shl .u64 (IntKind.u64.wrap (rd l0 x7_1)) (ji5))) l0 (l0.length : Int) (wrap64 (x7_1 + 1))) else (none)) = some r := by first | (rw [hji5] at H; exact H) | (simp only [hji5] at H ⊢; exact H)
       have hji5w : (IntKind.i64.wrap (8 * x7_1)) = ji5 := (i64_w _).trans hji5
       by_cases c6 : 0 ≤ (ji5)
       ·rw [if_pos c6] at H
        have c6b0 := eq_true c6
        have c6b1 := decide_eq_true c6
        clear c6
        obtain ⟨ji7, hji7⟩ : ∃ j_ : Int, (shl .u64 (IntKind.u64.wrap (rd l0 x7_1)) (ji5)) = j_ := ⟨_, rfl⟩
        replace H : (image_number.l0 k1 (Go.bits .or .u64 x2_1 (ji7)) l0 (l0.length : Int) (wrap64 (x7_1 + 1))) = some r := by first | (rw [hji7] at H; exact H) | (simp only [hji7] at H ⊢; exact H)
        have hji7_ : (IntKind.u64.wrap ((IntKind.u64.wrap (rd l0 x7_1)) * 2 ^ min (ji5).toNat 64)) = ji7 := hji7
        have hji7z : (ji5) ≤ 64 → (IntKind.u64.wrap ((IntKind.u64.wrap (rd l0 x7_1)) * 2 ^ (ji5).toNat)) = ji7 := shl_small hji7
        have H' := ak_ H
        clear H
        have p235 : 0 ≤ (x7_1 : Int) := od_ (by first | (with_reducible assumption) | assumption)
        have q235 : x7_1 < (l0.length : Int) := od_ (by first | (with_reducible assumption) | assumption)
        obtain ⟨ad235, e235, hx235_0⟩ := Kd.at_int HR0.out x7_1 p235 q235
        cases e235
        replace p235 := eq_true p235
        replace q235 := eq_true q235
        go_wp2
        go_roundg k1
        case measure => have := HK1.out; omega
        case rel => exact ⟨(Go.bits .or .u64 x2_1 (ji7)), (wrap64 (x7_1 + 1)), (by first | rfl | (simp; done) | (simp only [← hji7] <;> (first | rfl | simp)) | (simp [*]; done)), rf_, H', ⟨by have := HK1.out; omega⟩, by repeat (first | exact Drawn0.refl _ | apply Drawn0.step)⟩
       ·rw [if_neg c6] at H
        exact absurd H (by simp)
      ·rw [if_neg c4] at H
       exact absurd H (by simp)
     ·rw [if_neg c3] at H
      exact absurd H (by simp)
    ·rw [if_neg c2] at H
     have c2b0 := decide_eq_false c2
     clear c2
     obtain rfl := Option.some.inj H
     go_wp2
     go_ret
     exact ⟨by first | rfl | (simp; done) | (simp [*]; done), by repeat (first | exact Drawn0.refl _ | apply Drawn0.step)⟩
def mix_read.l0 : Nat → List Int → Int → Int → Int → Int → Option (Int × Int)
  | 0, _, _, _, _, _ => none
  | k + 1, l, x, y, n, i => if i < n then (if 0 ≤ i then (if i < (l.length : Int) then (if 0 ≤ (wrap64 ((Int.tmod i 8) * 8)) then (if (wrap64 (Int.tdiv i 8)) = 0 then (mix_read.l0 k l (Go.bits .or .u64 x (shl .u64 (IntKind.u64.wrap (rd l i)) (wrap64 ((Int.tmod i 8) * 8)))) y n (wrap64 (i + 1))) else (if (wrap64 (Int.tdiv i 8)) = 1 then (mix_read.l0 k l x (Go.bits .or .u64 y (shl .u64 (IntKind.u64.wrap (rd l i)) (wrap64 ((Int.tmod i 8) * 8)))) n (wrap64 (i + 1))) else none)) else none) else none) else none) else (some (x, y))
def mix_read.f (k : Nat) (l0 : List Int) : Option (Int × Int) := mix_read.l0 k l0 0 0 (l0.length : Int) 0
theorem mix_read.mono_l : ∀ k, (∀ y0 y1 y2 y3 y4, LeO (mix_read.l0 k y0 y1 y2 y3 y4) (mix_read.l0 (k + 1) y0 y1 y2 y3 y4))
  | 0 => fun _ _ _ _ _ r h => by simp [mix_read.l0] at h
  | k + 1 => by
   have ih0 := mix_read.mono_l k
   ·intro y0 y1 y2 y3 y4
    unfold mix_read.l0
    repeat' first
    | (with_reducible exact ih0 _ _ _ _ _)
    | (with_reducible exact LeO.refl _)
    | (with_reducible exact LeO.none _)
    | (with_reducible refine LeO.ite ?_ ?_)
    | exact ih0 _ _ _ _ _
    | exact LeO.none _
    | refine LeO.ite ?_ ?_
theorem mix_read.mono : ∀ a0 k, LeO (mix_read.f k a0) (mix_read.f (k + 1) a0) := fun _ k => mix_read.mono_l k _ _ _ _ _
set_option maxHeartbeats 8000000 in
set_option maxRecDepth 100000 in
theorem mix_read.calls (k : Nat) (A0 : Option Addr) (c0 : Nat) (l0 : List Int) (r1 : Int) (r2 : Int) (w : World) (hr0 : Kd.C (Kd.int .u8) w A0 l0.length l0) (hc0 : l0.length ≤ c0) (h : mix_read.f k l0 = some (r1, r2)) :
   Calls Try.prog 114 #[.slice A0 l0.length c0] w fun e w' => e = .returned (.agg #[.int .u64 r1, .int .u64 r2]) ∧ Below w.heap.size w w' := by
  have HR0 := ak_ hr0
  clear hr0 hc0
  have hu_b := underlying25
  have HB := ak_ (Below.refl w.heap.size w)
  have H : mix_read.l0 k l0 0 0 (l0.length : Int) 0 = some (r1, r2) := h
  clear h
  have H' := ak_ H
  clear H
  go_enter func114, ntmps114
  go_wp2_with (first | ((with_reducible refine gate_dst (N := 2) rfl ?_); refine bx_ 2 #[.int .u64 0, .int .u64 0] 25 ?_; intro g hg w1 hbox hb; have GE := ak_ (show w.heap.size ≤ g by rw [hg]; exact Nat.le_refl _); have n0_ := ak_ hb; have BK := ak_ hbox; clear HB; have HB := n0_; clear n0_ hb hbox hg))
  go_loopg [7] k (fun kq v7 w' => ∃ (x y i : Int), v7 = .int .i64 i ∧ Aside0 (mix_read.l0 kq l0 x y (l0.length : Int) i = some (r1, r2)) ∧ Aside0 (kq ≤ k) ∧ Aside0 (w'.heap[g]? = some (.cells #[.int .u64 x, .int .u64 y] 25 (0, 0))) ∧ Aside0 (Below w.heap.size w w'))
  case atStart => exact ⟨0, 0, 0, (by first | rfl | (simp; done)), H', ⟨Nat.le_refl _⟩, ⟨BK.out⟩, ⟨HB.out⟩⟩
  case round =>
   clear H' BK HB
   obtain ⟨x, y, i, rfl, HA, HK1, BK, HB⟩ := hrel
   have BK0 := ak_ BK.out
   cases gk with
   | zero => exact absurd HA.out (by simp [mix_read.l0])
   | succ k1 =>
    have H := HA.out
    clear HA
    simp only [mix_read.l0] at H
    have hx0 : wr.cell? ⟨g, 0, none⟩ = some (.int .u64 x) := (kc_ BK.out 0).trans rfl
    have hx1 : wr.cell? ⟨g, 1, none⟩ = some (.int .u64 y) := (kc_ BK.out 1).trans rfl
    have hf0 := kf_ BK.out 0
    have hf1 := kf_ BK.out 1
    by_cases c6 : i < (l0.length : Int)
    ·rw [if_pos c6] at H
     have c6b0 := decide_eq_true c6
     by_cases c7 : 0 ≤ i
     ·rw [if_pos c7, if_pos c6] at H
      obtain ⟨ad, e_, hxl⟩ := Kd.at_int HR0.out i c7 c6
      cases e_
      replace hxl := cx_ HB hxl
      have c7b := eq_true c7
      have c6b := eq_true c6
      clear c6 c7
      obtain ⟨ji, hji⟩ : ∃ j_ : Int, wrap64 ((Int.tmod i 8) * 8) = j_ := ⟨_, rfl⟩
      rw [hji] at H
      have hjiw : (IntKind.i64.wrap ((Int.tmod i 8) * 8)) = ji := (i64_w _).trans hji
      by_cases c8 : 0 ≤ ji
      ·rw [if_pos c8] at H
       have c8b0 := eq_true c8
       have c8b1 := decide_eq_true c8
       clear c8
       obtain ⟨jq, hjq⟩ : ∃ j_ : Int, wrap64 (Int.tdiv i 8) = j_ := ⟨_, rfl⟩
       rw [hjq] at H
       have hjqw : (IntKind.i64.wrap (Int.tdiv i 8)) = jq := (i64_w _).trans hjq
       by_cases c9 : jq = 0
       ·rw [if_pos c9] at H
        subst c9
        have H' := ak_ H
        clear H
        go_wp2
        go_region
        all_goals
         go_wp2
         go_roundg k1
         case measure => have := HK1.out; omega
         case rel => exact ⟨_, y, _, rfl, H', ⟨by have := HK1.out; omega⟩, ⟨blk_put BK0.out 0 _ rfl⟩, ⟨(below_set HB.out GE.out).drew⟩⟩
       ·rw [if_neg c9] at H
        by_cases c10 : jq = 1
        ·rw [if_pos c10] at H
         subst c10
         have H' := ak_ H
         clear H
         go_wp2
         go_region
         all_goals
          go_wp2
          go_roundg k1
          case measure => have := HK1.out; omega
          case rel => exact ⟨x, _, _, rfl, H', ⟨by have := HK1.out; omega⟩, ⟨blk_put BK0.out 1 _ rfl⟩, ⟨(below_set HB.out GE.out).drew⟩⟩
        ·rw [if_neg c10] at H
         exact absurd H (by simp)
      ·rw [if_neg c8] at H
       exact absurd H (by simp)
     ·rw [if_neg c7] at H
      exact absurd H (by simp)
    ·rw [if_neg c6] at H
     have c6b0 := decide_eq_false c6
     clear c6
     simp only [some.injEq, Prod.mk.injEq] at H
     obtain ⟨rfl, rfl⟩ := H
     go_wp2
     refine bodyPost_ret (results_cell_row rfl _ _ g 25 #[.int .u64 x, .int .u64 y] (0, 0) _ rfl (blk_put (blk_put BK.out 0 _ rfl) 1 _ rfl) underlying25 rfl (by kernel_rfl)) rfl ?_
     exact ⟨rfl, below_set (below_set HB.out GE.out) GE.out⟩
def mix_Of.f (k : Nat) (l0 : List Int) : Option (Int × Int × Int) := if (l0.length : Int) = 16 then ((mix_read.f k l0).bind fun bt237 => (some (bt237.1, bt237.2, 0))) else (some (0, 0, 2))
theorem mix_Of.mono : ∀ a0 k, LeO (mix_Of.f k a0) (mix_Of.f (k + 1) a0) := by
  intro a0 k
  unfold mix_Of.f
  repeat' first | (with_reducible first | exact mix_read.mono .. | exact LeO.refl _ | exact LeO.none _ | refine LeO.ite ?_ ?_ | refine LeO.bind ?_ (fun _ => ?_)) | exact mix_read.mono .. | refine LeO.ite ?_ ?_ | refine LeO.bind ?_ (fun _ => ?_)
set_option maxHeartbeats 8000000 in
set_option maxRecDepth 100000 in
theorem mix_Of.calls (k : Nat) (A0 : Option Addr) (c0 : Nat) (l0 : List Int) (r1 : Int) (r2 : Int) (r3 : Int) (w : World) (hr0 : Kd.C (Kd.int .u8) w A0 l0.length l0) (hc0 : l0.length ≤ c0) (h : mix_Of.f k l0 = some (r1, r2, r3)) :
   Calls Try.prog 79 #[.slice A0 l0.length c0] w fun e w' => e = .returned (.tuple #[.agg #[.int .u64 r1, .int .u64 r2], .int .i64 r3]) ∧ Below w.heap.size w w' := by
  have hu25 := underlying25
  have HR0 := ak_ hr0
  have HC0 := ak_ hc0
  clear hr0 hc0
  have HB := ak_ (Below.refl w.heap.size w)
  have H : (if (l0.length : Int) = 16 then ((mix_read.f k l0).bind fun bt237 => (some (bt237.1, bt237.2, 0))) else (some (0, 0, 2))) = some (r1, r2, r3) := h
  clear h
  by_cases c2 : (l0.length : Int) = 16
  ·rw [if_pos c2] at H
   have c2b0 : ((l0.length : Int) == 16) = true := beq_iff_eq.mpr c2
   have c2b1 : ((l0.length : Int) != 16) = false := bne_eq_false_iff_eq.mpr c2
   clear c2
   replace H := bind_eq_some_iff.mp H
   obtain ⟨⟨t237, t238⟩, A30, H⟩ := H
   replace H : (some (t237, t238, 0)) = some (r1, r2, r3) := H
   have A3 := ak_ A30
   clear A30
   simp only [some.injEq, Prod.mk.injEq] at H
   obtain ⟨rfl, rfl, rfl⟩ := H
   go_enter func79, ntmps79
   go_wp2_with (first | ((with_reducible refine gate_dst (N := 2) rfl ?_); refine bx_ 2 #[.int .u64 0, .int .u64 0] 25 ?_; intro gb236 hg w4 hbox hb; have BK236 := ak_ hbox; have GW236 := ak_ (gs_ hg HB); have GE236 := ak_ (gs_ hg HB); replace HB := ak_ (bt_ (bl_ HB) hb); clear hb hbox hg) | ((with_reducible refine gate_callee (f := 114) rfl ?_); refine gl_ (some 9) func114 #[.slice A0 l0.length c0] ?_; (with_reducible refine (mix_read.calls k _ _ l0 t237 t238 _ ?side1 ?side2 A3.out).mono ?_); (case side1 => repeat (first | exact (Kd.C_below HR0.out HB.out) | (with_reducible refine Kd.C_alloc ?_ _) | (with_reducible refine Kd.C_drewN ?_ _) | (with_reducible refine Kd.C_drew ?_))); (case side2 => exact HC0.out); rintro e w5 ⟨rfl, hb⟩; refine ⟨_, rfl, ?_⟩; replace BK236 := ak_ (kb_ (kl_ BK236) hb); replace HB := ak_ (bt_ (bw1_ HB GE236) hb); (try clear hb); (try clear hk); obtain ⟨hcz6_0, hcz6_1, hfz6_0, hfz6_1⟩ := kc2_ BK236.out))
   refine bodyPost_ret (results_ct rfl _ _ gb236 25 #[.int .u64 t237, .int .u64 t238] (0, 0) _ rfl (by (with_reducible repeat (first | refine kn_ ?_ _ | refine kd_ ?_ | refine ka_ ?_ _)); exact bp_ (bp_ BK236.out 0 _) 1 _) underlying25 rfl (by kernel_rfl)) rfl ?_
   exact ea_ (bw1_ HB GE236)
  ·rw [if_neg c2] at H
   have c2b0 : ((l0.length : Int) == 16) = false := beq_eq_false_iff_ne.mpr c2
   have c2b1 : ((l0.length : Int) != 16) = true := bne_iff_ne.mpr c2
   simp only [some.injEq, Prod.mk.injEq] at H
   obtain ⟨rfl, rfl, rfl⟩ := H
   go_enter func79, ntmps79
   go_wp2_with (first | ((with_reducible refine gate_dst (N := 2) rfl ?_); refine bx_ 2 #[.int .u64 0, .int .u64 0] 25 ?_; intro gb236 hg w7 hbox hb; have BK236 := ak_ hbox; have GW236 := ak_ (gs_ hg HB); have GE236 := ak_ (gs_ hg HB); replace HB := ak_ (bt_ (bl_ HB) hb); clear hb hbox hg; obtain ⟨hcz8_0, hcz8_1, hfz8_0, hfz8_1⟩ := kc2_ BK236.out))
   refine bodyPost_ret (results_ct rfl _ _ gb236 25 #[.int .u64 0, .int .u64 0] (0, 0) _ rfl (by (with_reducible repeat (first | refine kn_ ?_ _ | refine kd_ ?_ | refine ka_ ?_ _)); exact bp_ (bp_ BK236.out 0 _) 1 _) underlying25 rfl (by kernel_rfl)) rfl ?_
   exact ea_ (bw1_ HB GE236)
end Go.Proofs.Ytoljdfgkkkpnbaa.MP
