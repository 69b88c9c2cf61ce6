-- written by a program of this session (wip/tools/mprint.sh) for this seat
import Derived.Test.YtkleiaeihihjnaaMPx0
import Derived.Test.YtkleiaeihihjnaaMPx1
import Derived.Test.YtkleiaeihihjnaaMPx2
import Derived.Test.YtkleiaeihihjnaaMPx6
namespace Go.Proofs.Ytkleiaeihihjnaa.MP
open Go.RowKit Go.Proofs.YtkleiaeihihjnaaW.PrintWords Go.Proofs.YtkleiaeihihjnaaW.PrintLast Go.Proofs.YtkleiaeihihjnaaW.PrintMore
open Option (bind_eq_some_iff some.injEq)
open _root_.Go.Proofs.Try
open List (setIfInBounds_toArray set_cons_zero set_cons_succ map_toArray map_cons map_nil length_drop length_take)
attribute [local go_sem] max2_int min2_int max_two min_two max_three min_three max_four min_four
set_option linter.unusedVariables false
set_option linter.unusedSimpArgs false
attribute [local go_sem high] eqA48
def bA7 (k n : Nat) : Array Bool := (Array.range n).map fun i => decide (i < k)
mutual
def store_Check.j0 : Nat → List (S45) → List (S50) → List (S48) → Bool → Option (Int)
  | 0, _, _, _, _ => none
  | k + 1, x0, x4, x11, x35 => if x35 = true then (some 1) else (store_Check.l0 k x0 x4 x11 x4 (x4.length : Int) 0)
def store_Check.l0 : Nat → List (S45) → List (S50) → List (S48) → List (S50) → Int → Int → Option (Int)
  | 0, _, _, _, _, _, _ => none
  | k + 1, x0, x4, x11, x36, x37, x38 => if x38 < x37 then (if 0 ≤ x38 then (if x38 < (x36.length : Int) then (if x38 < (x11.length : Int) then (if (!(((rd_T50 x36 x38).f0.f0) == ((rd_T48 x11 x38).f0)) || (!(((rd_T50 x36 x38).f0.f1) == ((rd_T48 x11 x38).f1)))) = true then (some 1) else ((store_open.f k x0 ((rd_T50 x36 x38).f1.f0) ((rd_T50 x36 x38).f1.f1) ((rd_T50 x36 x38).f1.f2.f0) ((rd_T50 x36 x38).f1.f2.f1) ((rd_T50 x36 x38).f1.f3.f0.f0) ((rd_T50 x36 x38).f1.f3.f0.f1) ((rd_T50 x36 x38).f1.f3.f1.f0) ((rd_T50 x36 x38).f1.f3.f1.f1) ((rd_T50 x36 x38).f1.f4)).bind fun t329 => (if t329 = true then (if 0 < (x4.length : Int) then (if (((rd_T50 x36 x38).f1.f0) != ((rd_T50 x4 0).f1.f0)) = true then (some 1) else (store_Check.l0 k x0 x4 x11 x36 x37 (wrap64 (x38 + 1)))) else (none)) else (some 1)))) else (none)) else (none)) else (none)) else (some 0)
end
def store_Check.f (k : Nat) (l0 : List (S45)) (a1 : Int) (a2 : Int) (a3 : Int) (l4 : List (S50)) : Option (Int) := (store_Pairs.f k a1 a2 a3).bind fun bt321 => (if bt321.2 = 0 then ((term_Check.f l0).bind fun t325 => (if t325 = 0 then (store_Check.j0 k l0 l4 bt321.1 ((l4.length : Int) != (bt321.1.length : Int))) else (store_Check.j0 k l0 l4 bt321.1 true))) else (store_Check.j0 k l0 l4 bt321.1 true))
theorem store_Check.mono_l : ∀ k, (∀ y0 y1 y2 y3, LeO (store_Check.j0 k y0 y1 y2 y3) (store_Check.j0 (k + 1) y0 y1 y2 y3)) ∧ (∀ y0 y1 y2 y3 y4 y5, LeO (store_Check.l0 k y0 y1 y2 y3 y4 y5) (store_Check.l0 (k + 1) y0 y1 y2 y3 y4 y5))
  | 0 => ⟨fun _ _ _ _ r h => by simp [store_Check.j0] at h, fun _ _ _ _ _ _ r h => by simp [store_Check.l0] at h⟩
  | k + 1 => by
   obtain ⟨ih0, ih1⟩ := store_Check.mono_l k
   refine ⟨?_, ?_⟩
   all_goals intros
   all_goals first | unfold store_Check.j0 | unfold store_Check.l0
   all_goals repeat' first | (with_reducible first | exact ih0 .. | exact ih1 .. | exact store_Pairs.mono .. | exact store_open.mono .. | exact LeO.refl _ | exact LeO.none _ | refine LeO.ite ?_ ?_ | refine LeO.bind ?_ (fun _ => ?_)) | exact ih0 .. | exact ih1 .. | exact store_Pairs.mono .. | exact store_open.mono .. | refine LeO.ite ?_ ?_ | refine LeO.bind ?_ (fun _ => ?_)
theorem store_Check.mono : ∀ a0 a1 a2 a3 a4 k, LeO (store_Check.f k a0 a1 a2 a3 a4) (store_Check.f (k + 1) a0 a1 a2 a3 a4) := by
  intro a0 a1 a2 a3 a4 k
  obtain ⟨ih0, ih1⟩ := store_Check.mono_l k
  unfold store_Check.f
  repeat' first | (with_reducible first | exact ih0 .. | exact ih1 .. | exact store_Pairs.mono .. | exact store_open.mono .. | exact LeO.refl _ | exact LeO.none _ | refine LeO.ite ?_ ?_ | refine LeO.bind ?_ (fun _ => ?_)) | exact ih0 .. | exact ih1 .. | exact store_Pairs.mono .. | exact store_open.mono .. | refine LeO.ite ?_ ?_ | refine LeO.bind ?_ (fun _ => ?_)
def store_Check.T7 : Bool × List (List Nat × List Nat) := (true, [([], []), ([0], [0]), ([], []), ([], []), ([2, 3], [2, 3]), ([4], [4]), ([1, 5], [1, 5]), ([6], [6]), ([7], [7]), ([7], [7]), ([9, 7], [7, 9]), ([8, 10, 7, 7], [7, 8, 10]), ([11, 7], [7, 11]), ([7, 12], [7, 12]), ([13, 11], [13]), ([14], [14]), ([15, 14], [14, 15]), ([16, 14], [14, 16]), ([14], [14]), ([18, 14], [14, 18]), ([19, 14], [14, 19]), ([20, 14], [14, 20]), ([21, 14], [14, 21]), ([17, 22, 14], [14, 17, 22]), ([14, 23], [14, 23])])
def store_Check.B7 : List Nat := [0, 1, 0, 0, 12, 28, 63, 127, 255, 255, 767, 2047, 4095, 8191, 16383, 32767, 65535, 131071, 32767, 294911, 819199, 1867775, 3964927, 8388607, 16777215]
theorem store_Check.tab7 : rtab .any (opsOf Try.f13 7) = store_Check.T7 := by kernel_rfl
theorem store_Check.bits7 : waitsOk store_Check.T7.2 store_Check.B7 = true := by kernel_rfl
set_option maxHeartbeats 8000000 in
set_option maxRecDepth 100000 in
theorem store_Check.calls (k : Nat) (A0 : Option Addr) (c0 : Nat) (l0 : List (S45)) (a1 : Int) (a2 : Int) (a3 : Int) (A4 : Option Addr) (c4 : Nat) (l4 : List (S50)) (r : Int) (w : World) (hr0 : Kd.C k45 w A0 l0.length l0) (hc0 : l0.length ≤ c0) (hr4 : Kd.C k50 w A4 l4.length l4) (hc4 : l4.length ≤ c4) (h : store_Check.f k l0 a1 a2 a3 l4 = some r) :
   Calls Try.prog 13 #[.slice A0 l0.length c0, .int .i64 a1, .int .i64 a2, .int .u64 a3, .slice A4 l4.length c4] w fun e w' => e = .returned (.int .i64 r) ∧ Below w.heap.size w w' := by
  have hu50 := underlying50
  have hu48 := underlying48
  have hu34 := underlying34
  have HR0 := ak_ hr0
  have HC0 := ak_ hc0
  clear hr0 hc0
  have HR4 := ak_ hr4
  have HC4 := ak_ hc4
  clear hr4 hc4
  have HB := ak_ (Below.refl w.heap.size w)
  have H : ((store_Pairs.f k a1 a2 a3).bind fun bt321 => (if bt321.2 = 0 then ((term_Check.f l0).bind fun t325 => (if t325 = 0 then (store_Check.j0 k l0 l4 bt321.1 ((l4.length : Int) != (bt321.1.length : Int))) else (store_Check.j0 k l0 l4 bt321.1 true))) else (store_Check.j0 k l0 l4 bt321.1 true))) = some r := h
  clear h
  replace H := bind_eq_some_iff.mp H
  obtain ⟨⟨t321, t322⟩, A60, H⟩ := H
  replace H : (if t322 = 0 then ((term_Check.f l0).bind fun t325 => (if t325 = 0 then (store_Check.j0 k l0 l4 t321 ((l4.length : Int) != (t321.length : Int))) else (store_Check.j0 k l0 l4 t321 true))) else (store_Check.j0 k l0 l4 t321 true)) = some r := H
  have A6 := ak_ A60
  clear A60
  have HC7 := ak_ H
  clear H
  go_enter func13, ntmps13
  go_upto_region 2 with (first | ((with_reducible refine gate_callee (f := 19) rfl ?_); refine gl_ (some 19) func19 #[.int .i64 a1, .int .i64 a2, .int .u64 a3] ?_; (with_reducible refine (store_Pairs.calls k a1 a2 a3 t321 t322 _ A6.out).mono ?_); rintro e w8 ⟨v323, rfl, ho0, hb⟩; refine ⟨_, rfl, ?_⟩; have HO324 := ak_ (Kd.R_lower ho0 (bz_ (bl_ HB))); replace HB := ak_ (bt_ (bl_ HB) hb); (try clear hb); (try clear hk); (try clear ho0)))
  (try simp only [Act.put, setIfInBounds_toArray, set_cons_zero, set_cons_succ])
  go_cut [35] (fun v35 wc => ∃ (kq : Nat) (x35_6 : Bool), v35 = .bool x35_6 ∧ Aside0 (store_Check.j0 kq l0 l4 t321 x35_6 = some r) ∧ Aside0 (kq ≤ k) ∧ Aside0 (Kd.R k48 48 wc w.heap.size (fun _ => True) v323 t321) ∧ Aside0 (Below w.heap.size w wc))
  case first =>
   have H := HC7.out
   clear HC7
   by_cases c9 : t322 = 0
   ·rw [if_pos c9] at H
    have c9b0 : (t322 == 0) = true := beq_iff_eq.mpr c9
    have c9b1 : (t322 != 0) = false := bne_eq_false_iff_eq.mpr c9
    clear c9
    (first | rw [c9b0] | (simp only [i64_w, i32_w]; rw [c9b0]) | skip)
    replace H := bind_eq_some_iff.mp H
    obtain ⟨t325, A100, H⟩ := H
    replace H : (if t325 = 0 then (store_Check.j0 k l0 l4 t321 ((l4.length : Int) != (t321.length : Int))) else (store_Check.j0 k l0 l4 t321 true)) = some r := H
    have A10 := ak_ A100
    clear A100
    by_cases c11 : t325 = 0
    ·rw [if_pos c11] at H
     have c11b0 : (t325 == 0) = true := beq_iff_eq.mpr c11
     have c11b1 : (t325 != 0) = false := bne_eq_false_iff_eq.mpr c11
     clear c11
     have H' := ak_ H
     clear H
     go_wp2_with (first | (go_at_call 34; (with_reducible refine (term_Check.calls _ _ l0 t325 _ ?side1 ?side2 A10.out).mono ?_); (case side1 => repeat (first | exact (Kd.C_below HR0.out HB.out) | (with_reducible refine Kd.C_alloc ?_ _) | (with_reducible refine Kd.C_drewN ?_ _) | (with_reducible refine Kd.C_drew ?_))); (case side2 => exact HC0.out); rintro e w12 ⟨rfl, hb⟩; replace HO324 := ak_ (Kd.R_below (rl_ HO324) hb); replace HB := ak_ (bt_ (bl_ HB) hb); (try clear hb); (try clear hk); obtain ⟨Ao13, co13, eo13⟩ := Kd.R_slice HO324.out; subst eo13))
     go_meet
     case rel => exact ⟨_, (((l4.length : Int) != (t321.length : Int))), rf_, H', ⟨by first | omega | exact Nat.le_refl _⟩, ⟨rl_ HO324⟩, ⟨bl_ HB⟩⟩
    ·rw [if_neg c11] at H
     have c11b0 : (t325 == 0) = false := beq_eq_false_iff_ne.mpr c11
     have c11b1 : (t325 != 0) = true := bne_iff_ne.mpr c11
     have H' := ak_ H
     clear H
     go_wp2_with (first | (go_at_call 34; (with_reducible refine (term_Check.calls _ _ l0 t325 _ ?side1 ?side2 A10.out).mono ?_); (case side1 => repeat (first | exact (Kd.C_below HR0.out HB.out) | (with_reducible refine Kd.C_alloc ?_ _) | (with_reducible refine Kd.C_drewN ?_ _) | (with_reducible refine Kd.C_drew ?_))); (case side2 => exact HC0.out); rintro e w14 ⟨rfl, hb⟩; replace HO324 := ak_ (Kd.R_below (rl_ HO324) hb); replace HB := ak_ (bt_ (bl_ HB) hb); (try clear hb); (try clear hk)))
     go_meet
     case rel => exact ⟨_, (true), rf_, H', ⟨by first | omega | exact Nat.le_refl _⟩, ⟨rl_ HO324⟩, ⟨bl_ HB⟩⟩
   ·rw [if_neg c9] at H
    have c9b0 : (t322 == 0) = false := beq_eq_false_iff_ne.mpr c9
    have c9b1 : (t322 != 0) = true := bne_iff_ne.mpr c9
    (first | rw [c9b0] | (simp only [i64_w, i32_w]; rw [c9b0]) | skip)
    have H' := ak_ H
    clear H
    go_wp2
    go_meet
    case rel => exact ⟨_, (true), rf_, H', ⟨by first | omega | exact Nat.le_refl _⟩, ⟨rl_ HO324⟩, ⟨bl_ HB⟩⟩
  case rest =>
   clear HC7
   try clear c1
   try clear p2
   try clear c4
   try clear c9
   try clear c9b0
   try clear c9b1
   try clear c11
   try clear c11b0
   try clear c11b1
   try clear c13
   obtain ⟨kq, x35_6, rfl, HA, HJ6, HO_11, HB⟩ := hcut
   cases kq with
   | zero => exact absurd HA.out (by simp [store_Check.j0])
   | succ kj6 =>
    have H := HA.out
    clear HA
    simp only [store_Check.j0] at H
    by_cases c15 : x35_6 = true
    ·subst c15
     have H1 : (some 1) = some r := by rw [if_pos rfl] at H; exact H
     clear H
     have H := H1
     clear H1
     obtain rfl := Option.some.inj H
     go_wp2
     go_ret
     exact ea_ (bl_ HB)
    ·replace c15 := Bool.eq_false_iff.mpr c15
     subst c15
     have H1 : (store_Check.l0 kj6 l0 l4 t321 l4 (l4.length : Int) 0) = some r := by rw [if_neg (show ¬ (false = true) by decide)] at H; exact H
     clear H
     have H := H1
     clear H1
     have H' := ak_ H
     clear H
     go_wp2
     go_loopg [38] kj6 (fun kq v38 w' => ∃ (x38_2 : Int), v38 = .int .i64 x38_2 ∧ Aside0 (store_Check.l0 kq l0 l4 t321 l4 (l4.length : Int) x38_2 = some r) ∧ Aside0 (kq ≤ kj6) ∧ Aside0 (Kd.R k48 48 w' w.heap.size (fun _ => True) v323 t321) ∧ Aside0 (Below w.heap.size w w'))
     case atStart => exact ⟨(0), rf_, H', ⟨Nat.le_refl _⟩, ⟨rl_ HO_11⟩, ⟨bl_ HB⟩⟩
     case round =>
      clear H'
      try clear c1
      try clear p2
      try clear c4
      try clear c9
      try clear c9b0
      try clear c9b1
      try clear c11
      try clear c11b0
      try clear c11b1
      try clear c13
      try clear c15
      try clear p2
      obtain ⟨x38_2, rfl, HA, HK2, HO_11, HB⟩ := hrel
      cases gk with
      | zero => exact absurd HA.out (by simp [store_Check.l0])
      | succ k2 =>
       have H := HA.out
       clear HA
       simp only [store_Check.l0] at H
       by_cases c16 : x38_2 < (l4.length : Int)
       ·rw [if_pos c16] at H
        have c16b0 := decide_eq_true c16
        clear c16
        by_cases c17 : 0 ≤ x38_2
        ·rw [if_pos c17] at H
         have c17b0 := decide_eq_true c17
         clear c17
         by_cases c18 : x38_2 < (l4.length : Int)
         ·rw [if_pos c18] at H
          have c18b0 := decide_eq_true c18
          clear c18
          by_cases c19 : x38_2 < (t321.length : Int)
          ·rw [if_pos c19] at H
           have c19b0 := decide_eq_true c19
           clear c19
           by_cases c20 : (!(((rd_T50 l4 x38_2).f0.f0) == ((rd_T48 t321 x38_2).f0)) || (!(((rd_T50 l4 x38_2).f0.f1) == ((rd_T48 t321 x38_2).f1)))) = true
           ·rw [if_pos c20] at H
            have c20b0 : (!(((rd_T50 l4 x38_2).f0.f0) == ((rd_T48 t321 x38_2).f0)) || (!(((rd_T50 l4 x38_2).f0.f1) == ((rd_T48 t321 x38_2).f1)))) = true := c20
            clear c20
            obtain rfl := Option.some.inj H
            have p326 : 0 ≤ (x38_2 : Int) := od_ (by first | (with_reducible assumption) | assumption)
            have q326 : x38_2 < (l4.length : Int) := od_ (by first | (with_reducible assumption) | assumption)
            obtain ⟨ad326, e326, hx326_0, hx326_1, hx326_2, hx326_3, hx326_4, hx326_5, hx326_6, hx326_7, hx326_8, hx326_9, hx326_10⟩ := at_T50 HR4.out x38_2 p326 q326
            cases e326
            replace hx326_0 := cx_ HB hx326_0
            replace hx326_1 := cx_ HB hx326_1
            replace hx326_2 := cx_ HB hx326_2
            replace hx326_3 := cx_ HB hx326_3
            replace hx326_4 := cx_ HB hx326_4
            replace hx326_5 := cx_ HB hx326_5
            replace hx326_6 := cx_ HB hx326_6
            replace hx326_7 := cx_ HB hx326_7
            replace hx326_8 := cx_ HB hx326_8
            replace hx326_9 := cx_ HB hx326_9
            replace hx326_10 := cx_ HB hx326_10
            replace p326 := eq_true p326
            replace q326 := eq_true q326
            try go_wp2_with (first | ((with_reducible refine gate_dst (N := 14) rfl ?_); (try (refine gate_guard (by rfl) ?_; dsimp only)); refine bx_ 14 #[.int .u64 0, .int .u64 0, .bool false, .bool false, .int .u64 0, .int .u64 0, .int .u64 0, .int .u64 0, .int .u64 0, .int .u64 0, .int .i64 0] 50 ?_; intro gb327 hg w21 hbox hb; replace HO_11 := ak_ (Kd.R_below (rl_ HO_11) hb); have BK327 := ak_ hbox; have GW327 := ak_ (gs_ hg HB); have GE327 := ak_ (gs_ hg HB); replace HB := ak_ (bt_ (bl_ HB) hb); clear hb hbox hg; obtain ⟨hcz22_0, hcz22_1, hcz22_2, hcz22_3, hcz22_4, hcz22_5, hcz22_6, hcz22_7, hcz22_8, hcz22_9, hcz22_10, hfz22_0, hfz22_1, hfz22_2, hfz22_3, hfz22_4, hfz22_5, hfz22_6, hfz22_7, hfz22_8, hfz22_9, hfz22_10⟩ := kc11_ BK327.out))
            obtain ⟨w23, e_⟩ : ∃ w_, sC_ gb327 0 [.int .u64 ((rd_T50 l4 x38_2).f0.f0), .int .u64 ((rd_T50 l4 x38_2).f0.f1), .bool ((rd_T50 l4 x38_2).f1.f0), .bool ((rd_T50 l4 x38_2).f1.f1), .int .u64 ((rd_T50 l4 x38_2).f1.f2.f0), .int .u64 ((rd_T50 l4 x38_2).f1.f2.f1), .int .u64 ((rd_T50 l4 x38_2).f1.f3.f0.f0), .int .u64 ((rd_T50 l4 x38_2).f1.f3.f0.f1), .int .u64 ((rd_T50 l4 x38_2).f1.f3.f1.f0), .int .u64 ((rd_T50 l4 x38_2).f1.f3.f1.f1), .int .i64 ((rd_T50 l4 x38_2).f1.f4)] w21 = w_ := ⟨_, rfl⟩
            have n0_ : Aside0 (Kd.R k48 48 w23 w.heap.size (fun _ => True) v323 t321) := ⟨Kd.R_mono (sC_far (Kd.R_types HO_11.out BK327.out (by decide)) (fun _ hk => hk.2) e_) (fun _ hk => trivial)⟩
            have n1_ : Aside0 (w23.heap[gb327]? = some (.cells #[.int .u64 ((rd_T50 l4 x38_2).f0.f0), .int .u64 ((rd_T50 l4 x38_2).f0.f1), .bool ((rd_T50 l4 x38_2).f1.f0), .bool ((rd_T50 l4 x38_2).f1.f1), .int .u64 ((rd_T50 l4 x38_2).f1.f2.f0), .int .u64 ((rd_T50 l4 x38_2).f1.f2.f1), .int .u64 ((rd_T50 l4 x38_2).f1.f3.f0.f0), .int .u64 ((rd_T50 l4 x38_2).f1.f3.f0.f1), .int .u64 ((rd_T50 l4 x38_2).f1.f3.f1.f0), .int .u64 ((rd_T50 l4 x38_2).f1.f3.f1.f1), .int .i64 ((rd_T50 l4 x38_2).f1.f4)] 50 (0, 0))) := ⟨sC_blk BK327.out rfl e_⟩
            have n2_ : Aside0 (Below w.heap.size w w23) := ⟨sC_below GE327.out HB.out e_⟩
            (try clear HO_11)
            (try clear BK327)
            (try clear HB)
            simp only [sC_, Nat.reduceAdd] at e_
            rw [e_]
            clear e_
            have HO_11 := n0_
            have BK327 := n1_
            have HB := n2_
            clear n0_ n1_ n2_
            replace HO_11 := ak_ (Kd.R_drew HO_11.out)
            replace BK327 := ak_ (kd_ BK327.out)
            replace HB := ak_ (bd_ HB.out)
            obtain ⟨Ao25, co25, eo25⟩ := Kd.R_slice HO_11.out
            (first | subst eo25 | (injection eo25 with f1_ f2_ f3_; have f4_ := f1_.symm; have f5_ := f3_.symm; clear f1_ f2_ f3_; subst f4_; subst f5_))
            have p328 : 0 ≤ (x38_2 : Int) := od_ (by first | (with_reducible assumption) | assumption)
            have q328 : x38_2 < (t321.length : Int) := od_ (by first | (with_reducible assumption) | assumption)
            obtain ⟨ad328, e328, hx328_0, hx328_1⟩ := at_T48 (Kd.R_reads' HO_11.out).2.2 x38_2 p328 q328
            cases e328
            replace p328 := eq_true p328
            replace q328 := eq_true q328
            refine start_ (n := 25) (S := fun w' => w'.cell? ⟨gb327, 0, none⟩ = some (.int .u64 ((rd_T50 l4 x38_2).f0.f0)) ∧ w'.cell? ⟨gb327, 1, none⟩ = some (.int .u64 ((rd_T50 l4 x38_2).f0.f1)) ∧ w'.cell? ⟨gb327, 2, none⟩ = some (.bool ((rd_T50 l4 x38_2).f1.f0)) ∧ w'.cell? ⟨gb327, 3, none⟩ = some (.bool ((rd_T50 l4 x38_2).f1.f1)) ∧ w'.cell? ⟨gb327, 4, none⟩ = some (.int .u64 ((rd_T50 l4 x38_2).f1.f2.f0)) ∧ w'.cell? ⟨gb327, 5, none⟩ = some (.int .u64 ((rd_T50 l4 x38_2).f1.f2.f1)) ∧ w'.cell? ⟨gb327, 6, none⟩ = some (.int .u64 ((rd_T50 l4 x38_2).f1.f3.f0.f0)) ∧ w'.cell? ⟨gb327, 7, none⟩ = some (.int .u64 ((rd_T50 l4 x38_2).f1.f3.f0.f1)) ∧ w'.cell? ⟨gb327, 8, none⟩ = some (.int .u64 ((rd_T50 l4 x38_2).f1.f3.f1.f0)) ∧ w'.cell? ⟨gb327, 9, none⟩ = some (.int .u64 ((rd_T50 l4 x38_2).f1.f3.f1.f1)) ∧ w'.cell? ⟨gb327, 10, none⟩ = some (.int .i64 ((rd_T50 l4 x38_2).f1.f4)) ∧ w'.cell? (ad328.add ((x38_2).toNat * 2)) = some (.int .u64 ((rd_T48 t321 x38_2).f0)) ∧ w'.cell? ⟨(ad328.add ((x38_2).toNat * 2)).block, (ad328.add ((x38_2).toNat * 2)).off + 1, none⟩ = some (.int .u64 ((rd_T48 t321 x38_2).f1))) (ds := []) #[false, false, false, false, false, false, false, false, false, false, false, false, false, false, false, false, false, false, false, false, false, false, false, false, false] (by kernel_rfl) rfl rfl ⟨kq_ BK327.out 0 rfl, kq_ BK327.out 1 rfl, kq_ BK327.out 2 rfl, kq_ BK327.out 3 rfl, kq_ BK327.out 4 rfl, kq_ BK327.out 5 rfl, kq_ BK327.out 6 rfl, kq_ BK327.out 7 rfl, kq_ BK327.out 8 rfl, kq_ BK327.out 9 rfl, kq_ BK327.out 10 rfl, hx328_0, hx328_1⟩ (fun hHeld => ?_); refine with_tabW store_Check.tab7 store_Check.bits7 (fun HT_ HW_ => ?_)
            generalize w23.drew = w24 at HO_11 BK327 HB hx328_0 hx328_1 hHeld ⊢
            refine pu_ HT_ 0 (some 43) (bA7 1 25) ?_
            refine pu_ HT_ 2 (some 45) #[true, false, true, false, false, false, false, false, false, false, false, false, false, false, false, false, false, false, false, false, false, false, false, false, false] ?_
            refine pu_ HT_ 3 (some 46) #[true, false, true, true, false, false, false, false, false, false, false, false, false, false, false, false, false, false, false, false, false, false, false, false, false] ?_
            refine pu_ HT_ 4 (some 47) #[true, false, true, true, true, false, false, false, false, false, false, false, false, false, false, false, false, false, false, false, false, false, false, false, false] ?_
            refine tk_ HT_ HW_ hHeld 1 (some 44) (bA7 5 25) rfl (by rintro w' ⟨s0, s1, s2, s3, s4, s5, s6, s7, s8, s9, s10, s11, s12⟩; go_simp; with_reducible rfl) ?_
            refine tk_ HT_ HW_ hHeld 5 (some 48) (bA7 6 25) rfl (by rintro w' ⟨s0, s1, s2, s3, s4, s5, s6, s7, s8, s9, s10, s11, s12⟩; go_simp; with_reducible rfl) ?_
            refine pu_ HT_ 6 (some 49) (bA7 7 25) ?_
            refine pu_ HT_ 7 (some 50) (bA7 8 25) ?_
            refine pn_ HT_ 8 (some 51) (bA7 9 25) ?_
            refine pn_ HT_ 9 (some 52) (bA7 10 25) ?_
            refine pn_ HT_ 10 (some 53) (bA7 11 25) ?_
            refine pn_ HT_ 11 (some 54) (bA7 12 25) ?_
            refine pn_ HT_ 12 (some 55) (bA7 13 25) ?_
            refine pu_ HT_ 13 (some 56) (bA7 14 25) ?_
            refine pu_ HT_ 14 (some 57) (bA7 15 25) ?_
            refine pn_ HT_ 15 (some 58) (bA7 16 25) ?_
            refine pn_ HT_ 16 (some 59) (bA7 17 25) ?_
            refine pn_ HT_ 17 (some 60) (bA7 18 25) ?_
            refine pn_ HT_ 18 (some 61) (bA7 19 25) ?_
            refine pn_ HT_ 19 (some 62) (bA7 20 25) ?_
            refine pn_ HT_ 20 (some 63) (bA7 21 25) ?_
            refine pn_ HT_ 21 (some 64) (bA7 22 25) ?_
            refine pn_ HT_ 22 (some 65) (bA7 23 25) ?_
            refine pn_ HT_ 23 (some 66) (bA7 24 25) ?_
            refine pu_ HT_ 24 (some 67) (bA7 25 25) ?_
            refine done_ (done_of HT_.out (by kernel_rfl)) ?_
            try go_wp2
            go_ret
            exact ea_ (bw1_ HB GE327)
           ·rw [if_neg c20] at H
            have c20b0 : (!(((rd_T50 l4 x38_2).f0.f0) == ((rd_T48 t321 x38_2).f0)) || (!(((rd_T50 l4 x38_2).f0.f1) == ((rd_T48 t321 x38_2).f1)))) = false := by simpa using c20
            clear c20
            replace H := bind_eq_some_iff.mp H
            obtain ⟨t329, A260, H⟩ := H
            replace H : (if t329 = true then (if 0 < (l4.length : Int) then (if (((rd_T50 l4 x38_2).f1.f0) != ((rd_T50 l4 0).f1.f0)) = true then (some 1) else (store_Check.l0 k2 l0 l4 t321 l4 (l4.length : Int) (wrap64 (x38_2 + 1)))) else (none)) else (some 1)) = some r := H
            have A26 := ak_ A260
            clear A260
            by_cases c27 : t329 = true
            ·subst c27
             have H1 : (if 0 < (l4.length : Int) then (if (((rd_T50 l4 x38_2).f1.f0) != ((rd_T50 l4 0).f1.f0)) = true then (some 1) else (store_Check.l0 k2 l0 l4 t321 l4 (l4.length : Int) (wrap64 (x38_2 + 1)))) else (none)) = some r := by rw [if_pos rfl] at H; exact H
             clear H
             have H := H1
             clear H1
             by_cases c28 : 0 < (l4.length : Int)
             ·rw [if_pos c28] at H
              have c28b0 := decide_eq_true c28
              have c28b1 : decide (0 < l4.length) = true := decide_eq_true (by omega)
              clear c28
              by_cases c29 : (((rd_T50 l4 x38_2).f1.f0) != ((rd_T50 l4 0).f1.f0)) = true
              ·rw [if_pos c29] at H
               have c29b0 : (((rd_T50 l4 x38_2).f1.f0) != ((rd_T50 l4 0).f1.f0)) = true := c29
               (try (have c29b1 : decide (((rd_T50 l4 x38_2).f1.f0) = ((rd_T50 l4 0).f1.f0)) = false := by simpa using c29))
               (try (have c29b2 : (((rd_T50 l4 x38_2).f1.f0) == ((rd_T50 l4 0).f1.f0)) = false := by simpa using c29))
               (try (have c29b3 : ¬ (((rd_T50 l4 x38_2).f1.f0) = ((rd_T50 l4 0).f1.f0)) := by simpa using c29))
               clear c29
               obtain rfl := Option.some.inj H
               have p326 : 0 ≤ (x38_2 : Int) := od_ (by first | (with_reducible assumption) | assumption)
               have q326 : x38_2 < (l4.length : Int) := od_ (by first | (with_reducible assumption) | assumption)
               obtain ⟨ad326, e326, hx326_0, hx326_1, hx326_2, hx326_3, hx326_4, hx326_5, hx326_6, hx326_7, hx326_8, hx326_9, hx326_10⟩ := at_T50 HR4.out x38_2 p326 q326
               cases e326
               replace hx326_0 := cx_ HB hx326_0
               replace hx326_1 := cx_ HB hx326_1
               replace hx326_2 := cx_ HB hx326_2
               replace hx326_3 := cx_ HB hx326_3
               replace hx326_4 := cx_ HB hx326_4
               replace hx326_5 := cx_ HB hx326_5
               replace hx326_6 := cx_ HB hx326_6
               replace hx326_7 := cx_ HB hx326_7
               replace hx326_8 := cx_ HB hx326_8
               replace hx326_9 := cx_ HB hx326_9
               replace hx326_10 := cx_ HB hx326_10
               replace p326 := eq_true p326
               replace q326 := eq_true q326
               try go_wp2_with (first | ((with_reducible refine gate_dst (N := 14) rfl ?_); (try (refine gate_guard (by rfl) ?_; dsimp only)); refine bx_ 14 #[.int .u64 0, .int .u64 0, .bool false, .bool false, .int .u64 0, .int .u64 0, .int .u64 0, .int .u64 0, .int .u64 0, .int .u64 0, .int .i64 0] 50 ?_; intro gb327 hg w30 hbox hb; replace HO_11 := ak_ (Kd.R_below (rl_ HO_11) hb); have BK327 := ak_ hbox; have GW327 := ak_ (gs_ hg HB); have GE327 := ak_ (gs_ hg HB); replace HB := ak_ (bt_ (bl_ HB) hb); clear hb hbox hg; obtain ⟨hcz31_0, hcz31_1, hcz31_2, hcz31_3, hcz31_4, hcz31_5, hcz31_6, hcz31_7, hcz31_8, hcz31_9, hcz31_10, hfz31_0, hfz31_1, hfz31_2, hfz31_3, hfz31_4, hfz31_5, hfz31_6, hfz31_7, hfz31_8, hfz31_9, hfz31_10⟩ := kc11_ BK327.out))
               obtain ⟨w32, e_⟩ : ∃ w_, sC_ gb327 0 [.int .u64 ((rd_T50 l4 x38_2).f0.f0), .int .u64 ((rd_T50 l4 x38_2).f0.f1), .bool ((rd_T50 l4 x38_2).f1.f0), .bool ((rd_T50 l4 x38_2).f1.f1), .int .u64 ((rd_T50 l4 x38_2).f1.f2.f0), .int .u64 ((rd_T50 l4 x38_2).f1.f2.f1), .int .u64 ((rd_T50 l4 x38_2).f1.f3.f0.f0), .int .u64 ((rd_T50 l4 x38_2).f1.f3.f0.f1), .int .u64 ((rd_T50 l4 x38_2).f1.f3.f1.f0), .int .u64 ((rd_T50 l4 x38_2).f1.f3.f1.f1), .int .i64 ((rd_T50 l4 x38_2).f1.f4)] w30 = w_ := ⟨_, rfl⟩
               have n0_ : Aside0 (Kd.R k48 48 w32 w.heap.size (fun _ => True) v323 t321) := ⟨Kd.R_mono (sC_far (Kd.R_types HO_11.out BK327.out (by decide)) (fun _ hk => hk.2) e_) (fun _ hk => trivial)⟩
               have n1_ : Aside0 (w32.heap[gb327]? = some (.cells #[.int .u64 ((rd_T50 l4 x38_2).f0.f0), .int .u64 ((rd_T50 l4 x38_2).f0.f1), .bool ((rd_T50 l4 x38_2).f1.f0), .bool ((rd_T50 l4 x38_2).f1.f1), .int .u64 ((rd_T50 l4 x38_2).f1.f2.f0), .int .u64 ((rd_T50 l4 x38_2).f1.f2.f1), .int .u64 ((rd_T50 l4 x38_2).f1.f3.f0.f0), .int .u64 ((rd_T50 l4 x38_2).f1.f3.f0.f1), .int .u64 ((rd_T50 l4 x38_2).f1.f3.f1.f0), .int .u64 ((rd_T50 l4 x38_2).f1.f3.f1.f1), .int .i64 ((rd_T50 l4 x38_2).f1.f4)] 50 (0, 0))) := ⟨sC_blk BK327.out rfl e_⟩
               have n2_ : Aside0 (Below w.heap.size w w32) := ⟨sC_below GE327.out HB.out e_⟩
               (try clear HO_11)
               (try clear BK327)
               (try clear HB)
               simp only [sC_, Nat.reduceAdd] at e_
               rw [e_]
               clear e_
               have HO_11 := n0_
               have BK327 := n1_
               have HB := n2_
               clear n0_ n1_ n2_
               replace HO_11 := ak_ (Kd.R_drew HO_11.out)
               replace BK327 := ak_ (kd_ BK327.out)
               replace HB := ak_ (bd_ HB.out)
               obtain ⟨Ao34, co34, eo34⟩ := Kd.R_slice HO_11.out
               (first | subst eo34 | (injection eo34 with f1_ f2_ f3_; have f4_ := f1_.symm; have f5_ := f3_.symm; clear f1_ f2_ f3_; subst f4_; subst f5_))
               have p328 : 0 ≤ (x38_2 : Int) := od_ (by first | (with_reducible assumption) | assumption)
               have q328 : x38_2 < (t321.length : Int) := od_ (by first | (with_reducible assumption) | assumption)
               obtain ⟨ad328, e328, hx328_0, hx328_1⟩ := at_T48 (Kd.R_reads' HO_11.out).2.2 x38_2 p328 q328
               cases e328
               replace p328 := eq_true p328
               replace q328 := eq_true q328
               have p330 : 0 ≤ (0 : Int) := (by omega)
               have q330 : 0 < (l4.length : Int) := od_ (by first | (with_reducible assumption) | assumption)
               obtain ⟨ad330, e330, hx330_0, hx330_1, hx330_2, hx330_3, hx330_4, hx330_5, hx330_6, hx330_7, hx330_8, hx330_9, hx330_10⟩ := at_T50 HR4.out 0 p330 q330
               have hw330_10 := hx330_10
               (try rw [show ((0 : Int)).toNat = 0 from rfl] at hw330_10)
               (try rw [show 0 * 11 = 0 from rfl] at hw330_10)
               (try rw [Addr.add_zero'] at hw330_10)
               have hw330_9 := hx330_9
               (try rw [show ((0 : Int)).toNat = 0 from rfl] at hw330_9)
               (try rw [show 0 * 11 = 0 from rfl] at hw330_9)
               (try rw [Addr.add_zero'] at hw330_9)
               have hw330_8 := hx330_8
               (try rw [show ((0 : Int)).toNat = 0 from rfl] at hw330_8)
               (try rw [show 0 * 11 = 0 from rfl] at hw330_8)
               (try rw [Addr.add_zero'] at hw330_8)
               have hw330_7 := hx330_7
               (try rw [show ((0 : Int)).toNat = 0 from rfl] at hw330_7)
               (try rw [show 0 * 11 = 0 from rfl] at hw330_7)
               (try rw [Addr.add_zero'] at hw330_7)
               have hw330_6 := hx330_6
               (try rw [show ((0 : Int)).toNat = 0 from rfl] at hw330_6)
               (try rw [show 0 * 11 = 0 from rfl] at hw330_6)
               (try rw [Addr.add_zero'] at hw330_6)
               have hw330_5 := hx330_5
               (try rw [show ((0 : Int)).toNat = 0 from rfl] at hw330_5)
               (try rw [show 0 * 11 = 0 from rfl] at hw330_5)
               (try rw [Addr.add_zero'] at hw330_5)
               have hw330_4 := hx330_4
               (try rw [show ((0 : Int)).toNat = 0 from rfl] at hw330_4)
               (try rw [show 0 * 11 = 0 from rfl] at hw330_4)
               (try rw [Addr.add_zero'] at hw330_4)
               have hw330_3 := hx330_3
               (try rw [show ((0 : Int)).toNat = 0 from rfl] at hw330_3)
               (try rw [show 0 * 11 = 0 from rfl] at hw330_3)
               (try rw [Addr.add_zero'] at hw330_3)
               have hw330_2 := hx330_2
               (try rw [show ((0 : Int)).toNat = 0 from rfl] at hw330_2)
               (try rw [show 0 * 11 = 0 from rfl] at hw330_2)
               (try rw [Addr.add_zero'] at hw330_2)
               have hw330_1 := hx330_1
               (try rw [show ((0 : Int)).toNat = 0 from rfl] at hw330_1)
               (try rw [show 0 * 11 = 0 from rfl] at hw330_1)
               (try rw [Addr.add_zero'] at hw330_1)
               have hw330_0 := hx330_0
               (try rw [show ((0 : Int)).toNat = 0 from rfl] at hw330_0)
               (try rw [show 0 * 11 = 0 from rfl] at hw330_0)
               (try rw [Addr.add_zero'] at hw330_0)
               obtain rfl : ad326 = ad330 := (by injection e330)
               have qi330 : (0 < l4.length) = True := eq_true (by omega)
               (try rw [show ((0 : Int)).toNat = 0 from rfl] at hx330_0)
               (try rw [show 0 * 11 = 0 from rfl] at hx330_0)
               (try rw [Addr.add_zero'] at hx330_0)
               (try rw [show ((0 : Int)).toNat = 0 from rfl] at hx330_1)
               (try rw [show 0 * 11 = 0 from rfl] at hx330_1)
               (try rw [Addr.add_zero'] at hx330_1)
               (try rw [show ((0 : Int)).toNat = 0 from rfl] at hx330_2)
               (try rw [show 0 * 11 = 0 from rfl] at hx330_2)
               (try rw [Addr.add_zero'] at hx330_2)
               (try rw [show ((0 : Int)).toNat = 0 from rfl] at hx330_3)
               (try rw [show 0 * 11 = 0 from rfl] at hx330_3)
               (try rw [Addr.add_zero'] at hx330_3)
               (try rw [show ((0 : Int)).toNat = 0 from rfl] at hx330_4)
               (try rw [show 0 * 11 = 0 from rfl] at hx330_4)
               (try rw [Addr.add_zero'] at hx330_4)
               (try rw [show ((0 : Int)).toNat = 0 from rfl] at hx330_5)
               (try rw [show 0 * 11 = 0 from rfl] at hx330_5)
               (try rw [Addr.add_zero'] at hx330_5)
               (try rw [show ((0 : Int)).toNat = 0 from rfl] at hx330_6)
               (try rw [show 0 * 11 = 0 from rfl] at hx330_6)
               (try rw [Addr.add_zero'] at hx330_6)
               (try rw [show ((0 : Int)).toNat = 0 from rfl] at hx330_7)
               (try rw [show 0 * 11 = 0 from rfl] at hx330_7)
               (try rw [Addr.add_zero'] at hx330_7)
               (try rw [show ((0 : Int)).toNat = 0 from rfl] at hx330_8)
               (try rw [show 0 * 11 = 0 from rfl] at hx330_8)
               (try rw [Addr.add_zero'] at hx330_8)
               (try rw [show ((0 : Int)).toNat = 0 from rfl] at hx330_9)
               (try rw [show 0 * 11 = 0 from rfl] at hx330_9)
               (try rw [Addr.add_zero'] at hx330_9)
               (try rw [show ((0 : Int)).toNat = 0 from rfl] at hx330_10)
               (try rw [show 0 * 11 = 0 from rfl] at hx330_10)
               (try rw [Addr.add_zero'] at hx330_10)
               replace hx330_0 := cx_ HB hx330_0
               replace hx330_1 := cx_ HB hx330_1
               replace hx330_2 := cx_ HB hx330_2
               replace hx330_3 := cx_ HB hx330_3
               replace hx330_4 := cx_ HB hx330_4
               replace hx330_5 := cx_ HB hx330_5
               replace hx330_6 := cx_ HB hx330_6
               replace hx330_7 := cx_ HB hx330_7
               replace hx330_8 := cx_ HB hx330_8
               replace hx330_9 := cx_ HB hx330_9
               replace hx330_10 := cx_ HB hx330_10
               replace p330 := eq_true p330
               replace q330 := eq_true q330
               refine start_ (n := 25) (S := fun w' => w'.cell? ⟨gb327, 0, none⟩ = some (.int .u64 ((rd_T50 l4 x38_2).f0.f0)) ∧ w'.cell? ⟨gb327, 1, none⟩ = some (.int .u64 ((rd_T50 l4 x38_2).f0.f1)) ∧ w'.cell? ⟨gb327, 2, none⟩ = some (.bool ((rd_T50 l4 x38_2).f1.f0)) ∧ w'.cell? ⟨gb327, 3, none⟩ = some (.bool ((rd_T50 l4 x38_2).f1.f1)) ∧ w'.cell? ⟨gb327, 4, none⟩ = some (.int .u64 ((rd_T50 l4 x38_2).f1.f2.f0)) ∧ w'.cell? ⟨gb327, 5, none⟩ = some (.int .u64 ((rd_T50 l4 x38_2).f1.f2.f1)) ∧ w'.cell? ⟨gb327, 6, none⟩ = some (.int .u64 ((rd_T50 l4 x38_2).f1.f3.f0.f0)) ∧ w'.cell? ⟨gb327, 7, none⟩ = some (.int .u64 ((rd_T50 l4 x38_2).f1.f3.f0.f1)) ∧ w'.cell? ⟨gb327, 8, none⟩ = some (.int .u64 ((rd_T50 l4 x38_2).f1.f3.f1.f0)) ∧ w'.cell? ⟨gb327, 9, none⟩ = some (.int .u64 ((rd_T50 l4 x38_2).f1.f3.f1.f1)) ∧ w'.cell? ⟨gb327, 10, none⟩ = some (.int .i64 ((rd_T50 l4 x38_2).f1.f4)) ∧ w'.cell? (ad328.add ((x38_2).toNat * 2)) = some (.int .u64 ((rd_T48 t321 x38_2).f0)) ∧ w'.cell? ⟨(ad328.add ((x38_2).toNat * 2)).block, (ad328.add ((x38_2).toNat * 2)).off + 1, none⟩ = some (.int .u64 ((rd_T48 t321 x38_2).f1)) ∧ w'.cell? ad326 = some (.int .u64 ((rd_T50 l4 0).f0.f0)) ∧ w'.cell? ⟨ad326.block, ad326.off + 1, none⟩ = some (.int .u64 ((rd_T50 l4 0).f0.f1)) ∧ w'.cell? ⟨ad326.block, ad326.off + 2, none⟩ = some (.bool ((rd_T50 l4 0).f1.f0)) ∧ w'.cell? ⟨ad326.block, ad326.off + 3, none⟩ = some (.bool ((rd_T50 l4 0).f1.f1)) ∧ w'.cell? ⟨ad326.block, ad326.off + 4, none⟩ = some (.int .u64 ((rd_T50 l4 0).f1.f2.f0)) ∧ w'.cell? ⟨ad326.block, ad326.off + 5, none⟩ = some (.int .u64 ((rd_T50 l4 0).f1.f2.f1)) ∧ w'.cell? ⟨ad326.block, ad326.off + 6, none⟩ = some (.int .u64 ((rd_T50 l4 0).f1.f3.f0.f0)) ∧ w'.cell? ⟨ad326.block, ad326.off + 7, none⟩ = some (.int .u64 ((rd_T50 l4 0).f1.f3.f0.f1)) ∧ w'.cell? ⟨ad326.block, ad326.off + 8, none⟩ = some (.int .u64 ((rd_T50 l4 0).f1.f3.f1.f0)) ∧ w'.cell? ⟨ad326.block, ad326.off + 9, none⟩ = some (.int .u64 ((rd_T50 l4 0).f1.f3.f1.f1)) ∧ w'.cell? ⟨ad326.block, ad326.off + 10, none⟩ = some (.int .i64 ((rd_T50 l4 0).f1.f4))) (ds := []) #[false, false, false, false, false, false, false, false, false, false, false, false, false, false, false, false, false, false, false, false, false, false, false, false, false] (by kernel_rfl) rfl rfl ⟨kq_ BK327.out 0 rfl, kq_ BK327.out 1 rfl, kq_ BK327.out 2 rfl, kq_ BK327.out 3 rfl, kq_ BK327.out 4 rfl, kq_ BK327.out 5 rfl, kq_ BK327.out 6 rfl, kq_ BK327.out 7 rfl, kq_ BK327.out 8 rfl, kq_ BK327.out 9 rfl, kq_ BK327.out 10 rfl, hx328_0, hx328_1, ((HB.out.cell (World.block_lt_of_cell? w _ hw330_0)).trans hw330_0), ((HB.out.cell (World.block_lt_of_cell? w _ hw330_1)).trans hw330_1), ((HB.out.cell (World.block_lt_of_cell? w _ hw330_2)).trans hw330_2), ((HB.out.cell (World.block_lt_of_cell? w _ hw330_3)).trans hw330_3), ((HB.out.cell (World.block_lt_of_cell? w _ hw330_4)).trans hw330_4), ((HB.out.cell (World.block_lt_of_cell? w _ hw330_5)).trans hw330_5), ((HB.out.cell (World.block_lt_of_cell? w _ hw330_6)).trans hw330_6), ((HB.out.cell (World.block_lt_of_cell? w _ hw330_7)).trans hw330_7), ((HB.out.cell (World.block_lt_of_cell? w _ hw330_8)).trans hw330_8), ((HB.out.cell (World.block_lt_of_cell? w _ hw330_9)).trans hw330_9), ((HB.out.cell (World.block_lt_of_cell? w _ hw330_10)).trans hw330_10)⟩ (fun hHeld => ?_); refine with_tabW store_Check.tab7 store_Check.bits7 (fun HT_ HW_ => ?_)
               generalize w32.drew = w33 at HO_11 BK327 HB hx328_0 hx328_1 hx330_0 hx330_1 hx330_10 hx330_2 hx330_3 hx330_4 hx330_5 hx330_6 hx330_7 hx330_8 hx330_9 hHeld ⊢
               refine pu_ HT_ 0 (some 43) (bA7 1 25) ?_
               refine pu_ HT_ 2 (some 45) #[true, false, true, false, false, false, false, false, false, false, false, false, false, false, false, false, false, false, false, false, false, false, false, false, false] ?_
               refine pu_ HT_ 3 (some 46) #[true, false, true, true, false, false, false, false, false, false, false, false, false, false, false, false, false, false, false, false, false, false, false, false, false] ?_
               refine pu_ HT_ 4 (some 47) #[true, false, true, true, true, false, false, false, false, false, false, false, false, false, false, false, false, false, false, false, false, false, false, false, false] ?_
               refine tk_ HT_ HW_ hHeld 1 (some 44) (bA7 5 25) rfl (by rintro w' ⟨s0, s1, s2, s3, s4, s5, s6, s7, s8, s9, s10, s11, s12, s13, s14, s15, s16, s17, s18, s19, s20, s21, s22, s23⟩; go_simp; with_reducible rfl) ?_
               refine tk_ HT_ HW_ hHeld 5 (some 48) (bA7 6 25) rfl (by rintro w' ⟨s0, s1, s2, s3, s4, s5, s6, s7, s8, s9, s10, s11, s12, s13, s14, s15, s16, s17, s18, s19, s20, s21, s22, s23⟩; go_simp; with_reducible rfl) ?_
               refine pu_ HT_ 6 (some 49) (bA7 7 25) ?_
               refine pu_ HT_ 7 (some 50) (bA7 8 25) ?_
               refine pu_ HT_ 8 (some 51) (bA7 9 25) ?_
               refine pu_ HT_ 9 (some 52) (bA7 10 25) ?_
               refine tk_ HT_ HW_ hHeld 10 (some 53) (bA7 11 25) rfl (by rintro w' ⟨s0, s1, s2, s3, s4, s5, s6, s7, s8, s9, s10, s11, s12, s13, s14, s15, s16, s17, s18, s19, s20, s21, s22, s23⟩; go_simp; with_reducible rfl) ?_
               refine one_ (i := 11) (N := some 54) (bA7 12 25) rfl rfl (one_of HT_.out (by kernel_rfl)) (by decide) (fun K hK => ?_)
               refine gg_ func35 #[.slice A0 l0.length c0, .agg #[.bool ((rd_T50 l4 x38_2).f1.f0), .bool ((rd_T50 l4 x38_2).f1.f1), .int .u64 ((rd_T50 l4 x38_2).f1.f2.f0), .int .u64 ((rd_T50 l4 x38_2).f1.f2.f1), .int .u64 ((rd_T50 l4 x38_2).f1.f3.f0.f0), .int .u64 ((rd_T50 l4 x38_2).f1.f3.f0.f1), .int .u64 ((rd_T50 l4 x38_2).f1.f3.f1.f0), .int .u64 ((rd_T50 l4 x38_2).f1.f3.f1.f1), .int .i64 ((rd_T50 l4 x38_2).f1.f4)]] ?_
               with_reducible refine (store_open.calls k2 _ _ l0 ((rd_T50 l4 x38_2).f1.f0) ((rd_T50 l4 x38_2).f1.f1) ((rd_T50 l4 x38_2).f1.f2.f0) ((rd_T50 l4 x38_2).f1.f2.f1) ((rd_T50 l4 x38_2).f1.f3.f0.f0) ((rd_T50 l4 x38_2).f1.f3.f0.f1) ((rd_T50 l4 x38_2).f1.f3.f1.f0) ((rd_T50 l4 x38_2).f1.f3.f1.f1) ((rd_T50 l4 x38_2).f1.f4) true _ ?side1 ?side2 A26.out).mono ?_
               (case side1 => repeat (first | exact (Kd.C_below HR0.out HB.out) | (with_reducible refine Kd.C_alloc ?_ _) | (with_reducible refine Kd.C_drewN ?_ _) | (with_reducible refine Kd.C_drew ?_)))
               (case side2 => exact HC0.out)
               rintro e w35 ⟨rfl, hb⟩
               have HS11_ := (hb.cell (World.block_lt_of_cell? _ _ (hHeld.2.2.2.2.2.2.2.2.2.2.2.1))).trans (hHeld.2.2.2.2.2.2.2.2.2.2.2.1)
               have HS12_ := (hb.cell (World.block_lt_of_cell? _ _ (hHeld.2.2.2.2.2.2.2.2.2.2.2.2.1))).trans (hHeld.2.2.2.2.2.2.2.2.2.2.2.2.1)
               refine ⟨_, rfl, ?_⟩
               replace HO_11 := ak_ (Kd.R_below (rl_ HO_11) hb)
               replace BK327 := ak_ (kb_ (kl_ BK327) hb)
               replace HB := ak_ (bt_ (bw1_ HB GE327) hb)
               (try clear hb)
               (try clear hb2)
               (try clear hk)
               (try clear hi)
               refine hK.out _ _ ⟨kq_ BK327.out 0 rfl, kq_ BK327.out 1 rfl, kq_ BK327.out 2 rfl, kq_ BK327.out 3 rfl, kq_ BK327.out 4 rfl, kq_ BK327.out 5 rfl, kq_ BK327.out 6 rfl, kq_ BK327.out 7 rfl, kq_ BK327.out 8 rfl, kq_ BK327.out 9 rfl, kq_ BK327.out 10 rfl, HS11_, HS12_, ((HB.out.cell (World.block_lt_of_cell? w _ hw330_0)).trans hw330_0), ((HB.out.cell (World.block_lt_of_cell? w _ hw330_1)).trans hw330_1), ((HB.out.cell (World.block_lt_of_cell? w _ hw330_2)).trans hw330_2), ((HB.out.cell (World.block_lt_of_cell? w _ hw330_3)).trans hw330_3), ((HB.out.cell (World.block_lt_of_cell? w _ hw330_4)).trans hw330_4), ((HB.out.cell (World.block_lt_of_cell? w _ hw330_5)).trans hw330_5), ((HB.out.cell (World.block_lt_of_cell? w _ hw330_6)).trans hw330_6), ((HB.out.cell (World.block_lt_of_cell? w _ hw330_7)).trans hw330_7), ((HB.out.cell (World.block_lt_of_cell? w _ hw330_8)).trans hw330_8), ((HB.out.cell (World.block_lt_of_cell? w _ hw330_9)).trans hw330_9), ((HB.out.cell (World.block_lt_of_cell? w _ hw330_10)).trans hw330_10)⟩ (fun hHeld => ?_)
               clear hK K
               refine norm_ (a' := ?_) ?_ ?_
               rotate_left
               ·show Act.put _ (some 54) _ = _
                simp only [Act.put, setIfInBounds_toArray, set_cons_zero, set_cons_succ, i64_w, i32_w]
                rfl
               refine pu_ HT_ 12 (some 55) (bA7 13 25) ?_
               refine pu_ HT_ 13 (some 56) (bA7 14 25) ?_
               refine pu_ HT_ 14 (some 57) (bA7 15 25) ?_
               refine pu_ HT_ 15 (some 58) (bA7 16 25) ?_
               refine pu_ HT_ 16 (some 59) (bA7 17 25) ?_
               refine pu_ HT_ 18 (some 61) #[true, true, true, true, true, true, true, true, true, true, true, true, true, true, true, true, true, false, true, false, false, false, false, false, false] ?_
               refine pu_ HT_ 19 (some 62) #[true, true, true, true, true, true, true, true, true, true, true, true, true, true, true, true, true, false, true, true, false, false, false, false, false] ?_
               refine pu_ HT_ 20 (some 63) #[true, true, true, true, true, true, true, true, true, true, true, true, true, true, true, true, true, false, true, true, true, false, false, false, false] ?_
               refine pu_ HT_ 21 (some 64) #[true, true, true, true, true, true, true, true, true, true, true, true, true, true, true, true, true, false, true, true, true, true, false, false, false] ?_
               refine tk_ HT_ HW_ hHeld 17 (some 60) (bA7 22 25) rfl (by rintro w' ⟨s0, s1, s2, s3, s4, s5, s6, s7, s8, s9, s10, s11, s12, s13, s14, s15, s16, s17, s18, s19, s20, s21, s22, s23⟩; go_simp; with_reducible rfl) ?_
               refine tk_ HT_ HW_ hHeld 22 (some 65) (bA7 23 25) rfl (by rintro w' ⟨s0, s1, s2, s3, s4, s5, s6, s7, s8, s9, s10, s11, s12, s13, s14, s15, s16, s17, s18, s19, s20, s21, s22, s23⟩; go_simp; with_reducible rfl) ?_
               refine pu_ HT_ 23 (some 66) (bA7 24 25) ?_
               refine pu_ HT_ 24 (some 67) (bA7 25 25) ?_
               refine done_ (done_of HT_.out (by kernel_rfl)) ?_
               try go_wp2
               go_ret
               exact ea_ (bw1_ HB GE327)
              ·rw [if_neg c29] at H
               have c29b0 : (((rd_T50 l4 x38_2).f1.f0) != ((rd_T50 l4 0).f1.f0)) = false := by simpa using c29
               (try (have c29b1 : decide (((rd_T50 l4 x38_2).f1.f0) = ((rd_T50 l4 0).f1.f0)) = true := by simpa using c29))
               (try (have c29b2 : (((rd_T50 l4 x38_2).f1.f0) == ((rd_T50 l4 0).f1.f0)) = true := by simpa using c29))
               clear c29
               have H' := ak_ H
               clear H
               have p326 : 0 ≤ (x38_2 : Int) := od_ (by first | (with_reducible assumption) | assumption)
               have q326 : x38_2 < (l4.length : Int) := od_ (by first | (with_reducible assumption) | assumption)
               obtain ⟨ad326, e326, hx326_0, hx326_1, hx326_2, hx326_3, hx326_4, hx326_5, hx326_6, hx326_7, hx326_8, hx326_9, hx326_10⟩ := at_T50 HR4.out x38_2 p326 q326
               cases e326
               replace hx326_0 := cx_ HB hx326_0
               replace hx326_1 := cx_ HB hx326_1
               replace hx326_2 := cx_ HB hx326_2
               replace hx326_3 := cx_ HB hx326_3
               replace hx326_4 := cx_ HB hx326_4
               replace hx326_5 := cx_ HB hx326_5
               replace hx326_6 := cx_ HB hx326_6
               replace hx326_7 := cx_ HB hx326_7
               replace hx326_8 := cx_ HB hx326_8
               replace hx326_9 := cx_ HB hx326_9
               replace hx326_10 := cx_ HB hx326_10
               replace p326 := eq_true p326
               replace q326 := eq_true q326
               try go_wp2_with (first | ((with_reducible refine gate_dst (N := 14) rfl ?_); (try (refine gate_guard (by rfl) ?_; dsimp only)); refine bx_ 14 #[.int .u64 0, .int .u64 0, .bool false, .bool false, .int .u64 0, .int .u64 0, .int .u64 0, .int .u64 0, .int .u64 0, .int .u64 0, .int .i64 0] 50 ?_; intro gb327 hg w36 hbox hb; replace HO_11 := ak_ (Kd.R_below (rl_ HO_11) hb); have BK327 := ak_ hbox; have GW327 := ak_ (gs_ hg HB); have GE327 := ak_ (gs_ hg HB); replace HB := ak_ (bt_ (bl_ HB) hb); clear hb hbox hg; obtain ⟨hcz37_0, hcz37_1, hcz37_2, hcz37_3, hcz37_4, hcz37_5, hcz37_6, hcz37_7, hcz37_8, hcz37_9, hcz37_10, hfz37_0, hfz37_1, hfz37_2, hfz37_3, hfz37_4, hfz37_5, hfz37_6, hfz37_7, hfz37_8, hfz37_9, hfz37_10⟩ := kc11_ BK327.out))
               obtain ⟨w38, e_⟩ : ∃ w_, sC_ gb327 0 [.int .u64 ((rd_T50 l4 x38_2).f0.f0), .int .u64 ((rd_T50 l4 x38_2).f0.f1), .bool ((rd_T50 l4 x38_2).f1.f0), .bool ((rd_T50 l4 x38_2).f1.f1), .int .u64 ((rd_T50 l4 x38_2).f1.f2.f0), .int .u64 ((rd_T50 l4 x38_2).f1.f2.f1), .int .u64 ((rd_T50 l4 x38_2).f1.f3.f0.f0), .int .u64 ((rd_T50 l4 x38_2).f1.f3.f0.f1), .int .u64 ((rd_T50 l4 x38_2).f1.f3.f1.f0), .int .u64 ((rd_T50 l4 x38_2).f1.f3.f1.f1), .int .i64 ((rd_T50 l4 x38_2).f1.f4)] w36 = w_ := ⟨_, rfl⟩
               have n0_ : Aside0 (Kd.R k48 48 w38 w.heap.size (fun _ => True) v323 t321) := ⟨Kd.R_mono (sC_far (Kd.R_types HO_11.out BK327.out (by decide)) (fun _ hk => hk.2) e_) (fun _ hk => trivial)⟩
               have n1_ : Aside0 (w38.heap[gb327]? = some (.cells #[.int .u64 ((rd_T50 l4 x38_2).f0.f0), .int .u64 ((rd_T50 l4 x38_2).f0.f1), .bool ((rd_T50 l4 x38_2).f1.f0), .bool ((rd_T50 l4 x38_2).f1.f1), .int .u64 ((rd_T50 l4 x38_2).f1.f2.f0), .int .u64 ((rd_T50 l4 x38_2).f1.f2.f1), .int .u64 ((rd_T50 l4 x38_2).f1.f3.f0.f0), .int .u64 ((rd_T50 l4 x38_2).f1.f3.f0.f1), .int .u64 ((rd_T50 l4 x38_2).f1.f3.f1.f0), .int .u64 ((rd_T50 l4 x38_2).f1.f3.f1.f1), .int .i64 ((rd_T50 l4 x38_2).f1.f4)] 50 (0, 0))) := ⟨sC_blk BK327.out rfl e_⟩
               have n2_ : Aside0 (Below w.heap.size w w38) := ⟨sC_below GE327.out HB.out e_⟩
               (try clear HO_11)
               (try clear BK327)
               (try clear HB)
               simp only [sC_, Nat.reduceAdd] at e_
               rw [e_]
               clear e_
               have HO_11 := n0_
               have BK327 := n1_
               have HB := n2_
               clear n0_ n1_ n2_
               replace HO_11 := ak_ (Kd.R_drew HO_11.out)
               replace BK327 := ak_ (kd_ BK327.out)
               replace HB := ak_ (bd_ HB.out)
               obtain ⟨Ao40, co40, eo40⟩ := Kd.R_slice HO_11.out
               (first | subst eo40 | (injection eo40 with f1_ f2_ f3_; have f4_ := f1_.symm; have f5_ := f3_.symm; clear f1_ f2_ f3_; subst f4_; subst f5_))
               have p328 : 0 ≤ (x38_2 : Int) := od_ (by first | (with_reducible assumption) | assumption)
               have q328 : x38_2 < (t321.length : Int) := od_ (by first | (with_reducible assumption) | assumption)
               obtain ⟨ad328, e328, hx328_0, hx328_1⟩ := at_T48 (Kd.R_reads' HO_11.out).2.2 x38_2 p328 q328
               cases e328
               replace p328 := eq_true p328
               replace q328 := eq_true q328
               have p330 : 0 ≤ (0 : Int) := (by omega)
               have q330 : 0 < (l4.length : Int) := od_ (by first | (with_reducible assumption) | assumption)
               obtain ⟨ad330, e330, hx330_0, hx330_1, hx330_2, hx330_3, hx330_4, hx330_5, hx330_6, hx330_7, hx330_8, hx330_9, hx330_10⟩ := at_T50 HR4.out 0 p330 q330
               have hw330_10 := hx330_10
               (try rw [show ((0 : Int)).toNat = 0 from rfl] at hw330_10)
               (try rw [show 0 * 11 = 0 from rfl] at hw330_10)
               (try rw [Addr.add_zero'] at hw330_10)
               have hw330_9 := hx330_9
               (try rw [show ((0 : Int)).toNat = 0 from rfl] at hw330_9)
               (try rw [show 0 * 11 = 0 from rfl] at hw330_9)
               (try rw [Addr.add_zero'] at hw330_9)
               have hw330_8 := hx330_8
               (try rw [show ((0 : Int)).toNat = 0 from rfl] at hw330_8)
               (try rw [show 0 * 11 = 0 from rfl] at hw330_8)
               (try rw [Addr.add_zero'] at hw330_8)
               have hw330_7 := hx330_7
               (try rw [show ((0 : Int)).toNat = 0 from rfl] at hw330_7)
               (try rw [show 0 * 11 = 0 from rfl] at hw330_7)
               (try rw [Addr.add_zero'] at hw330_7)
               have hw330_6 := hx330_6
               (try rw [show ((0 : Int)).toNat = 0 from rfl] at hw330_6)
               (try rw [show 0 * 11 = 0 from rfl] at hw330_6)
               (try rw [Addr.add_zero'] at hw330_6)
               have hw330_5 := hx330_5
               (try rw [show ((0 : Int)).toNat = 0 from rfl] at hw330_5)
               (try rw [show 0 * 11 = 0 from rfl] at hw330_5)
               (try rw [Addr.add_zero'] at hw330_5)
               have hw330_4 := hx330_4
               (try rw [show ((0 : Int)).toNat = 0 from rfl] at hw330_4)
               (try rw [show 0 * 11 = 0 from rfl] at hw330_4)
               (try rw [Addr.add_zero'] at hw330_4)
               have hw330_3 := hx330_3
               (try rw [show ((0 : Int)).toNat = 0 from rfl] at hw330_3)
               (try rw [show 0 * 11 = 0 from rfl] at hw330_3)
               (try rw [Addr.add_zero'] at hw330_3)
               have hw330_2 := hx330_2
               (try rw [show ((0 : Int)).toNat = 0 from rfl] at hw330_2)
               (try rw [show 0 * 11 = 0 from rfl] at hw330_2)
               (try rw [Addr.add_zero'] at hw330_2)
               have hw330_1 := hx330_1
               (try rw [show ((0 : Int)).toNat = 0 from rfl] at hw330_1)
               (try rw [show 0 * 11 = 0 from rfl] at hw330_1)
               (try rw [Addr.add_zero'] at hw330_1)
               have hw330_0 := hx330_0
               (try rw [show ((0 : Int)).toNat = 0 from rfl] at hw330_0)
               (try rw [show 0 * 11 = 0 from rfl] at hw330_0)
               (try rw [Addr.add_zero'] at hw330_0)
               obtain rfl : ad326 = ad330 := (by injection e330)
               have qi330 : (0 < l4.length) = True := eq_true (by omega)
               (try rw [show ((0 : Int)).toNat = 0 from rfl] at hx330_0)
               (try rw [show 0 * 11 = 0 from rfl] at hx330_0)
               (try rw [Addr.add_zero'] at hx330_0)
               (try rw [show ((0 : Int)).toNat = 0 from rfl] at hx330_1)
               (try rw [show 0 * 11 = 0 from rfl] at hx330_1)
               (try rw [Addr.add_zero'] at hx330_1)
               (try rw [show ((0 : Int)).toNat = 0 from rfl] at hx330_2)
               (try rw [show 0 * 11 = 0 from rfl] at hx330_2)
               (try rw [Addr.add_zero'] at hx330_2)
               (try rw [show ((0 : Int)).toNat = 0 from rfl] at hx330_3)
               (try rw [show 0 * 11 = 0 from rfl] at hx330_3)
               (try rw [Addr.add_zero'] at hx330_3)
               (try rw [show ((0 : Int)).toNat = 0 from rfl] at hx330_4)
               (try rw [show 0 * 11 = 0 from rfl] at hx330_4)
               (try rw [Addr.add_zero'] at hx330_4)
               (try rw [show ((0 : Int)).toNat = 0 from rfl] at hx330_5)
               (try rw [show 0 * 11 = 0 from rfl] at hx330_5)
               (try rw [Addr.add_zero'] at hx330_5)
               (try rw [show ((0 : Int)).toNat = 0 from rfl] at hx330_6)
               (try rw [show 0 * 11 = 0 from rfl] at hx330_6)
               (try rw [Addr.add_zero'] at hx330_6)
               (try rw [show ((0 : Int)).toNat = 0 from rfl] at hx330_7)
               (try rw [show 0 * 11 = 0 from rfl] at hx330_7)
               (try rw [Addr.add_zero'] at hx330_7)
               (try rw [show ((0 : Int)).toNat = 0 from rfl] at hx330_8)
               (try rw [show 0 * 11 = 0 from rfl] at hx330_8)
               (try rw [Addr.add_zero'] at hx330_8)
               (try rw [show ((0 : Int)).toNat = 0 from rfl] at hx330_9)
               (try rw [show 0 * 11 = 0 from rfl] at hx330_9)
               (try rw [Addr.add_zero'] at hx330_9)
               (try rw [show ((0 : Int)).toNat = 0 from rfl] at hx330_10)
               (try rw [show 0 * 11 = 0 from rfl] at hx330_10)
               (try rw [Addr.add_zero'] at hx330_10)
               replace hx330_0 := cx_ HB hx330_0
               replace hx330_1 := cx_ HB hx330_1
               replace hx330_2 := cx_ HB hx330_2
               replace hx330_3 := cx_ HB hx330_3
               replace hx330_4 := cx_ HB hx330_4
               replace hx330_5 := cx_ HB hx330_5
               replace hx330_6 := cx_ HB hx330_6
               replace hx330_7 := cx_ HB hx330_7
               replace hx330_8 := cx_ HB hx330_8
               replace hx330_9 := cx_ HB hx330_9
               replace hx330_10 := cx_ HB hx330_10
               replace p330 := eq_true p330
               replace q330 := eq_true q330
               refine start_ (n := 25) (S := fun w' => w'.cell? ⟨gb327, 0, none⟩ = some (.int .u64 ((rd_T50 l4 x38_2).f0.f0)) ∧ w'.cell? ⟨gb327, 1, none⟩ = some (.int .u64 ((rd_T50 l4 x38_2).f0.f1)) ∧ w'.cell? ⟨gb327, 2, none⟩ = some (.bool ((rd_T50 l4 x38_2).f1.f0)) ∧ w'.cell? ⟨gb327, 3, none⟩ = some (.bool ((rd_T50 l4 x38_2).f1.f1)) ∧ w'.cell? ⟨gb327, 4, none⟩ = some (.int .u64 ((rd_T50 l4 x38_2).f1.f2.f0)) ∧ w'.cell? ⟨gb327, 5, none⟩ = some (.int .u64 ((rd_T50 l4 x38_2).f1.f2.f1)) ∧ w'.cell? ⟨gb327, 6, none⟩ = some (.int .u64 ((rd_T50 l4 x38_2).f1.f3.f0.f0)) ∧ w'.cell? ⟨gb327, 7, none⟩ = some (.int .u64 ((rd_T50 l4 x38_2).f1.f3.f0.f1)) ∧ w'.cell? ⟨gb327, 8, none⟩ = some (.int .u64 ((rd_T50 l4 x38_2).f1.f3.f1.f0)) ∧ w'.cell? ⟨gb327, 9, none⟩ = some (.int .u64 ((rd_T50 l4 x38_2).f1.f3.f1.f1)) ∧ w'.cell? ⟨gb327, 10, none⟩ = some (.int .i64 ((rd_T50 l4 x38_2).f1.f4)) ∧ w'.cell? (ad328.add ((x38_2).toNat * 2)) = some (.int .u64 ((rd_T48 t321 x38_2).f0)) ∧ w'.cell? ⟨(ad328.add ((x38_2).toNat * 2)).block, (ad328.add ((x38_2).toNat * 2)).off + 1, none⟩ = some (.int .u64 ((rd_T48 t321 x38_2).f1)) ∧ w'.cell? ad326 = some (.int .u64 ((rd_T50 l4 0).f0.f0)) ∧ w'.cell? ⟨ad326.block, ad326.off + 1, none⟩ = some (.int .u64 ((rd_T50 l4 0).f0.f1)) ∧ w'.cell? ⟨ad326.block, ad326.off + 2, none⟩ = some (.bool ((rd_T50 l4 0).f1.f0)) ∧ w'.cell? ⟨ad326.block, ad326.off + 3, none⟩ = some (.bool ((rd_T50 l4 0).f1.f1)) ∧ w'.cell? ⟨ad326.block, ad326.off + 4, none⟩ = some (.int .u64 ((rd_T50 l4 0).f1.f2.f0)) ∧ w'.cell? ⟨ad326.block, ad326.off + 5, none⟩ = some (.int .u64 ((rd_T50 l4 0).f1.f2.f1)) ∧ w'.cell? ⟨ad326.block, ad326.off + 6, none⟩ = some (.int .u64 ((rd_T50 l4 0).f1.f3.f0.f0)) ∧ w'.cell? ⟨ad326.block, ad326.off + 7, none⟩ = some (.int .u64 ((rd_T50 l4 0).f1.f3.f0.f1)) ∧ w'.cell? ⟨ad326.block, ad326.off + 8, none⟩ = some (.int .u64 ((rd_T50 l4 0).f1.f3.f1.f0)) ∧ w'.cell? ⟨ad326.block, ad326.off + 9, none⟩ = some (.int .u64 ((rd_T50 l4 0).f1.f3.f1.f1)) ∧ w'.cell? ⟨ad326.block, ad326.off + 10, none⟩ = some (.int .i64 ((rd_T50 l4 0).f1.f4))) (ds := []) #[false, false, false, false, false, false, false, false, false, false, false, false, false, false, false, false, false, false, false, false, false, false, false, false, false] (by kernel_rfl) rfl rfl ⟨kq_ BK327.out 0 rfl, kq_ BK327.out 1 rfl, kq_ BK327.out 2 rfl, kq_ BK327.out 3 rfl, kq_ BK327.out 4 rfl, kq_ BK327.out 5 rfl, kq_ BK327.out 6 rfl, kq_ BK327.out 7 rfl, kq_ BK327.out 8 rfl, kq_ BK327.out 9 rfl, kq_ BK327.out 10 rfl, hx328_0, hx328_1, ((HB.out.cell (World.block_lt_of_cell? w _ hw330_0)).trans hw330_0), ((HB.out.cell (World.block_lt_of_cell? w _ hw330_1)).trans hw330_1), ((HB.out.cell (World.block_lt_of_cell? w _ hw330_2)).trans hw330_2), ((HB.out.cell (World.block_lt_of_cell? w _ hw330_3)).trans hw330_3), ((HB.out.cell (World.block_lt_of_cell? w _ hw330_4)).trans hw330_4), ((HB.out.cell (World.block_lt_of_cell? w _ hw330_5)).trans hw330_5), ((HB.out.cell (World.block_lt_of_cell? w _ hw330_6)).trans hw330_6), ((HB.out.cell (World.block_lt_of_cell? w _ hw330_7)).trans hw330_7), ((HB.out.cell (World.block_lt_of_cell? w _ hw330_8)).trans hw330_8), ((HB.out.cell (World.block_lt_of_cell? w _ hw330_9)).trans hw330_9), ((HB.out.cell (World.block_lt_of_cell? w _ hw330_10)).trans hw330_10)⟩ (fun hHeld => ?_); refine with_tabW store_Check.tab7 store_Check.bits7 (fun HT_ HW_ => ?_)
               generalize w38.drew = w39 at HO_11 BK327 HB hx328_0 hx328_1 hx330_0 hx330_1 hx330_10 hx330_2 hx330_3 hx330_4 hx330_5 hx330_6 hx330_7 hx330_8 hx330_9 hHeld ⊢
               refine pu_ HT_ 0 (some 43) (bA7 1 25) ?_
               refine pu_ HT_ 2 (some 45) #[true, false, true, false, false, false, false, false, false, false, false, false, false, false, false, false, false, false, false, false, false, false, false, false, false] ?_
               refine pu_ HT_ 3 (some 46) #[true, false, true, true, false, false, false, false, false, false, false, false, false, false, false, false, false, false, false, false, false, false, false, false, false] ?_
               refine pu_ HT_ 4 (some 47) #[true, false, true, true, true, false, false, false, false, false, false, false, false, false, false, false, false, false, false, false, false, false, false, false, false] ?_
               refine tk_ HT_ HW_ hHeld 1 (some 44) (bA7 5 25) rfl (by rintro w' ⟨s0, s1, s2, s3, s4, s5, s6, s7, s8, s9, s10, s11, s12, s13, s14, s15, s16, s17, s18, s19, s20, s21, s22, s23⟩; go_simp; with_reducible rfl) ?_
               refine tk_ HT_ HW_ hHeld 5 (some 48) (bA7 6 25) rfl (by rintro w' ⟨s0, s1, s2, s3, s4, s5, s6, s7, s8, s9, s10, s11, s12, s13, s14, s15, s16, s17, s18, s19, s20, s21, s22, s23⟩; go_simp; with_reducible rfl) ?_
               refine pu_ HT_ 6 (some 49) (bA7 7 25) ?_
               refine pu_ HT_ 7 (some 50) (bA7 8 25) ?_
               refine pu_ HT_ 8 (some 51) (bA7 9 25) ?_
               refine pu_ HT_ 9 (some 52) (bA7 10 25) ?_
               refine tk_ HT_ HW_ hHeld 10 (some 53) (bA7 11 25) rfl (by rintro w' ⟨s0, s1, s2, s3, s4, s5, s6, s7, s8, s9, s10, s11, s12, s13, s14, s15, s16, s17, s18, s19, s20, s21, s22, s23⟩; go_simp; with_reducible rfl) ?_
               refine one_ (i := 11) (N := some 54) (bA7 12 25) rfl rfl (one_of HT_.out (by kernel_rfl)) (by decide) (fun K hK => ?_)
               refine gg_ func35 #[.slice A0 l0.length c0, .agg #[.bool ((rd_T50 l4 x38_2).f1.f0), .bool ((rd_T50 l4 x38_2).f1.f1), .int .u64 ((rd_T50 l4 x38_2).f1.f2.f0), .int .u64 ((rd_T50 l4 x38_2).f1.f2.f1), .int .u64 ((rd_T50 l4 x38_2).f1.f3.f0.f0), .int .u64 ((rd_T50 l4 x38_2).f1.f3.f0.f1), .int .u64 ((rd_T50 l4 x38_2).f1.f3.f1.f0), .int .u64 ((rd_T50 l4 x38_2).f1.f3.f1.f1), .int .i64 ((rd_T50 l4 x38_2).f1.f4)]] ?_
               with_reducible refine (store_open.calls k2 _ _ l0 ((rd_T50 l4 x38_2).f1.f0) ((rd_T50 l4 x38_2).f1.f1) ((rd_T50 l4 x38_2).f1.f2.f0) ((rd_T50 l4 x38_2).f1.f2.f1) ((rd_T50 l4 x38_2).f1.f3.f0.f0) ((rd_T50 l4 x38_2).f1.f3.f0.f1) ((rd_T50 l4 x38_2).f1.f3.f1.f0) ((rd_T50 l4 x38_2).f1.f3.f1.f1) ((rd_T50 l4 x38_2).f1.f4) true _ ?side1 ?side2 A26.out).mono ?_
               (case side1 => repeat (first | exact (Kd.C_below HR0.out HB.out) | (with_reducible refine Kd.C_alloc ?_ _) | (with_reducible refine Kd.C_drewN ?_ _) | (with_reducible refine Kd.C_drew ?_)))
               (case side2 => exact HC0.out)
               rintro e w41 ⟨rfl, hb⟩
               have HS11_ := (hb.cell (World.block_lt_of_cell? _ _ (hHeld.2.2.2.2.2.2.2.2.2.2.2.1))).trans (hHeld.2.2.2.2.2.2.2.2.2.2.2.1)
               have HS12_ := (hb.cell (World.block_lt_of_cell? _ _ (hHeld.2.2.2.2.2.2.2.2.2.2.2.2.1))).trans (hHeld.2.2.2.2.2.2.2.2.2.2.2.2.1)
               refine ⟨_, rfl, ?_⟩
               replace HO_11 := ak_ (Kd.R_below (rl_ HO_11) hb)
               replace BK327 := ak_ (kb_ (kl_ BK327) hb)
               replace HB := ak_ (bt_ (bw1_ HB GE327) hb)
               (try clear hb)
               (try clear hb2)
               (try clear hk)
               (try clear hi)
               refine hK.out _ _ ⟨kq_ BK327.out 0 rfl, kq_ BK327.out 1 rfl, kq_ BK327.out 2 rfl, kq_ BK327.out 3 rfl, kq_ BK327.out 4 rfl, kq_ BK327.out 5 rfl, kq_ BK327.out 6 rfl, kq_ BK327.out 7 rfl, kq_ BK327.out 8 rfl, kq_ BK327.out 9 rfl, kq_ BK327.out 10 rfl, HS11_, HS12_, ((HB.out.cell (World.block_lt_of_cell? w _ hw330_0)).trans hw330_0), ((HB.out.cell (World.block_lt_of_cell? w _ hw330_1)).trans hw330_1), ((HB.out.cell (World.block_lt_of_cell? w _ hw330_2)).trans hw330_2), ((HB.out.cell (World.block_lt_of_cell? w _ hw330_3)).trans hw330_3), ((HB.out.cell (World.block_lt_of_cell? w _ hw330_4)).trans hw330_4), ((HB.out.cell (World.block_lt_of_cell? w _ hw330_5)).trans hw330_5), ((HB.out.cell (World.block_lt_of_cell? w _ hw330_6)).trans hw330_6), ((HB.out.cell (World.block_lt_of_cell? w _ hw330_7)).trans hw330_7), ((HB.out.cell (World.block_lt_of_cell? w _ hw330_8)).trans hw330_8), ((HB.out.cell (World.block_lt_of_cell? w _ hw330_9)).trans hw330_9), ((HB.out.cell (World.block_lt_of_cell? w _ hw330_10)).trans hw330_10)⟩ (fun hHeld => ?_)
               clear hK K
               refine norm_ (a' := ?_) ?_ ?_
               rotate_left
               ·show Act.put _ (some 54) _ = _
                simp only [Act.put, setIfInBounds_toArray, set_cons_zero, set_cons_succ, i64_w, i32_w]
                rfl
               refine pu_ HT_ 12 (some 55) (bA7 13 25) ?_
               refine pu_ HT_ 13 (some 56) (bA7 14 25) ?_
               refine pu_ HT_ 14 (some 57) (bA7 15 25) ?_
               refine pu_ HT_ 15 (some 58) (bA7 16 25) ?_
               refine pu_ HT_ 16 (some 59) (bA7 17 25) ?_
               refine pu_ HT_ 18 (some 61) #[true, true, true, true, true, true, true, true, true, true, true, true, true, true, true, true, true, false, true, false, false, false, false, false, false] ?_
               refine pu_ HT_ 19 (some 62) #[true, true, true, true, true, true, true, true, true, true, true, true, true, true, true, true, true, false, true, true, false, false, false, false, false] ?_
               refine pu_ HT_ 20 (some 63) #[true, true, true, true, true, true, true, true, true, true, true, true, true, true, true, true, true, false, true, true, true, false, false, false, false] ?_
               refine pu_ HT_ 21 (some 64) #[true, true, true, true, true, true, true, true, true, true, true, true, true, true, true, true, true, false, true, true, true, true, false, false, false] ?_
               refine tk_ HT_ HW_ hHeld 17 (some 60) (bA7 22 25) rfl (by rintro w' ⟨s0, s1, s2, s3, s4, s5, s6, s7, s8, s9, s10, s11, s12, s13, s14, s15, s16, s17, s18, s19, s20, s21, s22, s23⟩; go_simp; with_reducible rfl) ?_
               refine tk_ HT_ HW_ hHeld 22 (some 65) (bA7 23 25) rfl (by rintro w' ⟨s0, s1, s2, s3, s4, s5, s6, s7, s8, s9, s10, s11, s12, s13, s14, s15, s16, s17, s18, s19, s20, s21, s22, s23⟩; go_simp; with_reducible rfl) ?_
               refine pu_ HT_ 23 (some 66) (bA7 24 25) ?_
               refine pu_ HT_ 24 (some 67) (bA7 25 25) ?_
               refine done_ (done_of HT_.out (by kernel_rfl)) ?_
               try go_wp2
               go_roundg k2
               case measure => have := HJ6.out; have := HK2.out; omega
               case rel => exact ⟨(wrap64 (x38_2 + 1)), rf_, H', ⟨by have := HJ6.out; have := HK2.out; omega⟩, ⟨rl_ HO_11⟩, ⟨bw1_ HB GE327⟩⟩
             ·rw [if_neg c28] at H
              exact absurd H (by simp)
            ·replace c27 := Bool.eq_false_iff.mpr c27
             subst c27
             have H1 : (some 1) = some r := by rw [if_neg (show ¬ (false = true) by decide)] at H; exact H
             clear H
             have H := H1
             clear H1
             obtain rfl := Option.some.inj H
             have p326 : 0 ≤ (x38_2 : Int) := od_ (by first | (with_reducible assumption) | assumption)
             have q326 : x38_2 < (l4.length : Int) := od_ (by first | (with_reducible assumption) | assumption)
             obtain ⟨ad326, e326, hx326_0, hx326_1, hx326_2, hx326_3, hx326_4, hx326_5, hx326_6, hx326_7, hx326_8, hx326_9, hx326_10⟩ := at_T50 HR4.out x38_2 p326 q326
             cases e326
             replace hx326_0 := cx_ HB hx326_0
             replace hx326_1 := cx_ HB hx326_1
             replace hx326_2 := cx_ HB hx326_2
             replace hx326_3 := cx_ HB hx326_3
             replace hx326_4 := cx_ HB hx326_4
             replace hx326_5 := cx_ HB hx326_5
             replace hx326_6 := cx_ HB hx326_6
             replace hx326_7 := cx_ HB hx326_7
             replace hx326_8 := cx_ HB hx326_8
             replace hx326_9 := cx_ HB hx326_9
             replace hx326_10 := cx_ HB hx326_10
             replace p326 := eq_true p326
             replace q326 := eq_true q326
             try go_wp2_with (first | ((with_reducible refine gate_dst (N := 14) rfl ?_); (try (refine gate_guard (by rfl) ?_; dsimp only)); refine bx_ 14 #[.int .u64 0, .int .u64 0, .bool false, .bool false, .int .u64 0, .int .u64 0, .int .u64 0, .int .u64 0, .int .u64 0, .int .u64 0, .int .i64 0] 50 ?_; intro gb327 hg w42 hbox hb; replace HO_11 := ak_ (Kd.R_below (rl_ HO_11) hb); have BK327 := ak_ hbox; have GW327 := ak_ (gs_ hg HB); have GE327 := ak_ (gs_ hg HB); replace HB := ak_ (bt_ (bl_ HB) hb); clear hb hbox hg; obtain ⟨hcz43_0, hcz43_1, hcz43_2, hcz43_3, hcz43_4, hcz43_5, hcz43_6, hcz43_7, hcz43_8, hcz43_9, hcz43_10, hfz43_0, hfz43_1, hfz43_2, hfz43_3, hfz43_4, hfz43_5, hfz43_6, hfz43_7, hfz43_8, hfz43_9, hfz43_10⟩ := kc11_ BK327.out))
             obtain ⟨w44, e_⟩ : ∃ w_, sC_ gb327 0 [.int .u64 ((rd_T50 l4 x38_2).f0.f0), .int .u64 ((rd_T50 l4 x38_2).f0.f1), .bool ((rd_T50 l4 x38_2).f1.f0), .bool ((rd_T50 l4 x38_2).f1.f1), .int .u64 ((rd_T50 l4 x38_2).f1.f2.f0), .int .u64 ((rd_T50 l4 x38_2).f1.f2.f1), .int .u64 ((rd_T50 l4 x38_2).f1.f3.f0.f0), .int .u64 ((rd_T50 l4 x38_2).f1.f3.f0.f1), .int .u64 ((rd_T50 l4 x38_2).f1.f3.f1.f0), .int .u64 ((rd_T50 l4 x38_2).f1.f3.f1.f1), .int .i64 ((rd_T50 l4 x38_2).f1.f4)] w42 = w_ := ⟨_, rfl⟩
             have n0_ : Aside0 (Kd.R k48 48 w44 w.heap.size (fun _ => True) v323 t321) := ⟨Kd.R_mono (sC_far (Kd.R_types HO_11.out BK327.out (by decide)) (fun _ hk => hk.2) e_) (fun _ hk => trivial)⟩
             have n1_ : Aside0 (w44.heap[gb327]? = some (.cells #[.int .u64 ((rd_T50 l4 x38_2).f0.f0), .int .u64 ((rd_T50 l4 x38_2).f0.f1), .bool ((rd_T50 l4 x38_2).f1.f0), .bool ((rd_T50 l4 x38_2).f1.f1), .int .u64 ((rd_T50 l4 x38_2).f1.f2.f0), .int .u64 ((rd_T50 l4 x38_2).f1.f2.f1), .int .u64 ((rd_T50 l4 x38_2).f1.f3.f0.f0), .int .u64 ((rd_T50 l4 x38_2).f1.f3.f0.f1), .int .u64 ((rd_T50 l4 x38_2).f1.f3.f1.f0), .int .u64 ((rd_T50 l4 x38_2).f1.f3.f1.f1), .int .i64 ((rd_T50 l4 x38_2).f1.f4)] 50 (0, 0))) := ⟨sC_blk BK327.out rfl e_⟩
             have n2_ : Aside0 (Below w.heap.size w w44) := ⟨sC_below GE327.out HB.out e_⟩
             (try clear HO_11)
             (try clear BK327)
             (try clear HB)
             simp only [sC_, Nat.reduceAdd] at e_
             rw [e_]
             clear e_
             have HO_11 := n0_
             have BK327 := n1_
             have HB := n2_
             clear n0_ n1_ n2_
             replace HO_11 := ak_ (Kd.R_drew HO_11.out)
             replace BK327 := ak_ (kd_ BK327.out)
             replace HB := ak_ (bd_ HB.out)
             obtain ⟨Ao46, co46, eo46⟩ := Kd.R_slice HO_11.out
             (first | subst eo46 | (injection eo46 with f1_ f2_ f3_; have f4_ := f1_.symm; have f5_ := f3_.symm; clear f1_ f2_ f3_; subst f4_; subst f5_))
             have p328 : 0 ≤ (x38_2 : Int) := od_ (by first | (with_reducible assumption) | assumption)
             have q328 : x38_2 < (t321.length : Int) := od_ (by first | (with_reducible assumption) | assumption)
             obtain ⟨ad328, e328, hx328_0, hx328_1⟩ := at_T48 (Kd.R_reads' HO_11.out).2.2 x38_2 p328 q328
             cases e328
             replace p328 := eq_true p328
             replace q328 := eq_true q328
             refine start_ (n := 25) (S := fun w' => w'.cell? ⟨gb327, 0, none⟩ = some (.int .u64 ((rd_T50 l4 x38_2).f0.f0)) ∧ w'.cell? ⟨gb327, 1, none⟩ = some (.int .u64 ((rd_T50 l4 x38_2).f0.f1)) ∧ w'.cell? ⟨gb327, 2, none⟩ = some (.bool ((rd_T50 l4 x38_2).f1.f0)) ∧ w'.cell? ⟨gb327, 3, none⟩ = some (.bool ((rd_T50 l4 x38_2).f1.f1)) ∧ w'.cell? ⟨gb327, 4, none⟩ = some (.int .u64 ((rd_T50 l4 x38_2).f1.f2.f0)) ∧ w'.cell? ⟨gb327, 5, none⟩ = some (.int .u64 ((rd_T50 l4 x38_2).f1.f2.f1)) ∧ w'.cell? ⟨gb327, 6, none⟩ = some (.int .u64 ((rd_T50 l4 x38_2).f1.f3.f0.f0)) ∧ w'.cell? ⟨gb327, 7, none⟩ = some (.int .u64 ((rd_T50 l4 x38_2).f1.f3.f0.f1)) ∧ w'.cell? ⟨gb327, 8, none⟩ = some (.int .u64 ((rd_T50 l4 x38_2).f1.f3.f1.f0)) ∧ w'.cell? ⟨gb327, 9, none⟩ = some (.int .u64 ((rd_T50 l4 x38_2).f1.f3.f1.f1)) ∧ w'.cell? ⟨gb327, 10, none⟩ = some (.int .i64 ((rd_T50 l4 x38_2).f1.f4)) ∧ w'.cell? (ad328.add ((x38_2).toNat * 2)) = some (.int .u64 ((rd_T48 t321 x38_2).f0)) ∧ w'.cell? ⟨(ad328.add ((x38_2).toNat * 2)).block, (ad328.add ((x38_2).toNat * 2)).off + 1, none⟩ = some (.int .u64 ((rd_T48 t321 x38_2).f1))) (ds := []) #[false, false, false, false, false, false, false, false, false, false, false, false, false, false, false, false, false, false, false, false, false, false, false, false, false] (by kernel_rfl) rfl rfl ⟨kq_ BK327.out 0 rfl, kq_ BK327.out 1 rfl, kq_ BK327.out 2 rfl, kq_ BK327.out 3 rfl, kq_ BK327.out 4 rfl, kq_ BK327.out 5 rfl, kq_ BK327.out 6 rfl, kq_ BK327.out 7 rfl, kq_ BK327.out 8 rfl, kq_ BK327.out 9 rfl, kq_ BK327.out 10 rfl, hx328_0, hx328_1⟩ (fun hHeld => ?_); refine with_tabW store_Check.tab7 store_Check.bits7 (fun HT_ HW_ => ?_)
             generalize w44.drew = w45 at HO_11 BK327 HB hx328_0 hx328_1 hHeld ⊢
             refine pu_ HT_ 0 (some 43) (bA7 1 25) ?_
             refine pu_ HT_ 2 (some 45) #[true, false, true, false, false, false, false, false, false, false, false, false, false, false, false, false, false, false, false, false, false, false, false, false, false] ?_
             refine pu_ HT_ 3 (some 46) #[true, false, true, true, false, false, false, false, false, false, false, false, false, false, false, false, false, false, false, false, false, false, false, false, false] ?_
             refine pu_ HT_ 4 (some 47) #[true, false, true, true, true, false, false, false, false, false, false, false, false, false, false, false, false, false, false, false, false, false, false, false, false] ?_
             refine tk_ HT_ HW_ hHeld 1 (some 44) (bA7 5 25) rfl (by rintro w' ⟨s0, s1, s2, s3, s4, s5, s6, s7, s8, s9, s10, s11, s12⟩; go_simp; with_reducible rfl) ?_
             refine tk_ HT_ HW_ hHeld 5 (some 48) (bA7 6 25) rfl (by rintro w' ⟨s0, s1, s2, s3, s4, s5, s6, s7, s8, s9, s10, s11, s12⟩; go_simp; with_reducible rfl) ?_
             refine pu_ HT_ 6 (some 49) (bA7 7 25) ?_
             refine pu_ HT_ 7 (some 50) (bA7 8 25) ?_
             refine pu_ HT_ 8 (some 51) (bA7 9 25) ?_
             refine pu_ HT_ 9 (some 52) (bA7 10 25) ?_
             refine tk_ HT_ HW_ hHeld 10 (some 53) (bA7 11 25) rfl (by rintro w' ⟨s0, s1, s2, s3, s4, s5, s6, s7, s8, s9, s10, s11, s12⟩; go_simp; with_reducible rfl) ?_
             refine one_ (i := 11) (N := some 54) (bA7 12 25) rfl rfl (one_of HT_.out (by kernel_rfl)) (by decide) (fun K hK => ?_)
             refine gg_ func35 #[.slice A0 l0.length c0, .agg #[.bool ((rd_T50 l4 x38_2).f1.f0), .bool ((rd_T50 l4 x38_2).f1.f1), .int .u64 ((rd_T50 l4 x38_2).f1.f2.f0), .int .u64 ((rd_T50 l4 x38_2).f1.f2.f1), .int .u64 ((rd_T50 l4 x38_2).f1.f3.f0.f0), .int .u64 ((rd_T50 l4 x38_2).f1.f3.f0.f1), .int .u64 ((rd_T50 l4 x38_2).f1.f3.f1.f0), .int .u64 ((rd_T50 l4 x38_2).f1.f3.f1.f1), .int .i64 ((rd_T50 l4 x38_2).f1.f4)]] ?_
             with_reducible refine (store_open.calls k2 _ _ l0 ((rd_T50 l4 x38_2).f1.f0) ((rd_T50 l4 x38_2).f1.f1) ((rd_T50 l4 x38_2).f1.f2.f0) ((rd_T50 l4 x38_2).f1.f2.f1) ((rd_T50 l4 x38_2).f1.f3.f0.f0) ((rd_T50 l4 x38_2).f1.f3.f0.f1) ((rd_T50 l4 x38_2).f1.f3.f1.f0) ((rd_T50 l4 x38_2).f1.f3.f1.f1) ((rd_T50 l4 x38_2).f1.f4) false _ ?side1 ?side2 A26.out).mono ?_
             (case side1 => repeat (first | exact (Kd.C_below HR0.out HB.out) | (with_reducible refine Kd.C_alloc ?_ _) | (with_reducible refine Kd.C_drewN ?_ _) | (with_reducible refine Kd.C_drew ?_)))
             (case side2 => exact HC0.out)
             rintro e w47 ⟨rfl, hb⟩
             have HS11_ := (hb.cell (World.block_lt_of_cell? _ _ (hHeld.2.2.2.2.2.2.2.2.2.2.2.1))).trans (hHeld.2.2.2.2.2.2.2.2.2.2.2.1)
             have HS12_ := (hb.cell (World.block_lt_of_cell? _ _ (hHeld.2.2.2.2.2.2.2.2.2.2.2.2))).trans (hHeld.2.2.2.2.2.2.2.2.2.2.2.2)
             refine ⟨_, rfl, ?_⟩
             replace HO_11 := ak_ (Kd.R_below (rl_ HO_11) hb)
             replace BK327 := ak_ (kb_ (kl_ BK327) hb)
             replace HB := ak_ (bt_ (bw1_ HB GE327) hb)
             (try clear hb)
             (try clear hb2)
             (try clear hk)
             (try clear hi)
             refine hK.out _ _ ⟨kq_ BK327.out 0 rfl, kq_ BK327.out 1 rfl, kq_ BK327.out 2 rfl, kq_ BK327.out 3 rfl, kq_ BK327.out 4 rfl, kq_ BK327.out 5 rfl, kq_ BK327.out 6 rfl, kq_ BK327.out 7 rfl, kq_ BK327.out 8 rfl, kq_ BK327.out 9 rfl, kq_ BK327.out 10 rfl, HS11_, HS12_⟩ (fun hHeld => ?_)
             clear hK K
             refine norm_ (a' := ?_) ?_ ?_
             rotate_left
             ·show Act.put _ (some 54) _ = _
              simp only [Act.put, setIfInBounds_toArray, set_cons_zero, set_cons_succ, i64_w, i32_w]
              rfl
             refine pu_ HT_ 12 (some 55) (bA7 13 25) ?_
             refine pu_ HT_ 13 (some 56) (bA7 14 25) ?_
             refine pu_ HT_ 14 (some 57) (bA7 15 25) ?_
             refine pn_ HT_ 15 (some 58) (bA7 16 25) ?_
             refine pn_ HT_ 16 (some 59) (bA7 17 25) ?_
             refine pn_ HT_ 17 (some 60) (bA7 18 25) ?_
             refine pn_ HT_ 18 (some 61) (bA7 19 25) ?_
             refine pn_ HT_ 19 (some 62) (bA7 20 25) ?_
             refine pn_ HT_ 20 (some 63) (bA7 21 25) ?_
             refine pn_ HT_ 21 (some 64) (bA7 22 25) ?_
             refine pn_ HT_ 22 (some 65) (bA7 23 25) ?_
             refine pn_ HT_ 23 (some 66) (bA7 24 25) ?_
             refine pu_ HT_ 24 (some 67) (bA7 25 25) ?_
             refine done_ (done_of HT_.out (by kernel_rfl)) ?_
             try go_wp2
             go_ret
             exact ea_ (bw1_ HB GE327)
          ·rw [if_neg c19] at H
           exact absurd H (by simp)
         ·rw [if_neg c18] at H
          exact absurd H (by simp)
        ·rw [if_neg c17] at H
         exact absurd H (by simp)
       ·rw [if_neg c16] at H
        have c16b0 := decide_eq_false c16
        clear c16
        obtain rfl := Option.some.inj H
        go_wp2
        go_ret
        exact ea_ (bl_ HB)
end Go.Proofs.Ytkleiaeihihjnaa.MP
