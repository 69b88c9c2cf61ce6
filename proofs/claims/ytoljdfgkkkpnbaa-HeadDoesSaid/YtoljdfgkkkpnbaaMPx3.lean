-- written by a program of this session (wip/tools/mprint.sh) for this seat
import Derived.Test.YtoljdfgkkkpnbaaMPx0
import Derived.Test.YtoljdfgkkkpnbaaMPx2
namespace Go.Proofs.Ytoljdfgkkkpnbaa.MP
open Go.RowKit Go.Proofs.YtoljdfgkkkpnbaaW.PrintWords Go.Proofs.YtoljdfgkkkpnbaaW.PrintLast Go.Proofs.YtoljdfgkkkpnbaaW.PrintMore
open Option (bind_eq_some_iff some.injEq)
open _root_.Go.Proofs.Try
open List (setIfInBounds_toArray set_cons_zero set_cons_succ map_toArray map_cons map_nil length_drop length_take)
attribute [local go_sem] max2_int min2_int max_two min_two max_three min_three max_four min_four
set_option linter.unusedVariables false
set_option linter.unusedSimpArgs false
def bA3 (k n : Nat) : Array Bool := (Array.range n).map fun i => decide (i < k)
mutual
def head_Check.j0 : Nat → Bool → Int → Int → Int → List (S41) → Bool → Bool → Int → Int → Int → Int → Int → Int → Int → Option (Int)
  | 0, _, _, _, _, _, _, _, _, _, _, _, _, _, _ => none
  | k + 1, x34, x152000, x152001, x152002, x152003, x152004, x152005, x152006, x152007, x152008, x152009, x152010, x152011, x152012 => if x34 = true then (some 1) else ((layer_May.f k x152001 x152000 1 0).bind fun bt154 => (if bt154.2 = 0 then (head_Check.l0 k x152003 (x152003.length : Int) 0 x152000 x152001 x152002 x152003 x152004 x152005 x152006 x152007 x152008 x152009 x152010 x152011 x152012) else (some bt154.2)))
def head_Check.l0 : Nat → List (S41) → Int → Int → Int → Int → Int → List (S41) → Bool → Bool → Int → Int → Int → Int → Int → Int → Int → Option (Int)
  | 0, _, _, _, _, _, _, _, _, _, _, _, _, _, _, _, _ => none
  | k + 1, x48, x49, x50, x152000, x152001, x152002, x152003, x152004, x152005, x152006, x152007, x152008, x152009, x152010, x152011, x152012 => if x50 < x49 then (if 0 ≤ x50 then (if x50 < (x48.length : Int) then ((layer_May.f k x152001 x152000 ((rd_T41 x48 x50).f0.f0) ((rd_T41 x48 x50).f0.f1)).bind fun bt158 => (if bt158.2 = 0 then (if bt158.1 = true then ((head_shut.f ((rd_T41 x48 x50).f1.f0) ((rd_T41 x48 x50).f1.f1) ((rd_T41 x48 x50).f1.f2.f0) ((rd_T41 x48 x50).f1.f2.f1) ((rd_T41 x48 x50).f1.f3.f0.f0) ((rd_T41 x48 x50).f1.f3.f0.f1) ((rd_T41 x48 x50).f1.f3.f1.f0) ((rd_T41 x48 x50).f1.f3.f1.f1) ((rd_T41 x48 x50).f1.f4)).bind fun t160 => (if t160 = true then (if x50 > 0 then (if 0 ≤ (wrap64 (x50 - 1)) then (if (wrap64 (x50 - 1)) < (x152003.length : Int) then ((sub_Less.f k ((rd_T41 x152003 (wrap64 (x50 - 1))).f0.f0) ((rd_T41 x152003 (wrap64 (x50 - 1))).f0.f1) ((rd_T41 x48 x50).f0.f0) ((rd_T41 x48 x50).f0.f1)).bind fun t162 => (if t162 = true then (head_Check.l0 k x48 x49 (wrap64 (x50 + 1)) x152000 x152001 x152002 x152003 x152004 x152005 x152006 x152007 x152008 x152009 x152010 x152011 x152012) else (some 1))) else (none)) else (none)) else (head_Check.l0 k x48 x49 (wrap64 (x50 + 1)) x152000 x152001 x152002 x152003 x152004 x152005 x152006 x152007 x152008 x152009 x152010 x152011 x152012)) else (some 1))) else (some 1)) else (some 1))) else (none)) else (none)) else (some 0)
end
def head_Check.f (k : Nat) (a0_0 : Int) (a0_1 : Int) (a0_2 : Int) (l0_3 : List (S41)) (a0_4 : Bool) (a0_5 : Bool) (a0_6 : Int) (a0_7 : Int) (a0_8 : Int) (a0_9 : Int) (a0_10 : Int) (a0_11 : Int) (a0_12 : Int) : Option (Int) := (node_Check.f k a0_1 1).bind fun t152 => (if t152 = 0 then (if a0_2 < 1 then (head_Check.j0 k true a0_0 a0_1 a0_2 l0_3 a0_4 a0_5 a0_6 a0_7 a0_8 a0_9 a0_10 a0_11 a0_12) else (if a0_2 > 1099511627776 then (head_Check.j0 k true a0_0 a0_1 a0_2 l0_3 a0_4 a0_5 a0_6 a0_7 a0_8 a0_9 a0_10 a0_11 a0_12) else (if (l0_3.length : Int) > 32768 then (head_Check.j0 k true a0_0 a0_1 a0_2 l0_3 a0_4 a0_5 a0_6 a0_7 a0_8 a0_9 a0_10 a0_11 a0_12) else ((head_shut.f a0_4 a0_5 a0_6 a0_7 a0_8 a0_9 a0_10 a0_11 a0_12).bind fun t153 => (head_Check.j0 k (!t153) a0_0 a0_1 a0_2 l0_3 a0_4 a0_5 a0_6 a0_7 a0_8 a0_9 a0_10 a0_11 a0_12))))) else (head_Check.j0 k true a0_0 a0_1 a0_2 l0_3 a0_4 a0_5 a0_6 a0_7 a0_8 a0_9 a0_10 a0_11 a0_12))
theorem head_Check.mono_l : ∀ k, (∀ y0 y1 y2 y3 y4 y5 y6 y7 y8 y9 y10 y11 y12 y13, LeO (head_Check.j0 k y0 y1 y2 y3 y4 y5 y6 y7 y8 y9 y10 y11 y12 y13) (head_Check.j0 (k + 1) y0 y1 y2 y3 y4 y5 y6 y7 y8 y9 y10 y11 y12 y13)) ∧ (∀ y0 y1 y2 y3 y4 y5 y6 y7 y8 y9 y10 y11 y12 y13 y14 y15, LeO (head_Check.l0 k y0 y1 y2 y3 y4 y5 y6 y7 y8 y9 y10 y11 y12 y13 y14 y15) (head_Check.l0 (k + 1) y0 y1 y2 y3 y4 y5 y6 y7 y8 y9 y10 y11 y12 y13 y14 y15))
  | 0 => ⟨fun _ _ _ _ _ _ _ _ _ _ _ _ _ _ r h => by simp [head_Check.j0] at h, fun _ _ _ _ _ _ _ _ _ _ _ _ _ _ _ _ r h => by simp [head_Check.l0] at h⟩
  | k + 1 => by
   obtain ⟨ih0, ih1⟩ := head_Check.mono_l k
   refine ⟨?_, ?_⟩
   all_goals intros
   all_goals first | unfold head_Check.j0 | unfold head_Check.l0
   all_goals repeat' first | (with_reducible first | exact ih0 .. | exact ih1 .. | exact layer_May.mono .. | exact node_Check.mono .. | exact sub_Less.mono .. | exact LeO.refl _ | exact LeO.none _ | refine LeO.ite ?_ ?_ | refine LeO.bind ?_ (fun _ => ?_)) | exact ih0 .. | exact ih1 .. | exact layer_May.mono .. | exact node_Check.mono .. | exact sub_Less.mono .. | refine LeO.ite ?_ ?_ | refine LeO.bind ?_ (fun _ => ?_)
theorem head_Check.mono : ∀ a0 a1 a2 a3 a4 a5 a6 a7 a8 a9 a10 a11 a12 k, LeO (head_Check.f k a0 a1 a2 a3 a4 a5 a6 a7 a8 a9 a10 a11 a12) (head_Check.f (k + 1) a0 a1 a2 a3 a4 a5 a6 a7 a8 a9 a10 a11 a12) := by
  intro a0 a1 a2 a3 a4 a5 a6 a7 a8 a9 a10 a11 a12 k
  obtain ⟨ih0, ih1⟩ := head_Check.mono_l k
  unfold head_Check.f
  repeat' first | (with_reducible first | exact ih0 .. | exact ih1 .. | exact layer_May.mono .. | exact node_Check.mono .. | exact sub_Less.mono .. | exact LeO.refl _ | exact LeO.none _ | refine LeO.ite ?_ ?_ | refine LeO.bind ?_ (fun _ => ?_)) | exact ih0 .. | exact ih1 .. | exact layer_May.mono .. | exact node_Check.mono .. | exact sub_Less.mono .. | refine LeO.ite ?_ ?_ | refine LeO.bind ?_ (fun _ => ?_)
def head_Check.T10 : Bool × List (List Nat × List Nat) := (true, [([], []), ([0], [0]), ([1], [1]), ([2], [2]), ([3, 2], [2, 3]), ([2, 4], [2, 4]), ([5, 2], [5]), ([6], [6]), ([7, 6], [6, 7]), ([8, 6, 6], [6, 8]), ([9, 6], [6, 9]), ([6, 10], [6, 10]), ([11, 9], [11]), ([12], [12]), ([13, 12], [12, 13]), ([14, 12, 12], [12, 14]), ([15], [15]), ([16, 15], [15, 16]), ([15], [15]), ([18, 15], [15, 18]), ([17, 19, 15], [15, 17, 19]), ([20, 15], [15, 20]), ([21, 15], [15, 21]), ([15], [15]), ([23, 15], [15, 23]), ([22, 24, 15, 15], [15, 22, 24]), ([25, 15], [15, 25]), ([15, 26, 12], [12, 15, 26]), ([12, 27], [12, 27])])
def head_Check.B10 : List Nat := [0, 1, 3, 7, 15, 31, 63, 127, 255, 511, 1023, 2047, 4095, 8191, 16383, 32767, 65535, 131071, 65535, 327679, 1048575, 2097151, 4194303, 65535, 8454143, 33554431, 67108863, 134217727, 268435455]
theorem head_Check.tab10 : rtab .any (opsOf Try.f16 10) = head_Check.T10 := by kernel_rfl
theorem head_Check.bits10 : waitsOk head_Check.T10.2 head_Check.B10 = true := by kernel_rfl
set_option maxHeartbeats 8000000 in
set_option maxRecDepth 100000 in
theorem head_Check.calls (k : Nat) (a0_0 : Int) (a0_1 : Int) (a0_2 : Int) (A0_3 : Option Addr) (c0_3 : Nat) (l0_3 : List (S41)) (a0_4 : Bool) (a0_5 : Bool) (a0_6 : Int) (a0_7 : Int) (a0_8 : Int) (a0_9 : Int) (a0_10 : Int) (a0_11 : Int) (a0_12 : Int) (r : Int) (w : World) (hr0_3 : Kd.C k41 w A0_3 l0_3.length l0_3) (hc0_3 : l0_3.length ≤ c0_3) (h : head_Check.f k a0_0 a0_1 a0_2 l0_3 a0_4 a0_5 a0_6 a0_7 a0_8 a0_9 a0_10 a0_11 a0_12 = some r) :
   Calls Try.prog 16 #[.agg #[.int .i64 a0_0, .int .i64 a0_1, .int .i64 a0_2, .slice A0_3 l0_3.length c0_3, .bool a0_4, .bool a0_5, .int .u64 a0_6, .int .u64 a0_7, .int .u64 a0_8, .int .u64 a0_9, .int .u64 a0_10, .int .u64 a0_11, .int .i64 a0_12]] w fun e w' => e = .returned (.int .i64 r) ∧ Below w.heap.size w w' := by
  have hu31 := underlying31
  have hu29 := underlying29
  have hu39 := underlying39
  have hu41 := underlying41
  have HR0_3 := ak_ hr0_3
  have HC0_3 := ak_ hc0_3
  clear hr0_3 hc0_3
  have HB := ak_ (Below.refl w.heap.size w)
  have H : ((node_Check.f k a0_1 1).bind fun t152 => (if t152 = 0 then (if a0_2 < 1 then (head_Check.j0 k true a0_0 a0_1 a0_2 l0_3 a0_4 a0_5 a0_6 a0_7 a0_8 a0_9 a0_10 a0_11 a0_12) else (if a0_2 > 1099511627776 then (head_Check.j0 k true a0_0 a0_1 a0_2 l0_3 a0_4 a0_5 a0_6 a0_7 a0_8 a0_9 a0_10 a0_11 a0_12) else (if (l0_3.length : Int) > 32768 then (head_Check.j0 k true a0_0 a0_1 a0_2 l0_3 a0_4 a0_5 a0_6 a0_7 a0_8 a0_9 a0_10 a0_11 a0_12) else ((head_shut.f a0_4 a0_5 a0_6 a0_7 a0_8 a0_9 a0_10 a0_11 a0_12).bind fun t153 => (head_Check.j0 k (!t153) a0_0 a0_1 a0_2 l0_3 a0_4 a0_5 a0_6 a0_7 a0_8 a0_9 a0_10 a0_11 a0_12))))) else (head_Check.j0 k true a0_0 a0_1 a0_2 l0_3 a0_4 a0_5 a0_6 a0_7 a0_8 a0_9 a0_10 a0_11 a0_12))) = some r := h
  clear h
  have HC2 := ak_ H
  clear H
  go_enter func16, ntmps16
  go_upto_region 1 with (first | ((with_reducible refine gate_dst (N := 1) rfl ?_); (try (refine gate_guard (by rfl) ?_; dsimp only)); refine bx_ 1 #[.int .i64 a0_0, .int .i64 a0_1, .int .i64 a0_2, .slice A0_3 l0_3.length c0_3, .bool a0_4, .bool a0_5, .int .u64 a0_6, .int .u64 a0_7, .int .u64 a0_8, .int .u64 a0_9, .int .u64 a0_10, .int .u64 a0_11, .int .i64 a0_12] 31 ?_; intro gb151 hg w3 hbox hb; have BK151 := ak_ hbox; have GW151 := ak_ (gs_ hg HB); have GE151 := ak_ (gs_ hg HB); replace HB := ak_ (bt_ (bl_ HB) hb); clear hb hbox hg))
  (try simp only [Act.put, setIfInBounds_toArray, set_cons_zero, set_cons_succ])
  go_cut [34] (fun v34 wc => ∃ (kq : Nat) (x34_1 : Bool), v34 = .bool x34_1 ∧ Aside0 (head_Check.j0 kq x34_1 a0_0 a0_1 a0_2 l0_3 a0_4 a0_5 a0_6 a0_7 a0_8 a0_9 a0_10 a0_11 a0_12 = some r) ∧ Aside0 (kq ≤ k) ∧ Aside0 (wc.heap[gb151]? = some (.cells #[.int .i64 a0_0, .int .i64 a0_1, .int .i64 a0_2, (.slice A0_3 l0_3.length c0_3), .bool a0_4, .bool a0_5, .int .u64 a0_6, .int .u64 a0_7, .int .u64 a0_8, .int .u64 a0_9, .int .u64 a0_10, .int .u64 a0_11, .int .i64 a0_12] 31 (0, 0))) ∧ Aside0 (Below w.heap.size w wc))
  case first =>
   have H := HC2.out
   clear HC2
   replace H := bind_eq_some_iff.mp H
   obtain ⟨t152, A40, H⟩ := H
   replace H : (if t152 = 0 then (if a0_2 < 1 then (head_Check.j0 k true a0_0 a0_1 a0_2 l0_3 a0_4 a0_5 a0_6 a0_7 a0_8 a0_9 a0_10 a0_11 a0_12) else (if a0_2 > 1099511627776 then (head_Check.j0 k true a0_0 a0_1 a0_2 l0_3 a0_4 a0_5 a0_6 a0_7 a0_8 a0_9 a0_10 a0_11 a0_12) else (if (l0_3.length : Int) > 32768 then (head_Check.j0 k true a0_0 a0_1 a0_2 l0_3 a0_4 a0_5 a0_6 a0_7 a0_8 a0_9 a0_10 a0_11 a0_12) else ((head_shut.f a0_4 a0_5 a0_6 a0_7 a0_8 a0_9 a0_10 a0_11 a0_12).bind fun t153 => (head_Check.j0 k (!t153) a0_0 a0_1 a0_2 l0_3 a0_4 a0_5 a0_6 a0_7 a0_8 a0_9 a0_10 a0_11 a0_12))))) else (head_Check.j0 k true a0_0 a0_1 a0_2 l0_3 a0_4 a0_5 a0_6 a0_7 a0_8 a0_9 a0_10 a0_11 a0_12)) = some r := H
   have A4 := ak_ A40
   clear A40
   by_cases c5 : t152 = 0
   ·rw [if_pos c5] at H
    have c5b0 : (t152 == 0) = true := beq_iff_eq.mpr c5
    have c5b1 : (t152 != 0) = false := bne_eq_false_iff_eq.mpr c5
    clear c5
    (first | rw [c5b0] | (simp only [i64_w, i32_w]; rw [c5b0]) | skip)
    by_cases c6 : a0_2 < 1
    ·rw [if_pos c6] at H
     have c6b0 := decide_eq_true c6
     clear c6
     have H' := ak_ H
     clear H
     obtain ⟨hcz7_0, hcz7_1, hcz7_2, hcz7_3, hcz7_4, hcz7_5, hcz7_6, hcz7_7, hcz7_8, hcz7_9, hcz7_10, hcz7_11, hcz7_12, hfz7_0, hfz7_1, hfz7_2, hfz7_3, hfz7_4, hfz7_5, hfz7_6, hfz7_7, hfz7_8, hfz7_9, hfz7_10, hfz7_11, hfz7_12⟩ := kc13_ BK151.out
     go_wp2_with (first | ((with_reducible refine gate_callee (f := 46) rfl ?_); refine gl_ (some 11) func46 #[.int .i64 a0_1, .int .u64 1] ?_; (with_reducible refine (node_Check.calls k a0_1 1 t152 _ A4.out).mono ?_); rintro e w' ⟨rfl, ⟨nd, rfl⟩⟩; refine ⟨_, rfl, ?_⟩))
     go_wp2_with (first | ((with_reducible refine gate_callee (f := 46) rfl ?_); refine gl_ (some 11) func46 #[.int .i64 a0_1, .int .u64 1] ?_; (with_reducible refine (node_Check.calls k a0_1 1 t152 _ A4.out).mono ?_); rintro e w' ⟨rfl, ⟨nd, rfl⟩⟩; refine ⟨_, rfl, ?_⟩))
     go_meet
     case rel => exact ⟨_, (true), rf_, H', ⟨by first | omega | exact Nat.le_refl _⟩, ⟨kl_ BK151⟩, ⟨bw1_ HB GE151⟩⟩
    ·rw [if_neg c6] at H
     have c6b0 := decide_eq_false c6
     clear c6
     by_cases c8 : a0_2 > 1099511627776
     ·rw [if_pos c8] at H
      have c8b0 : decide (1099511627776 < a0_2) = true := decide_eq_true c8
      clear c8
      have H' := ak_ H
      clear H
      obtain ⟨hcz9_0, hcz9_1, hcz9_2, hcz9_3, hcz9_4, hcz9_5, hcz9_6, hcz9_7, hcz9_8, hcz9_9, hcz9_10, hcz9_11, hcz9_12, hfz9_0, hfz9_1, hfz9_2, hfz9_3, hfz9_4, hfz9_5, hfz9_6, hfz9_7, hfz9_8, hfz9_9, hfz9_10, hfz9_11, hfz9_12⟩ := kc13_ BK151.out
      go_wp2_with (first | ((with_reducible refine gate_callee (f := 46) rfl ?_); refine gl_ (some 11) func46 #[.int .i64 a0_1, .int .u64 1] ?_; (with_reducible refine (node_Check.calls k a0_1 1 t152 _ A4.out).mono ?_); rintro e w' ⟨rfl, ⟨nd, rfl⟩⟩; refine ⟨_, rfl, ?_⟩))
      go_wp2_with (first | ((with_reducible refine gate_callee (f := 46) rfl ?_); refine gl_ (some 11) func46 #[.int .i64 a0_1, .int .u64 1] ?_; (with_reducible refine (node_Check.calls k a0_1 1 t152 _ A4.out).mono ?_); rintro e w' ⟨rfl, ⟨nd, rfl⟩⟩; refine ⟨_, rfl, ?_⟩))
      go_meet
      case rel => exact ⟨_, (true), rf_, H', ⟨by first | omega | exact Nat.le_refl _⟩, ⟨kl_ BK151⟩, ⟨bw1_ HB GE151⟩⟩
     ·rw [if_neg c8] at H
      have c8b0 : decide (1099511627776 < a0_2) = false := decide_eq_false c8
      clear c8
      by_cases c10 : (l0_3.length : Int) > 32768
      ·rw [if_pos c10] at H
       have c10b0 : decide (32768 < (l0_3.length : Int)) = true := decide_eq_true c10
       have c10b1 : decide (32768 < l0_3.length) = true := decide_eq_true (by omega)
       clear c10
       have H' := ak_ H
       clear H
       obtain ⟨hcz11_0, hcz11_1, hcz11_2, hcz11_3, hcz11_4, hcz11_5, hcz11_6, hcz11_7, hcz11_8, hcz11_9, hcz11_10, hcz11_11, hcz11_12, hfz11_0, hfz11_1, hfz11_2, hfz11_3, hfz11_4, hfz11_5, hfz11_6, hfz11_7, hfz11_8, hfz11_9, hfz11_10, hfz11_11, hfz11_12⟩ := kc13_ BK151.out
       go_wp2_with (first | ((with_reducible refine gate_callee (f := 46) rfl ?_); refine gl_ (some 11) func46 #[.int .i64 a0_1, .int .u64 1] ?_; (with_reducible refine (node_Check.calls k a0_1 1 t152 _ A4.out).mono ?_); rintro e w' ⟨rfl, ⟨nd, rfl⟩⟩; refine ⟨_, rfl, ?_⟩))
       go_wp2_with (first | ((with_reducible refine gate_callee (f := 46) rfl ?_); refine gl_ (some 11) func46 #[.int .i64 a0_1, .int .u64 1] ?_; (with_reducible refine (node_Check.calls k a0_1 1 t152 _ A4.out).mono ?_); rintro e w' ⟨rfl, ⟨nd, rfl⟩⟩; refine ⟨_, rfl, ?_⟩))
       go_meet
       case rel => exact ⟨_, (true), rf_, H', ⟨by first | omega | exact Nat.le_refl _⟩, ⟨kl_ BK151⟩, ⟨bw1_ HB GE151⟩⟩
      ·rw [if_neg c10] at H
       have c10b0 : decide (32768 < (l0_3.length : Int)) = false := decide_eq_false c10
       have c10b1 : decide (32768 < l0_3.length) = false := decide_eq_false (by omega)
       clear c10
       replace H := bind_eq_some_iff.mp H
       obtain ⟨t153, A120, H⟩ := H
       replace H : (head_Check.j0 k (!t153) a0_0 a0_1 a0_2 l0_3 a0_4 a0_5 a0_6 a0_7 a0_8 a0_9 a0_10 a0_11 a0_12) = some r := H
       have A12 := ak_ A120
       clear A120
       have H' := ak_ H
       clear H
       obtain ⟨hcz13_0, hcz13_1, hcz13_2, hcz13_3, hcz13_4, hcz13_5, hcz13_6, hcz13_7, hcz13_8, hcz13_9, hcz13_10, hcz13_11, hcz13_12, hfz13_0, hfz13_1, hfz13_2, hfz13_3, hfz13_4, hfz13_5, hfz13_6, hfz13_7, hfz13_8, hfz13_9, hfz13_10, hfz13_11, hfz13_12⟩ := kc13_ BK151.out
       go_wp2_with (first | ((with_reducible refine gate_callee (f := 46) rfl ?_); refine gl_ (some 11) func46 #[.int .i64 a0_1, .int .u64 1] ?_; (with_reducible refine (node_Check.calls k a0_1 1 t152 _ A4.out).mono ?_); rintro e w' ⟨rfl, ⟨nd, rfl⟩⟩; refine ⟨_, rfl, ?_⟩) | (go_at_call 47; (with_reducible refine (head_shut.calls a0_4 a0_5 a0_6 a0_7 a0_8 a0_9 a0_10 a0_11 a0_12 t153 _ A12.out).mono ?_); rintro e w14 ⟨rfl, hb⟩; replace BK151 := ak_ (kb_ (kl_ BK151) hb); replace HB := ak_ (bt_ (bw1_ HB GE151) hb); (try clear hb); (try clear hk)))
       go_wp2_with (first | ((with_reducible refine gate_callee (f := 46) rfl ?_); refine gl_ (some 11) func46 #[.int .i64 a0_1, .int .u64 1] ?_; (with_reducible refine (node_Check.calls k a0_1 1 t152 _ A4.out).mono ?_); rintro e w' ⟨rfl, ⟨nd, rfl⟩⟩; refine ⟨_, rfl, ?_⟩) | (go_at_call 47; (with_reducible refine (head_shut.calls a0_4 a0_5 a0_6 a0_7 a0_8 a0_9 a0_10 a0_11 a0_12 t153 _ A12.out).mono ?_); rintro e w14 ⟨rfl, hb⟩; replace BK151 := ak_ (kb_ (kl_ BK151) hb); replace HB := ak_ (bt_ (bw1_ HB GE151) hb); (try clear hb); (try clear hk)))
       go_meet
       case rel => exact ⟨_, (!t153), rf_, H', ⟨by first | omega | exact Nat.le_refl _⟩, ⟨kl_ BK151⟩, ⟨bw1_ HB GE151⟩⟩
   ·rw [if_neg c5] at H
    have c5b0 : (t152 == 0) = false := beq_eq_false_iff_ne.mpr c5
    have c5b1 : (t152 != 0) = true := bne_iff_ne.mpr c5
    (first | rw [c5b0] | (simp only [i64_w, i32_w]; rw [c5b0]) | skip)
    have H' := ak_ H
    clear H
    obtain ⟨hcz15_0, hcz15_1, hcz15_2, hcz15_3, hcz15_4, hcz15_5, hcz15_6, hcz15_7, hcz15_8, hcz15_9, hcz15_10, hcz15_11, hcz15_12, hfz15_0, hfz15_1, hfz15_2, hfz15_3, hfz15_4, hfz15_5, hfz15_6, hfz15_7, hfz15_8, hfz15_9, hfz15_10, hfz15_11, hfz15_12⟩ := kc13_ BK151.out
    go_wp2_with (first | ((with_reducible refine gate_callee (f := 46) rfl ?_); refine gl_ (some 11) func46 #[.int .i64 a0_1, .int .u64 1] ?_; (with_reducible refine (node_Check.calls k a0_1 1 t152 _ A4.out).mono ?_); rintro e w' ⟨rfl, ⟨nd, rfl⟩⟩; refine ⟨_, rfl, ?_⟩))
    go_wp2_with (first | ((with_reducible refine gate_callee (f := 46) rfl ?_); refine gl_ (some 11) func46 #[.int .i64 a0_1, .int .u64 1] ?_; (with_reducible refine (node_Check.calls k a0_1 1 t152 _ A4.out).mono ?_); rintro e w' ⟨rfl, ⟨nd, rfl⟩⟩; refine ⟨_, rfl, ?_⟩))
    go_meet
    case rel => exact ⟨_, (true), rf_, H', ⟨by first | omega | exact Nat.le_refl _⟩, ⟨kl_ BK151⟩, ⟨bw1_ HB GE151⟩⟩
  case rest =>
   clear HC2
   try clear c1
   try clear p2
   try clear c4
   try clear c5
   try clear c5b0
   try clear c5b1
   try clear c6
   try clear c6b0
   try clear c8
   try clear c8b0
   try clear c10
   try clear c10b0
   try clear c10b1
   try clear hcz11_0 hcz11_1 hcz11_10 hcz11_11 hcz11_12 hcz11_2 hcz11_3 hcz11_4 hcz11_5 hcz11_6 hcz11_7 hcz11_8 hcz11_9
   try clear hcz13_0 hcz13_1 hcz13_10 hcz13_11 hcz13_12 hcz13_2 hcz13_3 hcz13_4 hcz13_5 hcz13_6 hcz13_7 hcz13_8 hcz13_9
   try clear hcz15_0 hcz15_1 hcz15_10 hcz15_11 hcz15_12 hcz15_2 hcz15_3 hcz15_4 hcz15_5 hcz15_6 hcz15_7 hcz15_8 hcz15_9
   try clear hcz7_0 hcz7_1 hcz7_10 hcz7_11 hcz7_12 hcz7_2 hcz7_3 hcz7_4 hcz7_5 hcz7_6 hcz7_7 hcz7_8 hcz7_9
   try clear hcz9_0 hcz9_1 hcz9_10 hcz9_11 hcz9_12 hcz9_2 hcz9_3 hcz9_4 hcz9_5 hcz9_6 hcz9_7 hcz9_8 hcz9_9
   try clear hfz11_0 hfz11_1 hfz11_10 hfz11_11 hfz11_12 hfz11_2 hfz11_3 hfz11_4 hfz11_5 hfz11_6 hfz11_7 hfz11_8 hfz11_9
   try clear hfz13_0 hfz13_1 hfz13_10 hfz13_11 hfz13_12 hfz13_2 hfz13_3 hfz13_4 hfz13_5 hfz13_6 hfz13_7 hfz13_8 hfz13_9
   try clear hfz15_0 hfz15_1 hfz15_10 hfz15_11 hfz15_12 hfz15_2 hfz15_3 hfz15_4 hfz15_5 hfz15_6 hfz15_7 hfz15_8 hfz15_9
   try clear hfz7_0 hfz7_1 hfz7_10 hfz7_11 hfz7_12 hfz7_2 hfz7_3 hfz7_4 hfz7_5 hfz7_6 hfz7_7 hfz7_8 hfz7_9
   try clear hfz9_0 hfz9_1 hfz9_10 hfz9_11 hfz9_12 hfz9_2 hfz9_3 hfz9_4 hfz9_5 hfz9_6 hfz9_7 hfz9_8 hfz9_9
   obtain ⟨kq, x34_1, rfl, HA, HJ1, BK151, HB⟩ := hcut
   cases kq with
   | zero => exact absurd HA.out (by simp [head_Check.j0])
   | succ kj1 =>
    have H := HA.out
    clear HA
    simp only [head_Check.j0] at H
    by_cases c16 : x34_1 = true
    ·subst c16
     have H1 : (some 1) = some r := by rw [if_pos rfl] at H; exact H
     clear H
     have H := H1
     clear H1
     obtain rfl := Option.some.inj H
     go_wp2
     go_ret
     exact ea_ (bw1_ HB GE151)
    ·replace c16 := Bool.eq_false_iff.mpr c16
     subst c16
     have H1 : ((layer_May.f kj1 a0_1 a0_0 1 0).bind fun bt154 => (if bt154.2 = 0 then (head_Check.l0 kj1 l0_3 (l0_3.length : Int) 0 a0_0 a0_1 a0_2 l0_3 a0_4 a0_5 a0_6 a0_7 a0_8 a0_9 a0_10 a0_11 a0_12) else (some bt154.2))) = some r := by rw [if_neg (show ¬ (false = true) by decide)] at H; exact H
     clear H
     have H := H1
     clear H1
     replace H := bind_eq_some_iff.mp H
     obtain ⟨⟨t154, t155⟩, A170, H⟩ := H
     replace H : (if t155 = 0 then (head_Check.l0 kj1 l0_3 (l0_3.length : Int) 0 a0_0 a0_1 a0_2 l0_3 a0_4 a0_5 a0_6 a0_7 a0_8 a0_9 a0_10 a0_11 a0_12) else (some t155)) = some r := H
     have A17 := ak_ A170
     clear A170
     by_cases c18 : t155 = 0
     ·rw [if_pos c18] at H
      have c18b0 : (t155 == 0) = true := beq_iff_eq.mpr c18
      have c18b1 : (t155 != 0) = false := bne_eq_false_iff_eq.mpr c18
      clear c18
      have H' := ak_ H
      clear H
      obtain ⟨hcz19_0, hcz19_1, hcz19_2, hcz19_3, hcz19_4, hcz19_5, hcz19_6, hcz19_7, hcz19_8, hcz19_9, hcz19_10, hcz19_11, hcz19_12, hfz19_0, hfz19_1, hfz19_2, hfz19_3, hfz19_4, hfz19_5, hfz19_6, hfz19_7, hfz19_8, hfz19_9, hfz19_10, hfz19_11, hfz19_12⟩ := kc13_ BK151.out
      go_wp2_with (first | ((with_reducible refine gate_callee (f := 48) rfl ?_); refine gl_ (some 41) func48 #[.int .i64 a0_1, .int .i64 a0_0, .agg #[.int .u64 1, .int .u64 0]] ?_; (with_reducible refine (layer_May.calls kj1 a0_1 a0_0 1 0 t154 t155 _ A17.out).mono ?_); rintro e w20 ⟨rfl, hb⟩; refine ⟨_, rfl, ?_⟩; replace BK151 := ak_ (kb_ (kl_ BK151) hb); replace HB := ak_ (bt_ (bw1_ HB GE151) hb); (try clear hb); (try clear hk); have hcz21_0 := kq_ BK151.out 0 rfl; have hcz21_1 := kq_ BK151.out 1 rfl; have hcz21_2 := kq_ BK151.out 2 rfl; have hcz21_3 := kq_ BK151.out 3 rfl; have hcz21_4 := kq_ BK151.out 4 rfl; have hcz21_5 := kq_ BK151.out 5 rfl; have hcz21_6 := kq_ BK151.out 6 rfl; have hcz21_7 := kq_ BK151.out 7 rfl; have hcz21_8 := kq_ BK151.out 8 rfl; have hcz21_9 := kq_ BK151.out 9 rfl; have hcz21_10 := kq_ BK151.out 10 rfl; have hcz21_11 := kq_ BK151.out 11 rfl; have hcz21_12 := kq_ BK151.out 12 rfl; have hfz21_0 := kf_ BK151.out 0; have hfz21_1 := kf_ BK151.out 1; have hfz21_2 := kf_ BK151.out 2; have hfz21_3 := kf_ BK151.out 3; have hfz21_4 := kf_ BK151.out 4; have hfz21_5 := kf_ BK151.out 5; have hfz21_6 := kf_ BK151.out 6; have hfz21_7 := kf_ BK151.out 7; have hfz21_8 := kf_ BK151.out 8; have hfz21_9 := kf_ BK151.out 9; have hfz21_10 := kf_ BK151.out 10; have hfz21_11 := kf_ BK151.out 11; have hfz21_12 := kf_ BK151.out 12))
      go_wp2_with (first | ((with_reducible refine gate_callee (f := 48) rfl ?_); refine gl_ (some 41) func48 #[.int .i64 a0_1, .int .i64 a0_0, .agg #[.int .u64 1, .int .u64 0]] ?_; (with_reducible refine (layer_May.calls kj1 a0_1 a0_0 1 0 t154 t155 _ A17.out).mono ?_); rintro e w20 ⟨rfl, hb⟩; refine ⟨_, rfl, ?_⟩; replace BK151 := ak_ (kb_ (kl_ BK151) hb); replace HB := ak_ (bt_ (bw1_ HB GE151) hb); (try clear hb); (try clear hk); obtain ⟨hcz21_0, hcz21_1, hcz21_2, hcz21_3, hcz21_4, hcz21_5, hcz21_6, hcz21_7, hcz21_8, hcz21_9, hcz21_10, hcz21_11, hcz21_12, hfz21_0, hfz21_1, hfz21_2, hfz21_3, hfz21_4, hfz21_5, hfz21_6, hfz21_7, hfz21_8, hfz21_9, hfz21_10, hfz21_11, hfz21_12⟩ := kc13_ BK151.out))
      go_loopg [50] kj1 (fun kq v50 w' => ∃ (x50_2 : Int), v50 = .int .i64 x50_2 ∧ Aside0 (head_Check.l0 kq l0_3 (l0_3.length : Int) x50_2 a0_0 a0_1 a0_2 l0_3 a0_4 a0_5 a0_6 a0_7 a0_8 a0_9 a0_10 a0_11 a0_12 = some r) ∧ Aside0 (kq ≤ kj1) ∧ Aside0 (w'.heap[gb151]? = some (.cells #[.int .i64 a0_0, .int .i64 a0_1, .int .i64 a0_2, (.slice A0_3 l0_3.length c0_3), .bool a0_4, .bool a0_5, .int .u64 a0_6, .int .u64 a0_7, .int .u64 a0_8, .int .u64 a0_9, .int .u64 a0_10, .int .u64 a0_11, .int .i64 a0_12] 31 (0, 0))) ∧ Aside0 (Below w.heap.size w w'))
      case atStart => exact ⟨(0), rf_, H', ⟨Nat.le_refl _⟩, ⟨kl_ BK151⟩, ⟨bw1_ HB GE151⟩⟩
      case round =>
       clear H'
       try clear c1
       try clear p2
       try clear c4
       try clear c5
       try clear c5b0
       try clear c5b1
       try clear c6
       try clear c6b0
       try clear c8
       try clear c8b0
       try clear c10
       try clear c10b0
       try clear c10b1
       try clear c16
       try clear c18
       try clear c18b0
       try clear c18b1
       try clear hcz11_0 hcz11_1 hcz11_10 hcz11_11 hcz11_12 hcz11_2 hcz11_3 hcz11_4 hcz11_5 hcz11_6 hcz11_7 hcz11_8 hcz11_9
       try clear hcz13_0 hcz13_1 hcz13_10 hcz13_11 hcz13_12 hcz13_2 hcz13_3 hcz13_4 hcz13_5 hcz13_6 hcz13_7 hcz13_8 hcz13_9
       try clear hcz15_0 hcz15_1 hcz15_10 hcz15_11 hcz15_12 hcz15_2 hcz15_3 hcz15_4 hcz15_5 hcz15_6 hcz15_7 hcz15_8 hcz15_9
       try clear hcz19_0 hcz19_1 hcz19_10 hcz19_11 hcz19_12 hcz19_2 hcz19_3 hcz19_4 hcz19_5 hcz19_6 hcz19_7 hcz19_8 hcz19_9
       try clear hcz21_0 hcz21_1 hcz21_10 hcz21_11 hcz21_12 hcz21_2 hcz21_3 hcz21_4 hcz21_5 hcz21_6 hcz21_7 hcz21_8 hcz21_9
       try clear hcz7_0 hcz7_1 hcz7_10 hcz7_11 hcz7_12 hcz7_2 hcz7_3 hcz7_4 hcz7_5 hcz7_6 hcz7_7 hcz7_8 hcz7_9
       try clear hcz9_0 hcz9_1 hcz9_10 hcz9_11 hcz9_12 hcz9_2 hcz9_3 hcz9_4 hcz9_5 hcz9_6 hcz9_7 hcz9_8 hcz9_9
       try clear hfz11_0 hfz11_1 hfz11_10 hfz11_11 hfz11_12 hfz11_2 hfz11_3 hfz11_4 hfz11_5 hfz11_6 hfz11_7 hfz11_8 hfz11_9
       try clear hfz13_0 hfz13_1 hfz13_10 hfz13_11 hfz13_12 hfz13_2 hfz13_3 hfz13_4 hfz13_5 hfz13_6 hfz13_7 hfz13_8 hfz13_9
       try clear hfz15_0 hfz15_1 hfz15_10 hfz15_11 hfz15_12 hfz15_2 hfz15_3 hfz15_4 hfz15_5 hfz15_6 hfz15_7 hfz15_8 hfz15_9
       try clear hfz19_0 hfz19_1 hfz19_10 hfz19_11 hfz19_12 hfz19_2 hfz19_3 hfz19_4 hfz19_5 hfz19_6 hfz19_7 hfz19_8 hfz19_9
       try clear hfz21_0 hfz21_1 hfz21_10 hfz21_11 hfz21_12 hfz21_2 hfz21_3 hfz21_4 hfz21_5 hfz21_6 hfz21_7 hfz21_8 hfz21_9
       try clear hfz7_0 hfz7_1 hfz7_10 hfz7_11 hfz7_12 hfz7_2 hfz7_3 hfz7_4 hfz7_5 hfz7_6 hfz7_7 hfz7_8 hfz7_9
       try clear hfz9_0 hfz9_1 hfz9_10 hfz9_11 hfz9_12 hfz9_2 hfz9_3 hfz9_4 hfz9_5 hfz9_6 hfz9_7 hfz9_8 hfz9_9
       try clear p2
       obtain ⟨x50_2, rfl, HA, HK2, BK151, HB⟩ := hrel
       cases gk with
       | zero => exact absurd HA.out (by simp [head_Check.l0])
       | succ k2 =>
        have H := HA.out
        clear HA
        simp only [head_Check.l0] at H
        by_cases c22 : x50_2 < (l0_3.length : Int)
        ·rw [if_pos c22] at H
         have c22b0 := decide_eq_true c22
         clear c22
         by_cases c23 : 0 ≤ x50_2
         ·rw [if_pos c23] at H
          have c23b0 := decide_eq_true c23
          clear c23
          by_cases c24 : x50_2 < (l0_3.length : Int)
          ·rw [if_pos c24] at H
           have c24b0 := decide_eq_true c24
           clear c24
           replace H := bind_eq_some_iff.mp H
           obtain ⟨⟨t158, t159⟩, A250, H⟩ := H
           replace H : (if t159 = 0 then (if t158 = true then ((head_shut.f ((rd_T41 l0_3 x50_2).f1.f0) ((rd_T41 l0_3 x50_2).f1.f1) ((rd_T41 l0_3 x50_2).f1.f2.f0) ((rd_T41 l0_3 x50_2).f1.f2.f1) ((rd_T41 l0_3 x50_2).f1.f3.f0.f0) ((rd_T41 l0_3 x50_2).f1.f3.f0.f1) ((rd_T41 l0_3 x50_2).f1.f3.f1.f0) ((rd_T41 l0_3 x50_2).f1.f3.f1.f1) ((rd_T41 l0_3 x50_2).f1.f4)).bind fun t160 => (if t160 = true then (if x50_2 > 0 then (if 0 ≤ (wrap64 (x50_2 - 1)) then (if (wrap64 (x50_2 - 1)) < (l0_3.length : Int) then ((sub_Less.f k2 ((rd_T41 l0_3 (wrap64 (x50_2 - 1))).f0.f0) ((rd_T41 l0_3 (wrap64 (x50_2 - 1))).f0.f1) ((rd_T41 l0_3 x50_2).f0.f0) ((rd_T41 l0_3 x50_2).f0.f1)).bind fun t162 => (if t162 = true then (head_Check.l0 k2 l0_3 (l0_3.length : Int) (wrap64 (x50_2 + 1)) a0_0 a0_1 a0_2 l0_3 a0_4 a0_5 a0_6 a0_7 a0_8 a0_9 a0_10 a0_11 a0_12) else (some 1))) else (none)) else (none)) else (head_Check.l0 k2 l0_3 (l0_3.length : Int) (wrap64 (x50_2 + 1)) a0_0 a0_1 a0_2 l0_3 a0_4 a0_5 a0_6 a0_7 a0_8 a0_9 a0_10 a0_11 a0_12)) else (some 1))) else (some 1)) else (some 1)) = some r := H
           have A25 := ak_ A250
           clear A250
           by_cases c26 : t159 = 0
           ·rw [if_pos c26] at H
            have c26b0 : (t159 == 0) = true := beq_iff_eq.mpr c26
            have c26b1 : (t159 != 0) = false := bne_eq_false_iff_eq.mpr c26
            clear c26
            by_cases c27 : t158 = true
            ·subst c27
             have H1 : ((head_shut.f ((rd_T41 l0_3 x50_2).f1.f0) ((rd_T41 l0_3 x50_2).f1.f1) ((rd_T41 l0_3 x50_2).f1.f2.f0) ((rd_T41 l0_3 x50_2).f1.f2.f1) ((rd_T41 l0_3 x50_2).f1.f3.f0.f0) ((rd_T41 l0_3 x50_2).f1.f3.f0.f1) ((rd_T41 l0_3 x50_2).f1.f3.f1.f0) ((rd_T41 l0_3 x50_2).f1.f3.f1.f1) ((rd_T41 l0_3 x50_2).f1.f4)).bind fun t160 => (if t160 = true then (if x50_2 > 0 then (if 0 ≤ (wrap64 (x50_2 - 1)) then (if (wrap64 (x50_2 - 1)) < (l0_3.length : Int) then ((sub_Less.f k2 ((rd_T41 l0_3 (wrap64 (x50_2 - 1))).f0.f0) ((rd_T41 l0_3 (wrap64 (x50_2 - 1))).f0.f1) ((rd_T41 l0_3 x50_2).f0.f0) ((rd_T41 l0_3 x50_2).f0.f1)).bind fun t162 => (if t162 = true then (head_Check.l0 k2 l0_3 (l0_3.length : Int) (wrap64 (x50_2 + 1)) a0_0 a0_1 a0_2 l0_3 a0_4 a0_5 a0_6 a0_7 a0_8 a0_9 a0_10 a0_11 a0_12) else (some 1))) else (none)) else (none)) else (head_Check.l0 k2 l0_3 (l0_3.length : Int) (wrap64 (x50_2 + 1)) a0_0 a0_1 a0_2 l0_3 a0_4 a0_5 a0_6 a0_7 a0_8 a0_9 a0_10 a0_11 a0_12)) else (some 1))) = some r := by rw [if_pos rfl] at H; exact H
             clear H
             have H := H1
             clear H1
             replace H := bind_eq_some_iff.mp H
             obtain ⟨t160, A280, H⟩ := H
             replace H : (if t160 = true then (if x50_2 > 0 then (if 0 ≤ (wrap64 (x50_2 - 1)) then (if (wrap64 (x50_2 - 1)) < (l0_3.length : Int) then ((sub_Less.f k2 ((rd_T41 l0_3 (wrap64 (x50_2 - 1))).f0.f0) ((rd_T41 l0_3 (wrap64 (x50_2 - 1))).f0.f1) ((rd_T41 l0_3 x50_2).f0.f0) ((rd_T41 l0_3 x50_2).f0.f1)).bind fun t162 => (if t162 = true then (head_Check.l0 k2 l0_3 (l0_3.length : Int) (wrap64 (x50_2 + 1)) a0_0 a0_1 a0_2 l0_3 a0_4 a0_5 a0_6 a0_7 a0_8 a0_9 a0_10 a0_11 a0_12) else (some 1))) else (none)) else (none)) else (head_Check.l0 k2 l0_3 (l0_3.length : Int) (wrap64 (x50_2 + 1)) a0_0 a0_1 a0_2 l0_3 a0_4 a0_5 a0_6 a0_7 a0_8 a0_9 a0_10 a0_11 a0_12)) else (some 1)) = some r := H
             have A28 := ak_ A280
             clear A280
             by_cases c29 : t160 = true
             ·subst c29
              have H1 : (if x50_2 > 0 then (if 0 ≤ (wrap64 (x50_2 - 1)) then (if (wrap64 (x50_2 - 1)) < (l0_3.length : Int) then ((sub_Less.f k2 ((rd_T41 l0_3 (wrap64 (x50_2 - 1))).f0.f0) ((rd_T41 l0_3 (wrap64 (x50_2 - 1))).f0.f1) ((rd_T41 l0_3 x50_2).f0.f0) ((rd_T41 l0_3 x50_2).f0.f1)).bind fun t162 => (if t162 = true then (head_Check.l0 k2 l0_3 (l0_3.length : Int) (wrap64 (x50_2 + 1)) a0_0 a0_1 a0_2 l0_3 a0_4 a0_5 a0_6 a0_7 a0_8 a0_9 a0_10 a0_11 a0_12) else (some 1))) else (none)) else (none)) else (head_Check.l0 k2 l0_3 (l0_3.length : Int) (wrap64 (x50_2 + 1)) a0_0 a0_1 a0_2 l0_3 a0_4 a0_5 a0_6 a0_7 a0_8 a0_9 a0_10 a0_11 a0_12)) = some r := by rw [if_pos rfl] at H; exact H
              clear H
              have H := H1
              clear H1
              by_cases c30 : x50_2 > 0
              ·rw [if_pos c30] at H
               have c30b0 : decide (0 < x50_2) = true := decide_eq_true c30
               clear c30
               obtain ⟨ji31, hji31⟩ : ∃ j_ : Int, (wrap64 (x50_2 - 1)) = j_ := ⟨_, rfl⟩
               replace H : (if 0 ≤ (ji31) then (if (ji31) < (l0_3.length : Int) then ((sub_Less.f k2 ((rd_T41 l0_3 (ji31)).f0.f0) ((rd_T41 l0_3 (ji31)).f0.f1) ((rd_T41 l0_3 x50_2).f0.f0) ((rd_T41 l0_3 x50_2).f0.f1)).bind fun t162 => (if t162 = true then (head_Check.l0 k2 l0_3 (l0_3.length : Int) (wrap64 (x50_2 + 1)) a0_0 a0_1 a0_2 l0_3 a0_4 a0_5 a0_6 a0_7 a0_8 a0_9 a0_10 a0_11 a0_12) else (some 1))) else (none)) else (none)) = some r := by first | (rw [hji31] at H; exact H) | (simp only [hji31] at H ⊢; exact H)
               (try rw [hji31] at A25)
               (try rw [hji31] at A28)
               have hji31w : (IntKind.i64.wrap (x50_2 - 1)) = ji31 := (i64_w _).trans hji31
               by_cases c32 : 0 ≤ (ji31)
               ·rw [if_pos c32] at H
                have c32b0 := decide_eq_true c32
                clear c32
                by_cases c33 : (ji31) < (l0_3.length : Int)
                ·rw [if_pos c33] at H
                 have c33b0 := decide_eq_true c33
                 clear c33
                 replace H := bind_eq_some_iff.mp H
                 obtain ⟨t162, A340, H⟩ := H
                 replace H : (if t162 = true then (head_Check.l0 k2 l0_3 (l0_3.length : Int) (wrap64 (x50_2 + 1)) a0_0 a0_1 a0_2 l0_3 a0_4 a0_5 a0_6 a0_7 a0_8 a0_9 a0_10 a0_11 a0_12) else (some 1)) = some r := H
                 have A34 := ak_ A340
                 clear A340
                 by_cases c35 : t162 = true
                 ·subst c35
                  have H1 : (head_Check.l0 k2 l0_3 (l0_3.length : Int) (wrap64 (x50_2 + 1)) a0_0 a0_1 a0_2 l0_3 a0_4 a0_5 a0_6 a0_7 a0_8 a0_9 a0_10 a0_11 a0_12) = some r := by rw [if_pos rfl] at H; exact H
                  clear H
                  have H := H1
                  clear H1
                  have H' := ak_ H
                  clear H
                  have p156 : 0 ≤ (x50_2 : Int) := od_ (by first | (with_reducible assumption) | assumption)
                  have q156 : x50_2 < (l0_3.length : Int) := od_ (by first | (with_reducible assumption) | assumption)
                  obtain ⟨ad156, e156, hx156_0, hx156_1, hx156_2, hx156_3, hx156_4, hx156_5, hx156_6, hx156_7, hx156_8, hx156_9, hx156_10⟩ := at_T41 HR0_3.out x50_2 p156 q156
                  cases e156
                  replace hx156_0 := cx_ HB hx156_0
                  replace hx156_1 := cx_ HB hx156_1
                  replace hx156_2 := cx_ HB hx156_2
                  replace hx156_3 := cx_ HB hx156_3
                  replace hx156_4 := cx_ HB hx156_4
                  replace hx156_5 := cx_ HB hx156_5
                  replace hx156_6 := cx_ HB hx156_6
                  replace hx156_7 := cx_ HB hx156_7
                  replace hx156_8 := cx_ HB hx156_8
                  replace hx156_9 := cx_ HB hx156_9
                  replace hx156_10 := cx_ HB hx156_10
                  replace p156 := eq_true p156
                  replace q156 := eq_true q156
                  try go_wp2_with (first | ((with_reducible refine gate_dst (N := 6) rfl ?_); (try (refine gate_guard (by rfl) ?_; dsimp only)); refine bx_ 6 #[.int .u64 0, .int .u64 0, .bool false, .bool false, .int .u64 0, .int .u64 0, .int .u64 0, .int .u64 0, .int .u64 0, .int .u64 0, .int .i64 0] 41 ?_; intro gb157 hg w36 hbox hb; have BK157 := ak_ hbox; have GW157 := ak_ (gw1_ HB GE151 hg); have GE157 := ak_ (gw1_ HB GE151 hg); replace HB := ak_ (bt_ (bw1_ HB GE151) hb); have NB151_157 := ak_ (nl_ hg BK151); have NB157_151 := ak_ (nr_ hg BK151); replace BK151 := ak_ (kb_ (kl_ BK151) hb); clear hb hbox hg; have hnb37 := NB157_151.out; have hnc37 := NB151_157.out; obtain ⟨hcz38_0, hcz38_1, hcz38_2, hcz38_3, hcz38_4, hcz38_5, hcz38_6, hcz38_7, hcz38_8, hcz38_9, hcz38_10, hfz38_0, hfz38_1, hfz38_2, hfz38_3, hfz38_4, hfz38_5, hfz38_6, hfz38_7, hfz38_8, hfz38_9, hfz38_10⟩ := kc11_ BK157.out; obtain ⟨hcz39_0, hcz39_1, hcz39_2, hcz39_3, hcz39_4, hcz39_5, hcz39_6, hcz39_7, hcz39_8, hcz39_9, hcz39_10, hcz39_11, hcz39_12, hfz39_0, hfz39_1, hfz39_2, hfz39_3, hfz39_4, hfz39_5, hfz39_6, hfz39_7, hfz39_8, hfz39_9, hfz39_10, hfz39_11, hfz39_12⟩ := kc13_ BK151.out) | ((with_reducible refine gate_callee (f := 48) rfl ?_); refine gl_ (some 62) func48 #[.int .i64 a0_1, .int .i64 a0_0, .agg #[.int .u64 ((rd_T41 l0_3 x50_2).f0.f0), .int .u64 ((rd_T41 l0_3 x50_2).f0.f1)]] ?_; (with_reducible refine (layer_May.calls k2 a0_1 a0_0 ((rd_T41 l0_3 x50_2).f0.f0) ((rd_T41 l0_3 x50_2).f0.f1) true t159 _ A25.out).mono ?_); rintro e w40 ⟨rfl, hb⟩; refine ⟨_, rfl, ?_⟩; replace BK151 := ak_ (kb_ (g := gb151) (o := .cells #[.int .i64 a0_0, .int .i64 a0_1, .int .i64 a0_2, .slice (some ad156) l0_3.length c0_3, .bool a0_4, .bool a0_5, .int .u64 a0_6, .int .u64 a0_7, .int .u64 a0_8, .int .u64 a0_9, .int .u64 a0_10, .int .u64 a0_11, .int .i64 a0_12] 31 (0, 0)) (by (with_reducible repeat (first | refine kn_ ?_ _ | refine kd_ ?_ | refine ka_ ?_ _)); (iterate 11 refine blk_far ?_ NB151_157.out _); exact BK151.out) hb); replace BK157 := ak_ (kb_ (g := gb157) (o := .cells #[.int .u64 ((rd_T41 l0_3 x50_2).f0.f0), .int .u64 ((rd_T41 l0_3 x50_2).f0.f1), .bool ((rd_T41 l0_3 x50_2).f1.f0), .bool ((rd_T41 l0_3 x50_2).f1.f1), .int .u64 ((rd_T41 l0_3 x50_2).f1.f2.f0), .int .u64 ((rd_T41 l0_3 x50_2).f1.f2.f1), .int .u64 ((rd_T41 l0_3 x50_2).f1.f3.f0.f0), .int .u64 ((rd_T41 l0_3 x50_2).f1.f3.f0.f1), .int .u64 ((rd_T41 l0_3 x50_2).f1.f3.f1.f0), .int .u64 ((rd_T41 l0_3 x50_2).f1.f3.f1.f1), .int .i64 ((rd_T41 l0_3 x50_2).f1.f4)] 41 (0, 0)) (by (with_reducible repeat (first | refine kn_ ?_ _ | refine kd_ ?_ | refine ka_ ?_ _)); exact sC_blk BK157.out rfl rfl) hb); replace HB := ak_ (bt_ (bw2_ HB GE151 GE157) hb); (try clear hb); (try clear hk)))
                  replace BK151 := ak_ (kd_ BK151.out)
                  replace BK157 := ak_ (kd_ BK157.out)
                  replace HB := ak_ (bd_ HB.out)
                  have p161 : 0 ≤ ((ji31) : Int) := od_ (by first | (with_reducible assumption) | assumption)
                  have q161 : (ji31) < (l0_3.length : Int) := od_ (by first | (with_reducible assumption) | assumption)
                  obtain ⟨ad161, e161, hx161_0, hx161_1, hx161_2, hx161_3, hx161_4, hx161_5, hx161_6, hx161_7, hx161_8, hx161_9, hx161_10⟩ := at_T41 HR0_3.out (ji31) p161 q161
                  have hw161_10 := hx161_10
                  have hw161_9 := hx161_9
                  have hw161_8 := hx161_8
                  have hw161_7 := hx161_7
                  have hw161_6 := hx161_6
                  have hw161_5 := hx161_5
                  have hw161_4 := hx161_4
                  have hw161_3 := hx161_3
                  have hw161_2 := hx161_2
                  have hw161_1 := hx161_1
                  have hw161_0 := hx161_0
                  obtain rfl : ad156 = ad161 := (by injection e161)
                  replace hx161_0 := cx_ HB hx161_0
                  replace hx161_1 := cx_ HB hx161_1
                  replace hx161_2 := cx_ HB hx161_2
                  replace hx161_3 := cx_ HB hx161_3
                  replace hx161_4 := cx_ HB hx161_4
                  replace hx161_5 := cx_ HB hx161_5
                  replace hx161_6 := cx_ HB hx161_6
                  replace hx161_7 := cx_ HB hx161_7
                  replace hx161_8 := cx_ HB hx161_8
                  replace hx161_9 := cx_ HB hx161_9
                  replace hx161_10 := cx_ HB hx161_10
                  replace p161 := eq_true p161
                  replace q161 := eq_true q161
                  refine start_ (n := 29) (S := fun w' => w'.cell? ⟨gb157, 0, none⟩ = some (.int .u64 ((rd_T41 l0_3 x50_2).f0.f0)) ∧ w'.cell? ⟨gb157, 1, none⟩ = some (.int .u64 ((rd_T41 l0_3 x50_2).f0.f1)) ∧ w'.cell? ⟨gb157, 2, none⟩ = some (.bool ((rd_T41 l0_3 x50_2).f1.f0)) ∧ w'.cell? ⟨gb157, 3, none⟩ = some (.bool ((rd_T41 l0_3 x50_2).f1.f1)) ∧ w'.cell? ⟨gb157, 4, none⟩ = some (.int .u64 ((rd_T41 l0_3 x50_2).f1.f2.f0)) ∧ w'.cell? ⟨gb157, 5, none⟩ = some (.int .u64 ((rd_T41 l0_3 x50_2).f1.f2.f1)) ∧ w'.cell? ⟨gb157, 6, none⟩ = some (.int .u64 ((rd_T41 l0_3 x50_2).f1.f3.f0.f0)) ∧ w'.cell? ⟨gb157, 7, none⟩ = some (.int .u64 ((rd_T41 l0_3 x50_2).f1.f3.f0.f1)) ∧ w'.cell? ⟨gb157, 8, none⟩ = some (.int .u64 ((rd_T41 l0_3 x50_2).f1.f3.f1.f0)) ∧ w'.cell? ⟨gb157, 9, none⟩ = some (.int .u64 ((rd_T41 l0_3 x50_2).f1.f3.f1.f1)) ∧ w'.cell? ⟨gb157, 10, none⟩ = some (.int .i64 ((rd_T41 l0_3 x50_2).f1.f4)) ∧ w'.cell? ⟨gb151, 0, none⟩ = some (.int .i64 a0_0) ∧ w'.cell? ⟨gb151, 1, none⟩ = some (.int .i64 a0_1) ∧ w'.cell? ⟨gb151, 2, none⟩ = some (.int .i64 a0_2) ∧ w'.cell? ⟨gb151, 3, none⟩ = some (.slice (some ad156) l0_3.length c0_3) ∧ w'.cell? ⟨gb151, 4, none⟩ = some (.bool a0_4) ∧ w'.cell? ⟨gb151, 5, none⟩ = some (.bool a0_5) ∧ w'.cell? ⟨gb151, 6, none⟩ = some (.int .u64 a0_6) ∧ w'.cell? ⟨gb151, 7, none⟩ = some (.int .u64 a0_7) ∧ w'.cell? ⟨gb151, 8, none⟩ = some (.int .u64 a0_8) ∧ w'.cell? ⟨gb151, 9, none⟩ = some (.int .u64 a0_9) ∧ w'.cell? ⟨gb151, 10, none⟩ = some (.int .u64 a0_10) ∧ w'.cell? ⟨gb151, 11, none⟩ = some (.int .u64 a0_11) ∧ w'.cell? ⟨gb151, 12, none⟩ = some (.int .i64 a0_12) ∧ w'.cell? (ad156.add (((ji31)).toNat * 11)) = some (.int .u64 ((rd_T41 l0_3 (ji31)).f0.f0)) ∧ w'.cell? ⟨(ad156.add (((ji31)).toNat * 11)).block, (ad156.add (((ji31)).toNat * 11)).off + 1, none⟩ = some (.int .u64 ((rd_T41 l0_3 (ji31)).f0.f1)) ∧ w'.cell? ⟨(ad156.add (((ji31)).toNat * 11)).block, (ad156.add (((ji31)).toNat * 11)).off + 2, none⟩ = some (.bool ((rd_T41 l0_3 (ji31)).f1.f0)) ∧ w'.cell? ⟨(ad156.add (((ji31)).toNat * 11)).block, (ad156.add (((ji31)).toNat * 11)).off + 3, none⟩ = some (.bool ((rd_T41 l0_3 (ji31)).f1.f1)) ∧ w'.cell? ⟨(ad156.add (((ji31)).toNat * 11)).block, (ad156.add (((ji31)).toNat * 11)).off + 4, none⟩ = some (.int .u64 ((rd_T41 l0_3 (ji31)).f1.f2.f0)) ∧ w'.cell? ⟨(ad156.add (((ji31)).toNat * 11)).block, (ad156.add (((ji31)).toNat * 11)).off + 5, none⟩ = some (.int .u64 ((rd_T41 l0_3 (ji31)).f1.f2.f1)) ∧ w'.cell? ⟨(ad156.add (((ji31)).toNat * 11)).block, (ad156.add (((ji31)).toNat * 11)).off + 6, none⟩ = some (.int .u64 ((rd_T41 l0_3 (ji31)).f1.f3.f0.f0)) ∧ w'.cell? ⟨(ad156.add (((ji31)).toNat * 11)).block, (ad156.add (((ji31)).toNat * 11)).off + 7, none⟩ = some (.int .u64 ((rd_T41 l0_3 (ji31)).f1.f3.f0.f1)) ∧ w'.cell? ⟨(ad156.add (((ji31)).toNat * 11)).block, (ad156.add (((ji31)).toNat * 11)).off + 8, none⟩ = some (.int .u64 ((rd_T41 l0_3 (ji31)).f1.f3.f1.f0)) ∧ w'.cell? ⟨(ad156.add (((ji31)).toNat * 11)).block, (ad156.add (((ji31)).toNat * 11)).off + 9, none⟩ = some (.int .u64 ((rd_T41 l0_3 (ji31)).f1.f3.f1.f1)) ∧ w'.cell? ⟨(ad156.add (((ji31)).toNat * 11)).block, (ad156.add (((ji31)).toNat * 11)).off + 10, none⟩ = some (.int .i64 ((rd_T41 l0_3 (ji31)).f1.f4))) (ds := []) #[false, false, false, false, false, false, false, false, false, false, false, false, false, false, false, false, false, false, false, false, false, false, false, false, false, false, false, false, false] (by kernel_rfl) rfl rfl ⟨kq_ BK157.out 0 rfl, kq_ BK157.out 1 rfl, kq_ BK157.out 2 rfl, kq_ BK157.out 3 rfl, kq_ BK157.out 4 rfl, kq_ BK157.out 5 rfl, kq_ BK157.out 6 rfl, kq_ BK157.out 7 rfl, kq_ BK157.out 8 rfl, kq_ BK157.out 9 rfl, kq_ BK157.out 10 rfl, kq_ BK151.out 0 rfl, kq_ BK151.out 1 rfl, kq_ BK151.out 2 rfl, kq_ BK151.out 3 rfl, kq_ BK151.out 4 rfl, kq_ BK151.out 5 rfl, kq_ BK151.out 6 rfl, kq_ BK151.out 7 rfl, kq_ BK151.out 8 rfl, kq_ BK151.out 9 rfl, kq_ BK151.out 10 rfl, kq_ BK151.out 11 rfl, kq_ BK151.out 12 rfl, ((HB.out.cell (World.block_lt_of_cell? w _ hw161_0)).trans hw161_0), ((HB.out.cell (World.block_lt_of_cell? w _ hw161_1)).trans hw161_1), ((HB.out.cell (World.block_lt_of_cell? w _ hw161_2)).trans hw161_2), ((HB.out.cell (World.block_lt_of_cell? w _ hw161_3)).trans hw161_3), ((HB.out.cell (World.block_lt_of_cell? w _ hw161_4)).trans hw161_4), ((HB.out.cell (World.block_lt_of_cell? w _ hw161_5)).trans hw161_5), ((HB.out.cell (World.block_lt_of_cell? w _ hw161_6)).trans hw161_6), ((HB.out.cell (World.block_lt_of_cell? w _ hw161_7)).trans hw161_7), ((HB.out.cell (World.block_lt_of_cell? w _ hw161_8)).trans hw161_8), ((HB.out.cell (World.block_lt_of_cell? w _ hw161_9)).trans hw161_9), ((HB.out.cell (World.block_lt_of_cell? w _ hw161_10)).trans hw161_10)⟩ (fun hHeld => ?_); refine with_tabW head_Check.tab10 head_Check.bits10 (fun HT_ HW_ => ?_)
                  generalize w40.drew = w41 at BK151 BK157 HB hx161_0 hx161_1 hx161_10 hx161_2 hx161_3 hx161_4 hx161_5 hx161_6 hx161_7 hx161_8 hx161_9 hHeld ⊢
                  refine pu_ HT_ 0 (some 65) (bA3 1 29) ?_
                  refine pu_ HT_ 1 (some 66) (bA3 2 29) ?_
                  refine pu_ HT_ 2 (some 67) (bA3 3 29) ?_
                  refine pu_ HT_ 3 (some 68) (bA3 4 29) ?_
                  refine pu_ HT_ 4 (some 69) (bA3 5 29) ?_
                  refine pu_ HT_ 5 (some 70) (bA3 6 29) ?_
                  refine pu_ HT_ 6 (some 71) (bA3 7 29) ?_
                  refine pu_ HT_ 7 (some 72) (bA3 8 29) ?_
                  refine tk_ HT_ HW_ hHeld 8 (some 73) (bA3 9 29) rfl (by rintro w' ⟨s0, s1, s2, s3, s4, s5, s6, s7, s8, s9, s10, s11, s12, s13, s14, s15, s16, s17, s18, s19, s20, s21, s22, s23, s24, s25, s26, s27, s28, s29, s30, s31, s32, s33, s34⟩; go_simp; with_reducible rfl) ?_
                  refine one_ (i := 9) (N := some 74) (bA3 10 29) rfl rfl (one_of HT_.out (by kernel_rfl)) (by decide) (fun K hK => ?_)
                  refine gg_ func47 #[.agg #[.bool ((rd_T41 l0_3 x50_2).f1.f0), .bool ((rd_T41 l0_3 x50_2).f1.f1), .int .u64 ((rd_T41 l0_3 x50_2).f1.f2.f0), .int .u64 ((rd_T41 l0_3 x50_2).f1.f2.f1), .int .u64 ((rd_T41 l0_3 x50_2).f1.f3.f0.f0), .int .u64 ((rd_T41 l0_3 x50_2).f1.f3.f0.f1), .int .u64 ((rd_T41 l0_3 x50_2).f1.f3.f1.f0), .int .u64 ((rd_T41 l0_3 x50_2).f1.f3.f1.f1), .int .i64 ((rd_T41 l0_3 x50_2).f1.f4)]] ?_
                  with_reducible refine (head_shut.calls ((rd_T41 l0_3 x50_2).f1.f0) ((rd_T41 l0_3 x50_2).f1.f1) ((rd_T41 l0_3 x50_2).f1.f2.f0) ((rd_T41 l0_3 x50_2).f1.f2.f1) ((rd_T41 l0_3 x50_2).f1.f3.f0.f0) ((rd_T41 l0_3 x50_2).f1.f3.f0.f1) ((rd_T41 l0_3 x50_2).f1.f3.f1.f0) ((rd_T41 l0_3 x50_2).f1.f3.f1.f1) ((rd_T41 l0_3 x50_2).f1.f4) true _ A28.out).mono ?_
                  rintro e w42 ⟨rfl, hb⟩
                  refine ⟨_, rfl, ?_⟩
                  replace BK151 := ak_ (kb_ (kl_ BK151) hb)
                  replace BK157 := ak_ (kb_ (kl_ BK157) hb)
                  replace HB := ak_ (bt_ (bw2_ HB GE151 GE157) hb)
                  (try clear hb)
                  (try clear hb2)
                  (try clear hk)
                  (try clear hi)
                  refine hK.out _ _ ⟨kq_ BK157.out 0 rfl, kq_ BK157.out 1 rfl, kq_ BK157.out 2 rfl, kq_ BK157.out 3 rfl, kq_ BK157.out 4 rfl, kq_ BK157.out 5 rfl, kq_ BK157.out 6 rfl, kq_ BK157.out 7 rfl, kq_ BK157.out 8 rfl, kq_ BK157.out 9 rfl, kq_ BK157.out 10 rfl, kq_ BK151.out 0 rfl, kq_ BK151.out 1 rfl, kq_ BK151.out 2 rfl, kq_ BK151.out 3 rfl, kq_ BK151.out 4 rfl, kq_ BK151.out 5 rfl, kq_ BK151.out 6 rfl, kq_ BK151.out 7 rfl, kq_ BK151.out 8 rfl, kq_ BK151.out 9 rfl, kq_ BK151.out 10 rfl, kq_ BK151.out 11 rfl, kq_ BK151.out 12 rfl, ((HB.out.cell (World.block_lt_of_cell? w _ hw161_0)).trans hw161_0), ((HB.out.cell (World.block_lt_of_cell? w _ hw161_1)).trans hw161_1), ((HB.out.cell (World.block_lt_of_cell? w _ hw161_2)).trans hw161_2), ((HB.out.cell (World.block_lt_of_cell? w _ hw161_3)).trans hw161_3), ((HB.out.cell (World.block_lt_of_cell? w _ hw161_4)).trans hw161_4), ((HB.out.cell (World.block_lt_of_cell? w _ hw161_5)).trans hw161_5), ((HB.out.cell (World.block_lt_of_cell? w _ hw161_6)).trans hw161_6), ((HB.out.cell (World.block_lt_of_cell? w _ hw161_7)).trans hw161_7), ((HB.out.cell (World.block_lt_of_cell? w _ hw161_8)).trans hw161_8), ((HB.out.cell (World.block_lt_of_cell? w _ hw161_9)).trans hw161_9), ((HB.out.cell (World.block_lt_of_cell? w _ hw161_10)).trans hw161_10)⟩ (fun hHeld => ?_)
                  clear hK K
                  refine norm_ (a' := ?_) ?_ ?_
                  rotate_left
                  ·show Act.put _ (some 74) _ = _
                   simp only [Act.put, setIfInBounds_toArray, set_cons_zero, set_cons_succ, i64_w, i32_w]
                   rfl
                  refine pu_ HT_ 10 (some 75) (bA3 11 29) ?_
                  refine pu_ HT_ 11 (some 76) (bA3 12 29) ?_
                  refine pu_ HT_ 12 (some 77) (bA3 13 29) ?_
                  refine pu_ HT_ 13 (some 78) (bA3 14 29) ?_
                  refine pu_ HT_ 14 (some 79) (bA3 15 29) ?_
                  refine pu_ HT_ 15 (some 80) (bA3 16 29) ?_
                  refine pu_ HT_ 16 (some 81) (bA3 17 29) ?_
                  refine pu_ HT_ 18 (some 83) #[true, true, true, true, true, true, true, true, true, true, true, true, true, true, true, true, true, false, true, false, false, false, false, false, false, false, false, false, false] ?_
                  refine pu_ HT_ 19 (some 84) #[true, true, true, true, true, true, true, true, true, true, true, true, true, true, true, true, true, false, true, true, false, false, false, false, false, false, false, false, false] ?_
                  refine pu_ HT_ 23 (some 88) #[true, true, true, true, true, true, true, true, true, true, true, true, true, true, true, true, true, false, true, true, false, false, false, true, false, false, false, false, false] ?_
                  refine tk_ HT_ HW_ hHeld 17 (some 82) #[true, true, true, true, true, true, true, true, true, true, true, true, true, true, true, true, true, true, true, true, false, false, false, true, false, false, false, false, false] rfl (by rintro w' ⟨s0, s1, s2, s3, s4, s5, s6, s7, s8, s9, s10, s11, s12, s13, s14, s15, s16, s17, s18, s19, s20, s21, s22, s23, s24, s25, s26, s27, s28, s29, s30, s31, s32, s33, s34⟩; go_simp; with_reducible rfl) ?_
                  refine pu_ HT_ 20 (some 85) #[true, true, true, true, true, true, true, true, true, true, true, true, true, true, true, true, true, true, true, true, true, false, false, true, false, false, false, false, false] ?_
                  refine pu_ HT_ 21 (some 86) #[true, true, true, true, true, true, true, true, true, true, true, true, true, true, true, true, true, true, true, true, true, true, false, true, false, false, false, false, false] ?_
                  refine tk_ HT_ HW_ hHeld 22 (some 87) (bA3 24 29) rfl (by rintro w' ⟨s0, s1, s2, s3, s4, s5, s6, s7, s8, s9, s10, s11, s12, s13, s14, s15, s16, s17, s18, s19, s20, s21, s22, s23, s24, s25, s26, s27, s28, s29, s30, s31, s32, s33, s34⟩; go_simp; with_reducible rfl) ?_
                  refine tk_ HT_ HW_ hHeld 24 (some 89) (bA3 25 29) rfl (by rintro w' ⟨s0, s1, s2, s3, s4, s5, s6, s7, s8, s9, s10, s11, s12, s13, s14, s15, s16, s17, s18, s19, s20, s21, s22, s23, s24, s25, s26, s27, s28, s29, s30, s31, s32, s33, s34⟩; go_simp; with_reducible rfl) ?_
                  refine one_ (i := 25) (N := some 90) (bA3 26 29) rfl rfl (one_of HT_.out (by kernel_rfl)) (by decide) (fun K hK => ?_)
                  refine goes_ func49 (by kernel_rfl) rfl #[.agg #[.int .u64 ((rd_T41 l0_3 (ji31)).f0.f0), .int .u64 ((rd_T41 l0_3 (ji31)).f0.f1)], .agg #[.int .u64 ((rd_T41 l0_3 x50_2).f0.f0), .int .u64 ((rd_T41 l0_3 x50_2).f0.f1)]] (by rfl) rfl rfl (by (try simp only [map_toArray, map_cons, map_nil]); first | done | (simp only [hji31]; rfl) | rfl | (simp only [length_drop, length_take]; rfl)) ?_
                  with_reducible refine (sub_Less.calls k2 ((rd_T41 l0_3 (ji31)).f0.f0) ((rd_T41 l0_3 (ji31)).f0.f1) ((rd_T41 l0_3 x50_2).f0.f0) ((rd_T41 l0_3 x50_2).f0.f1) true _ A34.out).mono ?_
                  rintro e w43 ⟨rfl, hb⟩
                  refine ⟨_, rfl, ?_⟩
                  replace BK151 := ak_ (kb_ (kl_ BK151) hb)
                  replace BK157 := ak_ (kb_ (kl_ BK157) hb)
                  replace HB := ak_ (bt_ (bw2_ HB GE151 GE157) hb)
                  (try clear hb)
                  (try clear hb2)
                  (try clear hk)
                  (try clear hi)
                  refine hK.out _ _ ⟨kq_ BK157.out 0 rfl, kq_ BK157.out 1 rfl, kq_ BK157.out 2 rfl, kq_ BK157.out 3 rfl, kq_ BK157.out 4 rfl, kq_ BK157.out 5 rfl, kq_ BK157.out 6 rfl, kq_ BK157.out 7 rfl, kq_ BK157.out 8 rfl, kq_ BK157.out 9 rfl, kq_ BK157.out 10 rfl, kq_ BK151.out 0 rfl, kq_ BK151.out 1 rfl, kq_ BK151.out 2 rfl, kq_ BK151.out 3 rfl, kq_ BK151.out 4 rfl, kq_ BK151.out 5 rfl, kq_ BK151.out 6 rfl, kq_ BK151.out 7 rfl, kq_ BK151.out 8 rfl, kq_ BK151.out 9 rfl, kq_ BK151.out 10 rfl, kq_ BK151.out 11 rfl, kq_ BK151.out 12 rfl, ((HB.out.cell (World.block_lt_of_cell? w _ hw161_0)).trans hw161_0), ((HB.out.cell (World.block_lt_of_cell? w _ hw161_1)).trans hw161_1), ((HB.out.cell (World.block_lt_of_cell? w _ hw161_2)).trans hw161_2), ((HB.out.cell (World.block_lt_of_cell? w _ hw161_3)).trans hw161_3), ((HB.out.cell (World.block_lt_of_cell? w _ hw161_4)).trans hw161_4), ((HB.out.cell (World.block_lt_of_cell? w _ hw161_5)).trans hw161_5), ((HB.out.cell (World.block_lt_of_cell? w _ hw161_6)).trans hw161_6), ((HB.out.cell (World.block_lt_of_cell? w _ hw161_7)).trans hw161_7), ((HB.out.cell (World.block_lt_of_cell? w _ hw161_8)).trans hw161_8), ((HB.out.cell (World.block_lt_of_cell? w _ hw161_9)).trans hw161_9), ((HB.out.cell (World.block_lt_of_cell? w _ hw161_10)).trans hw161_10)⟩ (fun hHeld => ?_)
                  clear hK K
                  refine norm_ (a' := ?_) ?_ ?_
                  rotate_left
                  ·show Act.put _ (some 90) _ = _
                   simp only [Act.put, setIfInBounds_toArray, set_cons_zero, set_cons_succ, i64_w, i32_w]
                   rfl
                  refine pu_ HT_ 26 (some 91) (bA3 27 29) ?_
                  refine pu_ HT_ 27 (some 92) (bA3 28 29) ?_
                  refine pu_ HT_ 28 (some 93) (bA3 29 29) ?_
                  refine done_ (done_of HT_.out (by kernel_rfl)) ?_
                  try go_wp2
                  go_roundg k2
                  case measure => have := HJ1.out; have := HK2.out; omega
                  case rel => exact ⟨(wrap64 (x50_2 + 1)), rf_, H', ⟨by have := HJ1.out; have := HK2.out; omega⟩, ⟨kl_ BK151⟩, ⟨bw2_ HB GE151 GE157⟩⟩
                 ·replace c35 := Bool.eq_false_iff.mpr c35
                  subst c35
                  have H1 : (some 1) = some r := by rw [if_neg (show ¬ (false = true) by decide)] at H; exact H
                  clear H
                  have H := H1
                  clear H1
                  obtain rfl := Option.some.inj H
                  have p156 : 0 ≤ (x50_2 : Int) := od_ (by first | (with_reducible assumption) | assumption)
                  have q156 : x50_2 < (l0_3.length : Int) := od_ (by first | (with_reducible assumption) | assumption)
                  obtain ⟨ad156, e156, hx156_0, hx156_1, hx156_2, hx156_3, hx156_4, hx156_5, hx156_6, hx156_7, hx156_8, hx156_9, hx156_10⟩ := at_T41 HR0_3.out x50_2 p156 q156
                  cases e156
                  replace hx156_0 := cx_ HB hx156_0
                  replace hx156_1 := cx_ HB hx156_1
                  replace hx156_2 := cx_ HB hx156_2
                  replace hx156_3 := cx_ HB hx156_3
                  replace hx156_4 := cx_ HB hx156_4
                  replace hx156_5 := cx_ HB hx156_5
                  replace hx156_6 := cx_ HB hx156_6
                  replace hx156_7 := cx_ HB hx156_7
                  replace hx156_8 := cx_ HB hx156_8
                  replace hx156_9 := cx_ HB hx156_9
                  replace hx156_10 := cx_ HB hx156_10
                  replace p156 := eq_true p156
                  replace q156 := eq_true q156
                  try go_wp2_with (first | ((with_reducible refine gate_dst (N := 6) rfl ?_); (try (refine gate_guard (by rfl) ?_; dsimp only)); refine bx_ 6 #[.int .u64 0, .int .u64 0, .bool false, .bool false, .int .u64 0, .int .u64 0, .int .u64 0, .int .u64 0, .int .u64 0, .int .u64 0, .int .i64 0] 41 ?_; intro gb157 hg w44 hbox hb; have BK157 := ak_ hbox; have GW157 := ak_ (gw1_ HB GE151 hg); have GE157 := ak_ (gw1_ HB GE151 hg); replace HB := ak_ (bt_ (bw1_ HB GE151) hb); have NB151_157 := ak_ (nl_ hg BK151); have NB157_151 := ak_ (nr_ hg BK151); replace BK151 := ak_ (kb_ (kl_ BK151) hb); clear hb hbox hg; have hnb45 := NB157_151.out; have hnc45 := NB151_157.out; obtain ⟨hcz46_0, hcz46_1, hcz46_2, hcz46_3, hcz46_4, hcz46_5, hcz46_6, hcz46_7, hcz46_8, hcz46_9, hcz46_10, hfz46_0, hfz46_1, hfz46_2, hfz46_3, hfz46_4, hfz46_5, hfz46_6, hfz46_7, hfz46_8, hfz46_9, hfz46_10⟩ := kc11_ BK157.out; obtain ⟨hcz47_0, hcz47_1, hcz47_2, hcz47_3, hcz47_4, hcz47_5, hcz47_6, hcz47_7, hcz47_8, hcz47_9, hcz47_10, hcz47_11, hcz47_12, hfz47_0, hfz47_1, hfz47_2, hfz47_3, hfz47_4, hfz47_5, hfz47_6, hfz47_7, hfz47_8, hfz47_9, hfz47_10, hfz47_11, hfz47_12⟩ := kc13_ BK151.out) | ((with_reducible refine gate_callee (f := 48) rfl ?_); refine gl_ (some 62) func48 #[.int .i64 a0_1, .int .i64 a0_0, .agg #[.int .u64 ((rd_T41 l0_3 x50_2).f0.f0), .int .u64 ((rd_T41 l0_3 x50_2).f0.f1)]] ?_; (with_reducible refine (layer_May.calls k2 a0_1 a0_0 ((rd_T41 l0_3 x50_2).f0.f0) ((rd_T41 l0_3 x50_2).f0.f1) true t159 _ A25.out).mono ?_); rintro e w48 ⟨rfl, hb⟩; refine ⟨_, rfl, ?_⟩; replace BK151 := ak_ (kb_ (g := gb151) (o := .cells #[.int .i64 a0_0, .int .i64 a0_1, .int .i64 a0_2, .slice (some ad156) l0_3.length c0_3, .bool a0_4, .bool a0_5, .int .u64 a0_6, .int .u64 a0_7, .int .u64 a0_8, .int .u64 a0_9, .int .u64 a0_10, .int .u64 a0_11, .int .i64 a0_12] 31 (0, 0)) (by (with_reducible repeat (first | refine kn_ ?_ _ | refine kd_ ?_ | refine ka_ ?_ _)); (iterate 11 refine blk_far ?_ NB151_157.out _); exact BK151.out) hb); replace BK157 := ak_ (kb_ (g := gb157) (o := .cells #[.int .u64 ((rd_T41 l0_3 x50_2).f0.f0), .int .u64 ((rd_T41 l0_3 x50_2).f0.f1), .bool ((rd_T41 l0_3 x50_2).f1.f0), .bool ((rd_T41 l0_3 x50_2).f1.f1), .int .u64 ((rd_T41 l0_3 x50_2).f1.f2.f0), .int .u64 ((rd_T41 l0_3 x50_2).f1.f2.f1), .int .u64 ((rd_T41 l0_3 x50_2).f1.f3.f0.f0), .int .u64 ((rd_T41 l0_3 x50_2).f1.f3.f0.f1), .int .u64 ((rd_T41 l0_3 x50_2).f1.f3.f1.f0), .int .u64 ((rd_T41 l0_3 x50_2).f1.f3.f1.f1), .int .i64 ((rd_T41 l0_3 x50_2).f1.f4)] 41 (0, 0)) (by (with_reducible repeat (first | refine kn_ ?_ _ | refine kd_ ?_ | refine ka_ ?_ _)); exact sC_blk BK157.out rfl rfl) hb); replace HB := ak_ (bt_ (bw2_ HB GE151 GE157) hb); (try clear hb); (try clear hk)))
                  replace BK151 := ak_ (kd_ BK151.out)
                  replace BK157 := ak_ (kd_ BK157.out)
                  replace HB := ak_ (bd_ HB.out)
                  have p161 : 0 ≤ ((ji31) : Int) := od_ (by first | (with_reducible assumption) | assumption)
                  have q161 : (ji31) < (l0_3.length : Int) := od_ (by first | (with_reducible assumption) | assumption)
                  obtain ⟨ad161, e161, hx161_0, hx161_1, hx161_2, hx161_3, hx161_4, hx161_5, hx161_6, hx161_7, hx161_8, hx161_9, hx161_10⟩ := at_T41 HR0_3.out (ji31) p161 q161
                  have hw161_10 := hx161_10
                  have hw161_9 := hx161_9
                  have hw161_8 := hx161_8
                  have hw161_7 := hx161_7
                  have hw161_6 := hx161_6
                  have hw161_5 := hx161_5
                  have hw161_4 := hx161_4
                  have hw161_3 := hx161_3
                  have hw161_2 := hx161_2
                  have hw161_1 := hx161_1
                  have hw161_0 := hx161_0
                  obtain rfl : ad156 = ad161 := (by injection e161)
                  replace hx161_0 := cx_ HB hx161_0
                  replace hx161_1 := cx_ HB hx161_1
                  replace hx161_2 := cx_ HB hx161_2
                  replace hx161_3 := cx_ HB hx161_3
                  replace hx161_4 := cx_ HB hx161_4
                  replace hx161_5 := cx_ HB hx161_5
                  replace hx161_6 := cx_ HB hx161_6
                  replace hx161_7 := cx_ HB hx161_7
                  replace hx161_8 := cx_ HB hx161_8
                  replace hx161_9 := cx_ HB hx161_9
                  replace hx161_10 := cx_ HB hx161_10
                  replace p161 := eq_true p161
                  replace q161 := eq_true q161
                  refine start_ (n := 29) (S := fun w' => w'.cell? ⟨gb157, 0, none⟩ = some (.int .u64 ((rd_T41 l0_3 x50_2).f0.f0)) ∧ w'.cell? ⟨gb157, 1, none⟩ = some (.int .u64 ((rd_T41 l0_3 x50_2).f0.f1)) ∧ w'.cell? ⟨gb157, 2, none⟩ = some (.bool ((rd_T41 l0_3 x50_2).f1.f0)) ∧ w'.cell? ⟨gb157, 3, none⟩ = some (.bool ((rd_T41 l0_3 x50_2).f1.f1)) ∧ w'.cell? ⟨gb157, 4, none⟩ = some (.int .u64 ((rd_T41 l0_3 x50_2).f1.f2.f0)) ∧ w'.cell? ⟨gb157, 5, none⟩ = some (.int .u64 ((rd_T41 l0_3 x50_2).f1.f2.f1)) ∧ w'.cell? ⟨gb157, 6, none⟩ = some (.int .u64 ((rd_T41 l0_3 x50_2).f1.f3.f0.f0)) ∧ w'.cell? ⟨gb157, 7, none⟩ = some (.int .u64 ((rd_T41 l0_3 x50_2).f1.f3.f0.f1)) ∧ w'.cell? ⟨gb157, 8, none⟩ = some (.int .u64 ((rd_T41 l0_3 x50_2).f1.f3.f1.f0)) ∧ w'.cell? ⟨gb157, 9, none⟩ = some (.int .u64 ((rd_T41 l0_3 x50_2).f1.f3.f1.f1)) ∧ w'.cell? ⟨gb157, 10, none⟩ = some (.int .i64 ((rd_T41 l0_3 x50_2).f1.f4)) ∧ w'.cell? ⟨gb151, 0, none⟩ = some (.int .i64 a0_0) ∧ w'.cell? ⟨gb151, 1, none⟩ = some (.int .i64 a0_1) ∧ w'.cell? ⟨gb151, 2, none⟩ = some (.int .i64 a0_2) ∧ w'.cell? ⟨gb151, 3, none⟩ = some (.slice (some ad156) l0_3.length c0_3) ∧ w'.cell? ⟨gb151, 4, none⟩ = some (.bool a0_4) ∧ w'.cell? ⟨gb151, 5, none⟩ = some (.bool a0_5) ∧ w'.cell? ⟨gb151, 6, none⟩ = some (.int .u64 a0_6) ∧ w'.cell? ⟨gb151, 7, none⟩ = some (.int .u64 a0_7) ∧ w'.cell? ⟨gb151, 8, none⟩ = some (.int .u64 a0_8) ∧ w'.cell? ⟨gb151, 9, none⟩ = some (.int .u64 a0_9) ∧ w'.cell? ⟨gb151, 10, none⟩ = some (.int .u64 a0_10) ∧ w'.cell? ⟨gb151, 11, none⟩ = some (.int .u64 a0_11) ∧ w'.cell? ⟨gb151, 12, none⟩ = some (.int .i64 a0_12) ∧ w'.cell? (ad156.add (((ji31)).toNat * 11)) = some (.int .u64 ((rd_T41 l0_3 (ji31)).f0.f0)) ∧ w'.cell? ⟨(ad156.add (((ji31)).toNat * 11)).block, (ad156.add (((ji31)).toNat * 11)).off + 1, none⟩ = some (.int .u64 ((rd_T41 l0_3 (ji31)).f0.f1)) ∧ w'.cell? ⟨(ad156.add (((ji31)).toNat * 11)).block, (ad156.add (((ji31)).toNat * 11)).off + 2, none⟩ = some (.bool ((rd_T41 l0_3 (ji31)).f1.f0)) ∧ w'.cell? ⟨(ad156.add (((ji31)).toNat * 11)).block, (ad156.add (((ji31)).toNat * 11)).off + 3, none⟩ = some (.bool ((rd_T41 l0_3 (ji31)).f1.f1)) ∧ w'.cell? ⟨(ad156.add (((ji31)).toNat * 11)).block, (ad156.add (((ji31)).toNat * 11)).off + 4, none⟩ = some (.int .u64 ((rd_T41 l0_3 (ji31)).f1.f2.f0)) ∧ w'.cell? ⟨(ad156.add (((ji31)).toNat * 11)).block, (ad156.add (((ji31)).toNat * 11)).off + 5, none⟩ = some (.int .u64 ((rd_T41 l0_3 (ji31)).f1.f2.f1)) ∧ w'.cell? ⟨(ad156.add (((ji31)).toNat * 11)).block, (ad156.add (((ji31)).toNat * 11)).off + 6, none⟩ = some (.int .u64 ((rd_T41 l0_3 (ji31)).f1.f3.f0.f0)) ∧ w'.cell? ⟨(ad156.add (((ji31)).toNat * 11)).block, (ad156.add (((ji31)).toNat * 11)).off + 7, none⟩ = some (.int .u64 ((rd_T41 l0_3 (ji31)).f1.f3.f0.f1)) ∧ w'.cell? ⟨(ad156.add (((ji31)).toNat * 11)).block, (ad156.add (((ji31)).toNat * 11)).off + 8, none⟩ = some (.int .u64 ((rd_T41 l0_3 (ji31)).f1.f3.f1.f0)) ∧ w'.cell? ⟨(ad156.add (((ji31)).toNat * 11)).block, (ad156.add (((ji31)).toNat * 11)).off + 9, none⟩ = some (.int .u64 ((rd_T41 l0_3 (ji31)).f1.f3.f1.f1)) ∧ w'.cell? ⟨(ad156.add (((ji31)).toNat * 11)).block, (ad156.add (((ji31)).toNat * 11)).off + 10, none⟩ = some (.int .i64 ((rd_T41 l0_3 (ji31)).f1.f4))) (ds := []) #[false, false, false, false, false, false, false, false, false, false, false, false, false, false, false, false, false, false, false, false, false, false, false, false, false, false, false, false, false] (by kernel_rfl) rfl rfl ⟨kq_ BK157.out 0 rfl, kq_ BK157.out 1 rfl, kq_ BK157.out 2 rfl, kq_ BK157.out 3 rfl, kq_ BK157.out 4 rfl, kq_ BK157.out 5 rfl, kq_ BK157.out 6 rfl, kq_ BK157.out 7 rfl, kq_ BK157.out 8 rfl, kq_ BK157.out 9 rfl, kq_ BK157.out 10 rfl, kq_ BK151.out 0 rfl, kq_ BK151.out 1 rfl, kq_ BK151.out 2 rfl, kq_ BK151.out 3 rfl, kq_ BK151.out 4 rfl, kq_ BK151.out 5 rfl, kq_ BK151.out 6 rfl, kq_ BK151.out 7 rfl, kq_ BK151.out 8 rfl, kq_ BK151.out 9 rfl, kq_ BK151.out 10 rfl, kq_ BK151.out 11 rfl, kq_ BK151.out 12 rfl, ((HB.out.cell (World.block_lt_of_cell? w _ hw161_0)).trans hw161_0), ((HB.out.cell (World.block_lt_of_cell? w _ hw161_1)).trans hw161_1), ((HB.out.cell (World.block_lt_of_cell? w _ hw161_2)).trans hw161_2), ((HB.out.cell (World.block_lt_of_cell? w _ hw161_3)).trans hw161_3), ((HB.out.cell (World.block_lt_of_cell? w _ hw161_4)).trans hw161_4), ((HB.out.cell (World.block_lt_of_cell? w _ hw161_5)).trans hw161_5), ((HB.out.cell (World.block_lt_of_cell? w _ hw161_6)).trans hw161_6), ((HB.out.cell (World.block_lt_of_cell? w _ hw161_7)).trans hw161_7), ((HB.out.cell (World.block_lt_of_cell? w _ hw161_8)).trans hw161_8), ((HB.out.cell (World.block_lt_of_cell? w _ hw161_9)).trans hw161_9), ((HB.out.cell (World.block_lt_of_cell? w _ hw161_10)).trans hw161_10)⟩ (fun hHeld => ?_); refine with_tabW head_Check.tab10 head_Check.bits10 (fun HT_ HW_ => ?_)
                  generalize w48.drew = w49 at BK151 BK157 HB hx161_0 hx161_1 hx161_10 hx161_2 hx161_3 hx161_4 hx161_5 hx161_6 hx161_7 hx161_8 hx161_9 hHeld ⊢
                  refine pu_ HT_ 0 (some 65) (bA3 1 29) ?_
                  refine pu_ HT_ 1 (some 66) (bA3 2 29) ?_
                  refine pu_ HT_ 2 (some 67) (bA3 3 29) ?_
                  refine pu_ HT_ 3 (some 68) (bA3 4 29) ?_
                  refine pu_ HT_ 4 (some 69) (bA3 5 29) ?_
                  refine pu_ HT_ 5 (some 70) (bA3 6 29) ?_
                  refine pu_ HT_ 6 (some 71) (bA3 7 29) ?_
                  refine pu_ HT_ 7 (some 72) (bA3 8 29) ?_
                  refine tk_ HT_ HW_ hHeld 8 (some 73) (bA3 9 29) rfl (by rintro w' ⟨s0, s1, s2, s3, s4, s5, s6, s7, s8, s9, s10, s11, s12, s13, s14, s15, s16, s17, s18, s19, s20, s21, s22, s23, s24, s25, s26, s27, s28, s29, s30, s31, s32, s33, s34⟩; go_simp; with_reducible rfl) ?_
                  refine one_ (i := 9) (N := some 74) (bA3 10 29) rfl rfl (one_of HT_.out (by kernel_rfl)) (by decide) (fun K hK => ?_)
                  refine gg_ func47 #[.agg #[.bool ((rd_T41 l0_3 x50_2).f1.f0), .bool ((rd_T41 l0_3 x50_2).f1.f1), .int .u64 ((rd_T41 l0_3 x50_2).f1.f2.f0), .int .u64 ((rd_T41 l0_3 x50_2).f1.f2.f1), .int .u64 ((rd_T41 l0_3 x50_2).f1.f3.f0.f0), .int .u64 ((rd_T41 l0_3 x50_2).f1.f3.f0.f1), .int .u64 ((rd_T41 l0_3 x50_2).f1.f3.f1.f0), .int .u64 ((rd_T41 l0_3 x50_2).f1.f3.f1.f1), .int .i64 ((rd_T41 l0_3 x50_2).f1.f4)]] ?_
                  with_reducible refine (head_shut.calls ((rd_T41 l0_3 x50_2).f1.f0) ((rd_T41 l0_3 x50_2).f1.f1) ((rd_T41 l0_3 x50_2).f1.f2.f0) ((rd_T41 l0_3 x50_2).f1.f2.f1) ((rd_T41 l0_3 x50_2).f1.f3.f0.f0) ((rd_T41 l0_3 x50_2).f1.f3.f0.f1) ((rd_T41 l0_3 x50_2).f1.f3.f1.f0) ((rd_T41 l0_3 x50_2).f1.f3.f1.f1) ((rd_T41 l0_3 x50_2).f1.f4) true _ A28.out).mono ?_
                  rintro e w50 ⟨rfl, hb⟩
                  refine ⟨_, rfl, ?_⟩
                  replace BK151 := ak_ (kb_ (kl_ BK151) hb)
                  replace BK157 := ak_ (kb_ (kl_ BK157) hb)
                  replace HB := ak_ (bt_ (bw2_ HB GE151 GE157) hb)
                  (try clear hb)
                  (try clear hb2)
                  (try clear hk)
                  (try clear hi)
                  refine hK.out _ _ ⟨kq_ BK157.out 0 rfl, kq_ BK157.out 1 rfl, kq_ BK157.out 2 rfl, kq_ BK157.out 3 rfl, kq_ BK157.out 4 rfl, kq_ BK157.out 5 rfl, kq_ BK157.out 6 rfl, kq_ BK157.out 7 rfl, kq_ BK157.out 8 rfl, kq_ BK157.out 9 rfl, kq_ BK157.out 10 rfl, kq_ BK151.out 0 rfl, kq_ BK151.out 1 rfl, kq_ BK151.out 2 rfl, kq_ BK151.out 3 rfl, kq_ BK151.out 4 rfl, kq_ BK151.out 5 rfl, kq_ BK151.out 6 rfl, kq_ BK151.out 7 rfl, kq_ BK151.out 8 rfl, kq_ BK151.out 9 rfl, kq_ BK151.out 10 rfl, kq_ BK151.out 11 rfl, kq_ BK151.out 12 rfl, ((HB.out.cell (World.block_lt_of_cell? w _ hw161_0)).trans hw161_0), ((HB.out.cell (World.block_lt_of_cell? w _ hw161_1)).trans hw161_1), ((HB.out.cell (World.block_lt_of_cell? w _ hw161_2)).trans hw161_2), ((HB.out.cell (World.block_lt_of_cell? w _ hw161_3)).trans hw161_3), ((HB.out.cell (World.block_lt_of_cell? w _ hw161_4)).trans hw161_4), ((HB.out.cell (World.block_lt_of_cell? w _ hw161_5)).trans hw161_5), ((HB.out.cell (World.block_lt_of_cell? w _ hw161_6)).trans hw161_6), ((HB.out.cell (World.block_lt_of_cell? w _ hw161_7)).trans hw161_7), ((HB.out.cell (World.block_lt_of_cell? w _ hw161_8)).trans hw161_8), ((HB.out.cell (World.block_lt_of_cell? w _ hw161_9)).trans hw161_9), ((HB.out.cell (World.block_lt_of_cell? w _ hw161_10)).trans hw161_10)⟩ (fun hHeld => ?_)
                  clear hK K
                  refine norm_ (a' := ?_) ?_ ?_
                  rotate_left
                  ·show Act.put _ (some 74) _ = _
                   simp only [Act.put, setIfInBounds_toArray, set_cons_zero, set_cons_succ, i64_w, i32_w]
                   rfl
                  refine pu_ HT_ 10 (some 75) (bA3 11 29) ?_
                  refine pu_ HT_ 11 (some 76) (bA3 12 29) ?_
                  refine pu_ HT_ 12 (some 77) (bA3 13 29) ?_
                  refine pu_ HT_ 13 (some 78) (bA3 14 29) ?_
                  refine pu_ HT_ 14 (some 79) (bA3 15 29) ?_
                  refine pu_ HT_ 15 (some 80) (bA3 16 29) ?_
                  refine pu_ HT_ 16 (some 81) (bA3 17 29) ?_
                  refine pu_ HT_ 18 (some 83) #[true, true, true, true, true, true, true, true, true, true, true, true, true, true, true, true, true, false, true, false, false, false, false, false, false, false, false, false, false] ?_
                  refine pu_ HT_ 19 (some 84) #[true, true, true, true, true, true, true, true, true, true, true, true, true, true, true, true, true, false, true, true, false, false, false, false, false, false, false, false, false] ?_
                  refine pu_ HT_ 23 (some 88) #[true, true, true, true, true, true, true, true, true, true, true, true, true, true, true, true, true, false, true, true, false, false, false, true, false, false, false, false, false] ?_
                  refine tk_ HT_ HW_ hHeld 17 (some 82) #[true, true, true, true, true, true, true, true, true, true, true, true, true, true, true, true, true, true, true, true, false, false, false, true, false, false, false, false, false] rfl (by rintro w' ⟨s0, s1, s2, s3, s4, s5, s6, s7, s8, s9, s10, s11, s12, s13, s14, s15, s16, s17, s18, s19, s20, s21, s22, s23, s24, s25, s26, s27, s28, s29, s30, s31, s32, s33, s34⟩; go_simp; with_reducible rfl) ?_
                  refine pu_ HT_ 20 (some 85) #[true, true, true, true, true, true, true, true, true, true, true, true, true, true, true, true, true, true, true, true, true, false, false, true, false, false, false, false, false] ?_
                  refine pu_ HT_ 21 (some 86) #[true, true, true, true, true, true, true, true, true, true, true, true, true, true, true, true, true, true, true, true, true, true, false, true, false, false, false, false, false] ?_
                  refine tk_ HT_ HW_ hHeld 22 (some 87) (bA3 24 29) rfl (by rintro w' ⟨s0, s1, s2, s3, s4, s5, s6, s7, s8, s9, s10, s11, s12, s13, s14, s15, s16, s17, s18, s19, s20, s21, s22, s23, s24, s25, s26, s27, s28, s29, s30, s31, s32, s33, s34⟩; go_simp; with_reducible rfl) ?_
                  refine tk_ HT_ HW_ hHeld 24 (some 89) (bA3 25 29) rfl (by rintro w' ⟨s0, s1, s2, s3, s4, s5, s6, s7, s8, s9, s10, s11, s12, s13, s14, s15, s16, s17, s18, s19, s20, s21, s22, s23, s24, s25, s26, s27, s28, s29, s30, s31, s32, s33, s34⟩; go_simp; with_reducible rfl) ?_
                  refine one_ (i := 25) (N := some 90) (bA3 26 29) rfl rfl (one_of HT_.out (by kernel_rfl)) (by decide) (fun K hK => ?_)
                  refine goes_ func49 (by kernel_rfl) rfl #[.agg #[.int .u64 ((rd_T41 l0_3 (ji31)).f0.f0), .int .u64 ((rd_T41 l0_3 (ji31)).f0.f1)], .agg #[.int .u64 ((rd_T41 l0_3 x50_2).f0.f0), .int .u64 ((rd_T41 l0_3 x50_2).f0.f1)]] (by rfl) rfl rfl (by (try simp only [map_toArray, map_cons, map_nil]); first | done | (simp only [hji31]; rfl) | rfl | (simp only [length_drop, length_take]; rfl)) ?_
                  with_reducible refine (sub_Less.calls k2 ((rd_T41 l0_3 (ji31)).f0.f0) ((rd_T41 l0_3 (ji31)).f0.f1) ((rd_T41 l0_3 x50_2).f0.f0) ((rd_T41 l0_3 x50_2).f0.f1) false _ A34.out).mono ?_
                  rintro e w51 ⟨rfl, hb⟩
                  refine ⟨_, rfl, ?_⟩
                  replace BK151 := ak_ (kb_ (kl_ BK151) hb)
                  replace BK157 := ak_ (kb_ (kl_ BK157) hb)
                  replace HB := ak_ (bt_ (bw2_ HB GE151 GE157) hb)
                  (try clear hb)
                  (try clear hb2)
                  (try clear hk)
                  (try clear hi)
                  refine hK.out _ _ ⟨kq_ BK157.out 0 rfl, kq_ BK157.out 1 rfl, kq_ BK157.out 2 rfl, kq_ BK157.out 3 rfl, kq_ BK157.out 4 rfl, kq_ BK157.out 5 rfl, kq_ BK157.out 6 rfl, kq_ BK157.out 7 rfl, kq_ BK157.out 8 rfl, kq_ BK157.out 9 rfl, kq_ BK157.out 10 rfl, kq_ BK151.out 0 rfl, kq_ BK151.out 1 rfl, kq_ BK151.out 2 rfl, kq_ BK151.out 3 rfl, kq_ BK151.out 4 rfl, kq_ BK151.out 5 rfl, kq_ BK151.out 6 rfl, kq_ BK151.out 7 rfl, kq_ BK151.out 8 rfl, kq_ BK151.out 9 rfl, kq_ BK151.out 10 rfl, kq_ BK151.out 11 rfl, kq_ BK151.out 12 rfl, ((HB.out.cell (World.block_lt_of_cell? w _ hw161_0)).trans hw161_0), ((HB.out.cell (World.block_lt_of_cell? w _ hw161_1)).trans hw161_1), ((HB.out.cell (World.block_lt_of_cell? w _ hw161_2)).trans hw161_2), ((HB.out.cell (World.block_lt_of_cell? w _ hw161_3)).trans hw161_3), ((HB.out.cell (World.block_lt_of_cell? w _ hw161_4)).trans hw161_4), ((HB.out.cell (World.block_lt_of_cell? w _ hw161_5)).trans hw161_5), ((HB.out.cell (World.block_lt_of_cell? w _ hw161_6)).trans hw161_6), ((HB.out.cell (World.block_lt_of_cell? w _ hw161_7)).trans hw161_7), ((HB.out.cell (World.block_lt_of_cell? w _ hw161_8)).trans hw161_8), ((HB.out.cell (World.block_lt_of_cell? w _ hw161_9)).trans hw161_9), ((HB.out.cell (World.block_lt_of_cell? w _ hw161_10)).trans hw161_10)⟩ (fun hHeld => ?_)
                  clear hK K
                  refine norm_ (a' := ?_) ?_ ?_
                  rotate_left
                  ·show Act.put _ (some 90) _ = _
                   simp only [Act.put, setIfInBounds_toArray, set_cons_zero, set_cons_succ, i64_w, i32_w]
                   rfl
                  refine pu_ HT_ 26 (some 91) (bA3 27 29) ?_
                  refine pu_ HT_ 27 (some 92) (bA3 28 29) ?_
                  refine pu_ HT_ 28 (some 93) (bA3 29 29) ?_
                  refine done_ (done_of HT_.out (by kernel_rfl)) ?_
                  try go_wp2
                  go_ret
                  exact ⟨by first | rfl | (simp <;> rfl) | (simp only [← hji31]; first | rfl | (simp <;> rfl)) | (simp [*] <;> rfl), bw2_ HB GE151 GE157⟩
                ·rw [if_neg c33] at H
                 exact absurd H (by simp)
               ·rw [if_neg c32] at H
                exact absurd H (by simp)
              ·rw [if_neg c30] at H
               have c30b0 : decide (0 < x50_2) = false := decide_eq_false c30
               clear c30
               have H' := ak_ H
               clear H
               have p156 : 0 ≤ (x50_2 : Int) := od_ (by first | (with_reducible assumption) | assumption)
               have q156 : x50_2 < (l0_3.length : Int) := od_ (by first | (with_reducible assumption) | assumption)
               obtain ⟨ad156, e156, hx156_0, hx156_1, hx156_2, hx156_3, hx156_4, hx156_5, hx156_6, hx156_7, hx156_8, hx156_9, hx156_10⟩ := at_T41 HR0_3.out x50_2 p156 q156
               cases e156
               replace hx156_0 := cx_ HB hx156_0
               replace hx156_1 := cx_ HB hx156_1
               replace hx156_2 := cx_ HB hx156_2
               replace hx156_3 := cx_ HB hx156_3
               replace hx156_4 := cx_ HB hx156_4
               replace hx156_5 := cx_ HB hx156_5
               replace hx156_6 := cx_ HB hx156_6
               replace hx156_7 := cx_ HB hx156_7
               replace hx156_8 := cx_ HB hx156_8
               replace hx156_9 := cx_ HB hx156_9
               replace hx156_10 := cx_ HB hx156_10
               replace p156 := eq_true p156
               replace q156 := eq_true q156
               try go_wp2_with (first | ((with_reducible refine gate_dst (N := 6) rfl ?_); (try (refine gate_guard (by rfl) ?_; dsimp only)); refine bx_ 6 #[.int .u64 0, .int .u64 0, .bool false, .bool false, .int .u64 0, .int .u64 0, .int .u64 0, .int .u64 0, .int .u64 0, .int .u64 0, .int .i64 0] 41 ?_; intro gb157 hg w52 hbox hb; have BK157 := ak_ hbox; have GW157 := ak_ (gw1_ HB GE151 hg); have GE157 := ak_ (gw1_ HB GE151 hg); replace HB := ak_ (bt_ (bw1_ HB GE151) hb); have NB151_157 := ak_ (nl_ hg BK151); have NB157_151 := ak_ (nr_ hg BK151); replace BK151 := ak_ (kb_ (kl_ BK151) hb); clear hb hbox hg; have hnb53 := NB157_151.out; have hnc53 := NB151_157.out; obtain ⟨hcz54_0, hcz54_1, hcz54_2, hcz54_3, hcz54_4, hcz54_5, hcz54_6, hcz54_7, hcz54_8, hcz54_9, hcz54_10, hfz54_0, hfz54_1, hfz54_2, hfz54_3, hfz54_4, hfz54_5, hfz54_6, hfz54_7, hfz54_8, hfz54_9, hfz54_10⟩ := kc11_ BK157.out; obtain ⟨hcz55_0, hcz55_1, hcz55_2, hcz55_3, hcz55_4, hcz55_5, hcz55_6, hcz55_7, hcz55_8, hcz55_9, hcz55_10, hcz55_11, hcz55_12, hfz55_0, hfz55_1, hfz55_2, hfz55_3, hfz55_4, hfz55_5, hfz55_6, hfz55_7, hfz55_8, hfz55_9, hfz55_10, hfz55_11, hfz55_12⟩ := kc13_ BK151.out) | ((with_reducible refine gate_callee (f := 48) rfl ?_); refine gl_ (some 62) func48 #[.int .i64 a0_1, .int .i64 a0_0, .agg #[.int .u64 ((rd_T41 l0_3 x50_2).f0.f0), .int .u64 ((rd_T41 l0_3 x50_2).f0.f1)]] ?_; (with_reducible refine (layer_May.calls k2 a0_1 a0_0 ((rd_T41 l0_3 x50_2).f0.f0) ((rd_T41 l0_3 x50_2).f0.f1) true t159 _ A25.out).mono ?_); rintro e w56 ⟨rfl, hb⟩; refine ⟨_, rfl, ?_⟩; replace BK151 := ak_ (kb_ (g := gb151) (o := .cells #[.int .i64 a0_0, .int .i64 a0_1, .int .i64 a0_2, .slice (some ad156) l0_3.length c0_3, .bool a0_4, .bool a0_5, .int .u64 a0_6, .int .u64 a0_7, .int .u64 a0_8, .int .u64 a0_9, .int .u64 a0_10, .int .u64 a0_11, .int .i64 a0_12] 31 (0, 0)) (by (with_reducible repeat (first | refine kn_ ?_ _ | refine kd_ ?_ | refine ka_ ?_ _)); (iterate 11 refine blk_far ?_ NB151_157.out _); exact BK151.out) hb); replace BK157 := ak_ (kb_ (g := gb157) (o := .cells #[.int .u64 ((rd_T41 l0_3 x50_2).f0.f0), .int .u64 ((rd_T41 l0_3 x50_2).f0.f1), .bool ((rd_T41 l0_3 x50_2).f1.f0), .bool ((rd_T41 l0_3 x50_2).f1.f1), .int .u64 ((rd_T41 l0_3 x50_2).f1.f2.f0), .int .u64 ((rd_T41 l0_3 x50_2).f1.f2.f1), .int .u64 ((rd_T41 l0_3 x50_2).f1.f3.f0.f0), .int .u64 ((rd_T41 l0_3 x50_2).f1.f3.f0.f1), .int .u64 ((rd_T41 l0_3 x50_2).f1.f3.f1.f0), .int .u64 ((rd_T41 l0_3 x50_2).f1.f3.f1.f1), .int .i64 ((rd_T41 l0_3 x50_2).f1.f4)] 41 (0, 0)) (by (with_reducible repeat (first | refine kn_ ?_ _ | refine kd_ ?_ | refine ka_ ?_ _)); exact sC_blk BK157.out rfl rfl) hb); replace HB := ak_ (bt_ (bw2_ HB GE151 GE157) hb); (try clear hb); (try clear hk)))
               replace BK151 := ak_ (kd_ BK151.out)
               replace BK157 := ak_ (kd_ BK157.out)
               replace HB := ak_ (bd_ HB.out)
               refine start_ (n := 29) (S := fun w' => w'.cell? ⟨gb157, 0, none⟩ = some (.int .u64 ((rd_T41 l0_3 x50_2).f0.f0)) ∧ w'.cell? ⟨gb157, 1, none⟩ = some (.int .u64 ((rd_T41 l0_3 x50_2).f0.f1)) ∧ w'.cell? ⟨gb157, 2, none⟩ = some (.bool ((rd_T41 l0_3 x50_2).f1.f0)) ∧ w'.cell? ⟨gb157, 3, none⟩ = some (.bool ((rd_T41 l0_3 x50_2).f1.f1)) ∧ w'.cell? ⟨gb157, 4, none⟩ = some (.int .u64 ((rd_T41 l0_3 x50_2).f1.f2.f0)) ∧ w'.cell? ⟨gb157, 5, none⟩ = some (.int .u64 ((rd_T41 l0_3 x50_2).f1.f2.f1)) ∧ w'.cell? ⟨gb157, 6, none⟩ = some (.int .u64 ((rd_T41 l0_3 x50_2).f1.f3.f0.f0)) ∧ w'.cell? ⟨gb157, 7, none⟩ = some (.int .u64 ((rd_T41 l0_3 x50_2).f1.f3.f0.f1)) ∧ w'.cell? ⟨gb157, 8, none⟩ = some (.int .u64 ((rd_T41 l0_3 x50_2).f1.f3.f1.f0)) ∧ w'.cell? ⟨gb157, 9, none⟩ = some (.int .u64 ((rd_T41 l0_3 x50_2).f1.f3.f1.f1)) ∧ w'.cell? ⟨gb157, 10, none⟩ = some (.int .i64 ((rd_T41 l0_3 x50_2).f1.f4))) (ds := []) #[false, false, false, false, false, false, false, false, false, false, false, false, false, false, false, false, false, false, false, false, false, false, false, false, false, false, false, false, false] (by kernel_rfl) rfl rfl ⟨kq_ BK157.out 0 rfl, kq_ BK157.out 1 rfl, kq_ BK157.out 2 rfl, kq_ BK157.out 3 rfl, kq_ BK157.out 4 rfl, kq_ BK157.out 5 rfl, kq_ BK157.out 6 rfl, kq_ BK157.out 7 rfl, kq_ BK157.out 8 rfl, kq_ BK157.out 9 rfl, kq_ BK157.out 10 rfl⟩ (fun hHeld => ?_); refine with_tabW head_Check.tab10 head_Check.bits10 (fun HT_ HW_ => ?_)
               generalize w56.drew = w57 at BK151 BK157 HB hHeld ⊢
               refine pu_ HT_ 0 (some 65) (bA3 1 29) ?_
               refine pu_ HT_ 1 (some 66) (bA3 2 29) ?_
               refine pu_ HT_ 2 (some 67) (bA3 3 29) ?_
               refine pu_ HT_ 3 (some 68) (bA3 4 29) ?_
               refine pu_ HT_ 4 (some 69) (bA3 5 29) ?_
               refine pu_ HT_ 5 (some 70) (bA3 6 29) ?_
               refine pu_ HT_ 6 (some 71) (bA3 7 29) ?_
               refine pu_ HT_ 7 (some 72) (bA3 8 29) ?_
               refine tk_ HT_ HW_ hHeld 8 (some 73) (bA3 9 29) rfl (by rintro w' ⟨s0, s1, s2, s3, s4, s5, s6, s7, s8, s9, s10⟩; go_simp; with_reducible rfl) ?_
               refine one_ (i := 9) (N := some 74) (bA3 10 29) rfl rfl (one_of HT_.out (by kernel_rfl)) (by decide) (fun K hK => ?_)
               refine gg_ func47 #[.agg #[.bool ((rd_T41 l0_3 x50_2).f1.f0), .bool ((rd_T41 l0_3 x50_2).f1.f1), .int .u64 ((rd_T41 l0_3 x50_2).f1.f2.f0), .int .u64 ((rd_T41 l0_3 x50_2).f1.f2.f1), .int .u64 ((rd_T41 l0_3 x50_2).f1.f3.f0.f0), .int .u64 ((rd_T41 l0_3 x50_2).f1.f3.f0.f1), .int .u64 ((rd_T41 l0_3 x50_2).f1.f3.f1.f0), .int .u64 ((rd_T41 l0_3 x50_2).f1.f3.f1.f1), .int .i64 ((rd_T41 l0_3 x50_2).f1.f4)]] ?_
               with_reducible refine (head_shut.calls ((rd_T41 l0_3 x50_2).f1.f0) ((rd_T41 l0_3 x50_2).f1.f1) ((rd_T41 l0_3 x50_2).f1.f2.f0) ((rd_T41 l0_3 x50_2).f1.f2.f1) ((rd_T41 l0_3 x50_2).f1.f3.f0.f0) ((rd_T41 l0_3 x50_2).f1.f3.f0.f1) ((rd_T41 l0_3 x50_2).f1.f3.f1.f0) ((rd_T41 l0_3 x50_2).f1.f3.f1.f1) ((rd_T41 l0_3 x50_2).f1.f4) true _ A28.out).mono ?_
               rintro e w58 ⟨rfl, hb⟩
               refine ⟨_, rfl, ?_⟩
               replace BK151 := ak_ (kb_ (kl_ BK151) hb)
               replace BK157 := ak_ (kb_ (kl_ BK157) hb)
               replace HB := ak_ (bt_ (bw2_ HB GE151 GE157) hb)
               (try clear hb)
               (try clear hb2)
               (try clear hk)
               (try clear hi)
               refine hK.out _ _ ⟨kq_ BK157.out 0 rfl, kq_ BK157.out 1 rfl, kq_ BK157.out 2 rfl, kq_ BK157.out 3 rfl, kq_ BK157.out 4 rfl, kq_ BK157.out 5 rfl, kq_ BK157.out 6 rfl, kq_ BK157.out 7 rfl, kq_ BK157.out 8 rfl, kq_ BK157.out 9 rfl, kq_ BK157.out 10 rfl⟩ (fun hHeld => ?_)
               clear hK K
               refine norm_ (a' := ?_) ?_ ?_
               rotate_left
               ·show Act.put _ (some 74) _ = _
                simp only [Act.put, setIfInBounds_toArray, set_cons_zero, set_cons_succ, i64_w, i32_w]
                rfl
               refine pu_ HT_ 10 (some 75) (bA3 11 29) ?_
               refine pu_ HT_ 11 (some 76) (bA3 12 29) ?_
               refine pu_ HT_ 12 (some 77) (bA3 13 29) ?_
               refine pu_ HT_ 13 (some 78) (bA3 14 29) ?_
               refine pu_ HT_ 14 (some 79) (bA3 15 29) ?_
               refine pu_ HT_ 15 (some 80) (bA3 16 29) ?_
               refine pn_ HT_ 16 (some 81) (bA3 17 29) ?_
               refine pn_ HT_ 17 (some 82) (bA3 18 29) ?_
               refine pn_ HT_ 18 (some 83) (bA3 19 29) ?_
               refine pn_ HT_ 19 (some 84) (bA3 20 29) ?_
               refine pn_ HT_ 20 (some 85) (bA3 21 29) ?_
               refine pn_ HT_ 21 (some 86) (bA3 22 29) ?_
               refine pn_ HT_ 22 (some 87) (bA3 23 29) ?_
               refine pn_ HT_ 23 (some 88) (bA3 24 29) ?_
               refine pn_ HT_ 24 (some 89) (bA3 25 29) ?_
               refine pn_ HT_ 25 (some 90) (bA3 26 29) ?_
               refine pn_ HT_ 26 (some 91) (bA3 27 29) ?_
               refine pu_ HT_ 27 (some 92) (bA3 28 29) ?_
               refine pu_ HT_ 28 (some 93) (bA3 29 29) ?_
               refine done_ (done_of HT_.out (by kernel_rfl)) ?_
               try go_wp2
               go_roundg k2
               case measure => have := HJ1.out; have := HK2.out; omega
               case rel => exact ⟨(wrap64 (x50_2 + 1)), rf_, H', ⟨by have := HJ1.out; have := HK2.out; omega⟩, ⟨kl_ BK151⟩, ⟨bw2_ HB GE151 GE157⟩⟩
             ·replace c29 := Bool.eq_false_iff.mpr c29
              subst c29
              have H1 : (some 1) = some r := by rw [if_neg (show ¬ (false = true) by decide)] at H; exact H
              clear H
              have H := H1
              clear H1
              obtain rfl := Option.some.inj H
              have p156 : 0 ≤ (x50_2 : Int) := od_ (by first | (with_reducible assumption) | assumption)
              have q156 : x50_2 < (l0_3.length : Int) := od_ (by first | (with_reducible assumption) | assumption)
              obtain ⟨ad156, e156, hx156_0, hx156_1, hx156_2, hx156_3, hx156_4, hx156_5, hx156_6, hx156_7, hx156_8, hx156_9, hx156_10⟩ := at_T41 HR0_3.out x50_2 p156 q156
              cases e156
              replace hx156_0 := cx_ HB hx156_0
              replace hx156_1 := cx_ HB hx156_1
              replace hx156_2 := cx_ HB hx156_2
              replace hx156_3 := cx_ HB hx156_3
              replace hx156_4 := cx_ HB hx156_4
              replace hx156_5 := cx_ HB hx156_5
              replace hx156_6 := cx_ HB hx156_6
              replace hx156_7 := cx_ HB hx156_7
              replace hx156_8 := cx_ HB hx156_8
              replace hx156_9 := cx_ HB hx156_9
              replace hx156_10 := cx_ HB hx156_10
              replace p156 := eq_true p156
              replace q156 := eq_true q156
              try go_wp2_with (first | ((with_reducible refine gate_dst (N := 6) rfl ?_); (try (refine gate_guard (by rfl) ?_; dsimp only)); refine bx_ 6 #[.int .u64 0, .int .u64 0, .bool false, .bool false, .int .u64 0, .int .u64 0, .int .u64 0, .int .u64 0, .int .u64 0, .int .u64 0, .int .i64 0] 41 ?_; intro gb157 hg w59 hbox hb; have BK157 := ak_ hbox; have GW157 := ak_ (gw1_ HB GE151 hg); have GE157 := ak_ (gw1_ HB GE151 hg); replace HB := ak_ (bt_ (bw1_ HB GE151) hb); have NB151_157 := ak_ (nl_ hg BK151); have NB157_151 := ak_ (nr_ hg BK151); replace BK151 := ak_ (kb_ (kl_ BK151) hb); clear hb hbox hg; have hnb60 := NB157_151.out; have hnc60 := NB151_157.out; obtain ⟨hcz61_0, hcz61_1, hcz61_2, hcz61_3, hcz61_4, hcz61_5, hcz61_6, hcz61_7, hcz61_8, hcz61_9, hcz61_10, hfz61_0, hfz61_1, hfz61_2, hfz61_3, hfz61_4, hfz61_5, hfz61_6, hfz61_7, hfz61_8, hfz61_9, hfz61_10⟩ := kc11_ BK157.out; obtain ⟨hcz62_0, hcz62_1, hcz62_2, hcz62_3, hcz62_4, hcz62_5, hcz62_6, hcz62_7, hcz62_8, hcz62_9, hcz62_10, hcz62_11, hcz62_12, hfz62_0, hfz62_1, hfz62_2, hfz62_3, hfz62_4, hfz62_5, hfz62_6, hfz62_7, hfz62_8, hfz62_9, hfz62_10, hfz62_11, hfz62_12⟩ := kc13_ BK151.out) | ((with_reducible refine gate_callee (f := 48) rfl ?_); refine gl_ (some 62) func48 #[.int .i64 a0_1, .int .i64 a0_0, .agg #[.int .u64 ((rd_T41 l0_3 x50_2).f0.f0), .int .u64 ((rd_T41 l0_3 x50_2).f0.f1)]] ?_; (with_reducible refine (layer_May.calls k2 a0_1 a0_0 ((rd_T41 l0_3 x50_2).f0.f0) ((rd_T41 l0_3 x50_2).f0.f1) true t159 _ A25.out).mono ?_); rintro e w63 ⟨rfl, hb⟩; refine ⟨_, rfl, ?_⟩; replace BK151 := ak_ (kb_ (g := gb151) (o := .cells #[.int .i64 a0_0, .int .i64 a0_1, .int .i64 a0_2, .slice (some ad156) l0_3.length c0_3, .bool a0_4, .bool a0_5, .int .u64 a0_6, .int .u64 a0_7, .int .u64 a0_8, .int .u64 a0_9, .int .u64 a0_10, .int .u64 a0_11, .int .i64 a0_12] 31 (0, 0)) (by (with_reducible repeat (first | refine kn_ ?_ _ | refine kd_ ?_ | refine ka_ ?_ _)); (iterate 11 refine blk_far ?_ NB151_157.out _); exact BK151.out) hb); replace BK157 := ak_ (kb_ (g := gb157) (o := .cells #[.int .u64 ((rd_T41 l0_3 x50_2).f0.f0), .int .u64 ((rd_T41 l0_3 x50_2).f0.f1), .bool ((rd_T41 l0_3 x50_2).f1.f0), .bool ((rd_T41 l0_3 x50_2).f1.f1), .int .u64 ((rd_T41 l0_3 x50_2).f1.f2.f0), .int .u64 ((rd_T41 l0_3 x50_2).f1.f2.f1), .int .u64 ((rd_T41 l0_3 x50_2).f1.f3.f0.f0), .int .u64 ((rd_T41 l0_3 x50_2).f1.f3.f0.f1), .int .u64 ((rd_T41 l0_3 x50_2).f1.f3.f1.f0), .int .u64 ((rd_T41 l0_3 x50_2).f1.f3.f1.f1), .int .i64 ((rd_T41 l0_3 x50_2).f1.f4)] 41 (0, 0)) (by (with_reducible repeat (first | refine kn_ ?_ _ | refine kd_ ?_ | refine ka_ ?_ _)); exact sC_blk BK157.out rfl rfl) hb); replace HB := ak_ (bt_ (bw2_ HB GE151 GE157) hb); (try clear hb); (try clear hk)))
              replace BK151 := ak_ (kd_ BK151.out)
              replace BK157 := ak_ (kd_ BK157.out)
              replace HB := ak_ (bd_ HB.out)
              refine start_ (n := 29) (S := fun w' => w'.cell? ⟨gb157, 0, none⟩ = some (.int .u64 ((rd_T41 l0_3 x50_2).f0.f0)) ∧ w'.cell? ⟨gb157, 1, none⟩ = some (.int .u64 ((rd_T41 l0_3 x50_2).f0.f1)) ∧ w'.cell? ⟨gb157, 2, none⟩ = some (.bool ((rd_T41 l0_3 x50_2).f1.f0)) ∧ w'.cell? ⟨gb157, 3, none⟩ = some (.bool ((rd_T41 l0_3 x50_2).f1.f1)) ∧ w'.cell? ⟨gb157, 4, none⟩ = some (.int .u64 ((rd_T41 l0_3 x50_2).f1.f2.f0)) ∧ w'.cell? ⟨gb157, 5, none⟩ = some (.int .u64 ((rd_T41 l0_3 x50_2).f1.f2.f1)) ∧ w'.cell? ⟨gb157, 6, none⟩ = some (.int .u64 ((rd_T41 l0_3 x50_2).f1.f3.f0.f0)) ∧ w'.cell? ⟨gb157, 7, none⟩ = some (.int .u64 ((rd_T41 l0_3 x50_2).f1.f3.f0.f1)) ∧ w'.cell? ⟨gb157, 8, none⟩ = some (.int .u64 ((rd_T41 l0_3 x50_2).f1.f3.f1.f0)) ∧ w'.cell? ⟨gb157, 9, none⟩ = some (.int .u64 ((rd_T41 l0_3 x50_2).f1.f3.f1.f1)) ∧ w'.cell? ⟨gb157, 10, none⟩ = some (.int .i64 ((rd_T41 l0_3 x50_2).f1.f4))) (ds := []) #[false, false, false, false, false, false, false, false, false, false, false, false, false, false, false, false, false, false, false, false, false, false, false, false, false, false, false, false, false] (by kernel_rfl) rfl rfl ⟨kq_ BK157.out 0 rfl, kq_ BK157.out 1 rfl, kq_ BK157.out 2 rfl, kq_ BK157.out 3 rfl, kq_ BK157.out 4 rfl, kq_ BK157.out 5 rfl, kq_ BK157.out 6 rfl, kq_ BK157.out 7 rfl, kq_ BK157.out 8 rfl, kq_ BK157.out 9 rfl, kq_ BK157.out 10 rfl⟩ (fun hHeld => ?_); refine with_tabW head_Check.tab10 head_Check.bits10 (fun HT_ HW_ => ?_)
              generalize w63.drew = w64 at BK151 BK157 HB hHeld ⊢
              refine pu_ HT_ 0 (some 65) (bA3 1 29) ?_
              refine pu_ HT_ 1 (some 66) (bA3 2 29) ?_
              refine pu_ HT_ 2 (some 67) (bA3 3 29) ?_
              refine pu_ HT_ 3 (some 68) (bA3 4 29) ?_
              refine pu_ HT_ 4 (some 69) (bA3 5 29) ?_
              refine pu_ HT_ 5 (some 70) (bA3 6 29) ?_
              refine pu_ HT_ 6 (some 71) (bA3 7 29) ?_
              refine pu_ HT_ 7 (some 72) (bA3 8 29) ?_
              refine tk_ HT_ HW_ hHeld 8 (some 73) (bA3 9 29) rfl (by rintro w' ⟨s0, s1, s2, s3, s4, s5, s6, s7, s8, s9, s10⟩; go_simp; with_reducible rfl) ?_
              refine one_ (i := 9) (N := some 74) (bA3 10 29) rfl rfl (one_of HT_.out (by kernel_rfl)) (by decide) (fun K hK => ?_)
              refine gg_ func47 #[.agg #[.bool ((rd_T41 l0_3 x50_2).f1.f0), .bool ((rd_T41 l0_3 x50_2).f1.f1), .int .u64 ((rd_T41 l0_3 x50_2).f1.f2.f0), .int .u64 ((rd_T41 l0_3 x50_2).f1.f2.f1), .int .u64 ((rd_T41 l0_3 x50_2).f1.f3.f0.f0), .int .u64 ((rd_T41 l0_3 x50_2).f1.f3.f0.f1), .int .u64 ((rd_T41 l0_3 x50_2).f1.f3.f1.f0), .int .u64 ((rd_T41 l0_3 x50_2).f1.f3.f1.f1), .int .i64 ((rd_T41 l0_3 x50_2).f1.f4)]] ?_
              with_reducible refine (head_shut.calls ((rd_T41 l0_3 x50_2).f1.f0) ((rd_T41 l0_3 x50_2).f1.f1) ((rd_T41 l0_3 x50_2).f1.f2.f0) ((rd_T41 l0_3 x50_2).f1.f2.f1) ((rd_T41 l0_3 x50_2).f1.f3.f0.f0) ((rd_T41 l0_3 x50_2).f1.f3.f0.f1) ((rd_T41 l0_3 x50_2).f1.f3.f1.f0) ((rd_T41 l0_3 x50_2).f1.f3.f1.f1) ((rd_T41 l0_3 x50_2).f1.f4) false _ A28.out).mono ?_
              rintro e w65 ⟨rfl, hb⟩
              refine ⟨_, rfl, ?_⟩
              replace BK151 := ak_ (kb_ (kl_ BK151) hb)
              replace BK157 := ak_ (kb_ (kl_ BK157) hb)
              replace HB := ak_ (bt_ (bw2_ HB GE151 GE157) hb)
              (try clear hb)
              (try clear hb2)
              (try clear hk)
              (try clear hi)
              refine hK.out _ _ ⟨kq_ BK157.out 0 rfl, kq_ BK157.out 1 rfl, kq_ BK157.out 2 rfl, kq_ BK157.out 3 rfl, kq_ BK157.out 4 rfl, kq_ BK157.out 5 rfl, kq_ BK157.out 6 rfl, kq_ BK157.out 7 rfl, kq_ BK157.out 8 rfl, kq_ BK157.out 9 rfl, kq_ BK157.out 10 rfl⟩ (fun hHeld => ?_)
              clear hK K
              refine norm_ (a' := ?_) ?_ ?_
              rotate_left
              ·show Act.put _ (some 74) _ = _
               simp only [Act.put, setIfInBounds_toArray, set_cons_zero, set_cons_succ, i64_w, i32_w]
               rfl
              refine pu_ HT_ 10 (some 75) (bA3 11 29) ?_
              refine pu_ HT_ 11 (some 76) (bA3 12 29) ?_
              refine pu_ HT_ 12 (some 77) (bA3 13 29) ?_
              refine pn_ HT_ 13 (some 78) (bA3 14 29) ?_
              refine pn_ HT_ 14 (some 79) (bA3 15 29) ?_
              refine pn_ HT_ 15 (some 80) (bA3 16 29) ?_
              refine pn_ HT_ 16 (some 81) (bA3 17 29) ?_
              refine pn_ HT_ 17 (some 82) (bA3 18 29) ?_
              refine pn_ HT_ 18 (some 83) (bA3 19 29) ?_
              refine pn_ HT_ 19 (some 84) (bA3 20 29) ?_
              refine pn_ HT_ 20 (some 85) (bA3 21 29) ?_
              refine pn_ HT_ 21 (some 86) (bA3 22 29) ?_
              refine pn_ HT_ 22 (some 87) (bA3 23 29) ?_
              refine pn_ HT_ 23 (some 88) (bA3 24 29) ?_
              refine pn_ HT_ 24 (some 89) (bA3 25 29) ?_
              refine pn_ HT_ 25 (some 90) (bA3 26 29) ?_
              refine pn_ HT_ 26 (some 91) (bA3 27 29) ?_
              refine pn_ HT_ 27 (some 92) (bA3 28 29) ?_
              refine pu_ HT_ 28 (some 93) (bA3 29 29) ?_
              refine done_ (done_of HT_.out (by kernel_rfl)) ?_
              try go_wp2
              go_ret
              exact ea_ (bw2_ HB GE151 GE157)
            ·replace c27 := Bool.eq_false_iff.mpr c27
             subst c27
             have H1 : (some 1) = some r := by rw [if_neg (show ¬ (false = true) by decide)] at H; exact H
             clear H
             have H := H1
             clear H1
             obtain rfl := Option.some.inj H
             have p156 : 0 ≤ (x50_2 : Int) := od_ (by first | (with_reducible assumption) | assumption)
             have q156 : x50_2 < (l0_3.length : Int) := od_ (by first | (with_reducible assumption) | assumption)
             obtain ⟨ad156, e156, hx156_0, hx156_1, hx156_2, hx156_3, hx156_4, hx156_5, hx156_6, hx156_7, hx156_8, hx156_9, hx156_10⟩ := at_T41 HR0_3.out x50_2 p156 q156
             cases e156
             replace hx156_0 := cx_ HB hx156_0
             replace hx156_1 := cx_ HB hx156_1
             replace hx156_2 := cx_ HB hx156_2
             replace hx156_3 := cx_ HB hx156_3
             replace hx156_4 := cx_ HB hx156_4
             replace hx156_5 := cx_ HB hx156_5
             replace hx156_6 := cx_ HB hx156_6
             replace hx156_7 := cx_ HB hx156_7
             replace hx156_8 := cx_ HB hx156_8
             replace hx156_9 := cx_ HB hx156_9
             replace hx156_10 := cx_ HB hx156_10
             replace p156 := eq_true p156
             replace q156 := eq_true q156
             try go_wp2_with (first | ((with_reducible refine gate_dst (N := 6) rfl ?_); (try (refine gate_guard (by rfl) ?_; dsimp only)); refine bx_ 6 #[.int .u64 0, .int .u64 0, .bool false, .bool false, .int .u64 0, .int .u64 0, .int .u64 0, .int .u64 0, .int .u64 0, .int .u64 0, .int .i64 0] 41 ?_; intro gb157 hg w66 hbox hb; have BK157 := ak_ hbox; have GW157 := ak_ (gw1_ HB GE151 hg); have GE157 := ak_ (gw1_ HB GE151 hg); replace HB := ak_ (bt_ (bw1_ HB GE151) hb); have NB151_157 := ak_ (nl_ hg BK151); have NB157_151 := ak_ (nr_ hg BK151); replace BK151 := ak_ (kb_ (kl_ BK151) hb); clear hb hbox hg; have hnb67 := NB157_151.out; have hnc67 := NB151_157.out; obtain ⟨hcz68_0, hcz68_1, hcz68_2, hcz68_3, hcz68_4, hcz68_5, hcz68_6, hcz68_7, hcz68_8, hcz68_9, hcz68_10, hfz68_0, hfz68_1, hfz68_2, hfz68_3, hfz68_4, hfz68_5, hfz68_6, hfz68_7, hfz68_8, hfz68_9, hfz68_10⟩ := kc11_ BK157.out; obtain ⟨hcz69_0, hcz69_1, hcz69_2, hcz69_3, hcz69_4, hcz69_5, hcz69_6, hcz69_7, hcz69_8, hcz69_9, hcz69_10, hcz69_11, hcz69_12, hfz69_0, hfz69_1, hfz69_2, hfz69_3, hfz69_4, hfz69_5, hfz69_6, hfz69_7, hfz69_8, hfz69_9, hfz69_10, hfz69_11, hfz69_12⟩ := kc13_ BK151.out) | ((with_reducible refine gate_callee (f := 48) rfl ?_); refine gl_ (some 62) func48 #[.int .i64 a0_1, .int .i64 a0_0, .agg #[.int .u64 ((rd_T41 l0_3 x50_2).f0.f0), .int .u64 ((rd_T41 l0_3 x50_2).f0.f1)]] ?_; (with_reducible refine (layer_May.calls k2 a0_1 a0_0 ((rd_T41 l0_3 x50_2).f0.f0) ((rd_T41 l0_3 x50_2).f0.f1) false t159 _ A25.out).mono ?_); rintro e w70 ⟨rfl, hb⟩; refine ⟨_, rfl, ?_⟩; replace BK151 := ak_ (kb_ (g := gb151) (o := .cells #[.int .i64 a0_0, .int .i64 a0_1, .int .i64 a0_2, .slice (some ad156) l0_3.length c0_3, .bool a0_4, .bool a0_5, .int .u64 a0_6, .int .u64 a0_7, .int .u64 a0_8, .int .u64 a0_9, .int .u64 a0_10, .int .u64 a0_11, .int .i64 a0_12] 31 (0, 0)) (by (with_reducible repeat (first | refine kn_ ?_ _ | refine kd_ ?_ | refine ka_ ?_ _)); (iterate 11 refine blk_far ?_ NB151_157.out _); exact BK151.out) hb); replace BK157 := ak_ (kb_ (g := gb157) (o := .cells #[.int .u64 ((rd_T41 l0_3 x50_2).f0.f0), .int .u64 ((rd_T41 l0_3 x50_2).f0.f1), .bool ((rd_T41 l0_3 x50_2).f1.f0), .bool ((rd_T41 l0_3 x50_2).f1.f1), .int .u64 ((rd_T41 l0_3 x50_2).f1.f2.f0), .int .u64 ((rd_T41 l0_3 x50_2).f1.f2.f1), .int .u64 ((rd_T41 l0_3 x50_2).f1.f3.f0.f0), .int .u64 ((rd_T41 l0_3 x50_2).f1.f3.f0.f1), .int .u64 ((rd_T41 l0_3 x50_2).f1.f3.f1.f0), .int .u64 ((rd_T41 l0_3 x50_2).f1.f3.f1.f1), .int .i64 ((rd_T41 l0_3 x50_2).f1.f4)] 41 (0, 0)) (by (with_reducible repeat (first | refine kn_ ?_ _ | refine kd_ ?_ | refine ka_ ?_ _)); exact sC_blk BK157.out rfl rfl) hb); replace HB := ak_ (bt_ (bw2_ HB GE151 GE157) hb); (try clear hb); (try clear hk)))
             replace BK151 := ak_ (kd_ BK151.out)
             replace BK157 := ak_ (kd_ BK157.out)
             replace HB := ak_ (bd_ HB.out)
             refine start_ (n := 29) (S := fun w' => True) (ds := []) #[false, false, false, false, false, false, false, false, false, false, false, false, false, false, false, false, false, false, false, false, false, false, false, false, false, false, false, false, false] (by kernel_rfl) rfl rfl trivial (fun hHeld => ?_); refine with_tabW head_Check.tab10 head_Check.bits10 (fun HT_ HW_ => ?_)
             generalize w70.drew = w71 at BK151 BK157 HB hHeld ⊢
             refine pu_ HT_ 0 (some 65) (bA3 1 29) ?_
             refine pu_ HT_ 1 (some 66) (bA3 2 29) ?_
             refine pu_ HT_ 2 (some 67) (bA3 3 29) ?_
             refine pu_ HT_ 3 (some 68) (bA3 4 29) ?_
             refine pu_ HT_ 4 (some 69) (bA3 5 29) ?_
             refine pu_ HT_ 5 (some 70) (bA3 6 29) ?_
             refine pu_ HT_ 6 (some 71) (bA3 7 29) ?_
             refine pn_ HT_ 7 (some 72) (bA3 8 29) ?_
             refine pn_ HT_ 8 (some 73) (bA3 9 29) ?_
             refine pn_ HT_ 9 (some 74) (bA3 10 29) ?_
             refine pn_ HT_ 10 (some 75) (bA3 11 29) ?_
             refine pu_ HT_ 11 (some 76) (bA3 12 29) ?_
             refine pu_ HT_ 12 (some 77) (bA3 13 29) ?_
             refine pn_ HT_ 13 (some 78) (bA3 14 29) ?_
             refine pn_ HT_ 14 (some 79) (bA3 15 29) ?_
             refine pn_ HT_ 15 (some 80) (bA3 16 29) ?_
             refine pn_ HT_ 16 (some 81) (bA3 17 29) ?_
             refine pn_ HT_ 17 (some 82) (bA3 18 29) ?_
             refine pn_ HT_ 18 (some 83) (bA3 19 29) ?_
             refine pn_ HT_ 19 (some 84) (bA3 20 29) ?_
             refine pn_ HT_ 20 (some 85) (bA3 21 29) ?_
             refine pn_ HT_ 21 (some 86) (bA3 22 29) ?_
             refine pn_ HT_ 22 (some 87) (bA3 23 29) ?_
             refine pn_ HT_ 23 (some 88) (bA3 24 29) ?_
             refine pn_ HT_ 24 (some 89) (bA3 25 29) ?_
             refine pn_ HT_ 25 (some 90) (bA3 26 29) ?_
             refine pn_ HT_ 26 (some 91) (bA3 27 29) ?_
             refine pn_ HT_ 27 (some 92) (bA3 28 29) ?_
             refine pu_ HT_ 28 (some 93) (bA3 29 29) ?_
             refine done_ (done_of HT_.out (by kernel_rfl)) ?_
             try go_wp2
             go_ret
             exact ea_ (bw2_ HB GE151 GE157)
           ·rw [if_neg c26] at H
            have c26b0 : (t159 == 0) = false := beq_eq_false_iff_ne.mpr c26
            have c26b1 : (t159 != 0) = true := bne_iff_ne.mpr c26
            obtain rfl := Option.some.inj H
            have p156 : 0 ≤ (x50_2 : Int) := od_ (by first | (with_reducible assumption) | assumption)
            have q156 : x50_2 < (l0_3.length : Int) := od_ (by first | (with_reducible assumption) | assumption)
            obtain ⟨ad156, e156, hx156_0, hx156_1, hx156_2, hx156_3, hx156_4, hx156_5, hx156_6, hx156_7, hx156_8, hx156_9, hx156_10⟩ := at_T41 HR0_3.out x50_2 p156 q156
            cases e156
            replace hx156_0 := cx_ HB hx156_0
            replace hx156_1 := cx_ HB hx156_1
            replace hx156_2 := cx_ HB hx156_2
            replace hx156_3 := cx_ HB hx156_3
            replace hx156_4 := cx_ HB hx156_4
            replace hx156_5 := cx_ HB hx156_5
            replace hx156_6 := cx_ HB hx156_6
            replace hx156_7 := cx_ HB hx156_7
            replace hx156_8 := cx_ HB hx156_8
            replace hx156_9 := cx_ HB hx156_9
            replace hx156_10 := cx_ HB hx156_10
            replace p156 := eq_true p156
            replace q156 := eq_true q156
            try go_wp2_with (first | ((with_reducible refine gate_dst (N := 6) rfl ?_); (try (refine gate_guard (by rfl) ?_; dsimp only)); refine bx_ 6 #[.int .u64 0, .int .u64 0, .bool false, .bool false, .int .u64 0, .int .u64 0, .int .u64 0, .int .u64 0, .int .u64 0, .int .u64 0, .int .i64 0] 41 ?_; intro gb157 hg w72 hbox hb; have BK157 := ak_ hbox; have GW157 := ak_ (gw1_ HB GE151 hg); have GE157 := ak_ (gw1_ HB GE151 hg); replace HB := ak_ (bt_ (bw1_ HB GE151) hb); have NB151_157 := ak_ (nl_ hg BK151); have NB157_151 := ak_ (nr_ hg BK151); replace BK151 := ak_ (kb_ (kl_ BK151) hb); clear hb hbox hg; have hnb73 := NB157_151.out; have hnc73 := NB151_157.out; obtain ⟨hcz74_0, hcz74_1, hcz74_2, hcz74_3, hcz74_4, hcz74_5, hcz74_6, hcz74_7, hcz74_8, hcz74_9, hcz74_10, hfz74_0, hfz74_1, hfz74_2, hfz74_3, hfz74_4, hfz74_5, hfz74_6, hfz74_7, hfz74_8, hfz74_9, hfz74_10⟩ := kc11_ BK157.out; obtain ⟨hcz75_0, hcz75_1, hcz75_2, hcz75_3, hcz75_4, hcz75_5, hcz75_6, hcz75_7, hcz75_8, hcz75_9, hcz75_10, hcz75_11, hcz75_12, hfz75_0, hfz75_1, hfz75_2, hfz75_3, hfz75_4, hfz75_5, hfz75_6, hfz75_7, hfz75_8, hfz75_9, hfz75_10, hfz75_11, hfz75_12⟩ := kc13_ BK151.out) | ((with_reducible refine gate_callee (f := 48) rfl ?_); refine gl_ (some 62) func48 #[.int .i64 a0_1, .int .i64 a0_0, .agg #[.int .u64 ((rd_T41 l0_3 x50_2).f0.f0), .int .u64 ((rd_T41 l0_3 x50_2).f0.f1)]] ?_; (with_reducible refine (layer_May.calls k2 a0_1 a0_0 ((rd_T41 l0_3 x50_2).f0.f0) ((rd_T41 l0_3 x50_2).f0.f1) t158 t159 _ A25.out).mono ?_); rintro e w76 ⟨rfl, hb⟩; refine ⟨_, rfl, ?_⟩; replace BK151 := ak_ (kb_ (g := gb151) (o := .cells #[.int .i64 a0_0, .int .i64 a0_1, .int .i64 a0_2, .slice (some ad156) l0_3.length c0_3, .bool a0_4, .bool a0_5, .int .u64 a0_6, .int .u64 a0_7, .int .u64 a0_8, .int .u64 a0_9, .int .u64 a0_10, .int .u64 a0_11, .int .i64 a0_12] 31 (0, 0)) (by (with_reducible repeat (first | refine kn_ ?_ _ | refine kd_ ?_ | refine ka_ ?_ _)); (iterate 11 refine blk_far ?_ NB151_157.out _); exact BK151.out) hb); replace BK157 := ak_ (kb_ (g := gb157) (o := .cells #[.int .u64 ((rd_T41 l0_3 x50_2).f0.f0), .int .u64 ((rd_T41 l0_3 x50_2).f0.f1), .bool ((rd_T41 l0_3 x50_2).f1.f0), .bool ((rd_T41 l0_3 x50_2).f1.f1), .int .u64 ((rd_T41 l0_3 x50_2).f1.f2.f0), .int .u64 ((rd_T41 l0_3 x50_2).f1.f2.f1), .int .u64 ((rd_T41 l0_3 x50_2).f1.f3.f0.f0), .int .u64 ((rd_T41 l0_3 x50_2).f1.f3.f0.f1), .int .u64 ((rd_T41 l0_3 x50_2).f1.f3.f1.f0), .int .u64 ((rd_T41 l0_3 x50_2).f1.f3.f1.f1), .int .i64 ((rd_T41 l0_3 x50_2).f1.f4)] 41 (0, 0)) (by (with_reducible repeat (first | refine kn_ ?_ _ | refine kd_ ?_ | refine ka_ ?_ _)); exact sC_blk BK157.out rfl rfl) hb); replace HB := ak_ (bt_ (bw2_ HB GE151 GE157) hb); (try clear hb); (try clear hk)))
            replace BK151 := ak_ (kd_ BK151.out)
            replace BK157 := ak_ (kd_ BK157.out)
            replace HB := ak_ (bd_ HB.out)
            refine start_ (n := 29) (S := fun w' => True) (ds := []) #[false, false, false, false, false, false, false, false, false, false, false, false, false, false, false, false, false, false, false, false, false, false, false, false, false, false, false, false, false] (by kernel_rfl) rfl rfl trivial (fun hHeld => ?_); refine with_tabW head_Check.tab10 head_Check.bits10 (fun HT_ HW_ => ?_)
            generalize w76.drew = w77 at BK151 BK157 HB hHeld ⊢
            refine pu_ HT_ 0 (some 65) (bA3 1 29) ?_
            refine pu_ HT_ 1 (some 66) (bA3 2 29) ?_
            refine pu_ HT_ 2 (some 67) (bA3 3 29) ?_
            refine pn_ HT_ 3 (some 68) (bA3 4 29) ?_
            refine pn_ HT_ 4 (some 69) (bA3 5 29) ?_
            refine pu_ HT_ 5 (some 70) (bA3 6 29) ?_
            refine pu_ HT_ 6 (some 71) (bA3 7 29) ?_
            refine pn_ HT_ 7 (some 72) (bA3 8 29) ?_
            refine pn_ HT_ 8 (some 73) (bA3 9 29) ?_
            refine pn_ HT_ 9 (some 74) (bA3 10 29) ?_
            refine pn_ HT_ 10 (some 75) (bA3 11 29) ?_
            refine pu_ HT_ 11 (some 76) (bA3 12 29) ?_
            refine pu_ HT_ 12 (some 77) (bA3 13 29) ?_
            refine pn_ HT_ 13 (some 78) (bA3 14 29) ?_
            refine pn_ HT_ 14 (some 79) (bA3 15 29) ?_
            refine pn_ HT_ 15 (some 80) (bA3 16 29) ?_
            refine pn_ HT_ 16 (some 81) (bA3 17 29) ?_
            refine pn_ HT_ 17 (some 82) (bA3 18 29) ?_
            refine pn_ HT_ 18 (some 83) (bA3 19 29) ?_
            refine pn_ HT_ 19 (some 84) (bA3 20 29) ?_
            refine pn_ HT_ 20 (some 85) (bA3 21 29) ?_
            refine pn_ HT_ 21 (some 86) (bA3 22 29) ?_
            refine pn_ HT_ 22 (some 87) (bA3 23 29) ?_
            refine pn_ HT_ 23 (some 88) (bA3 24 29) ?_
            refine pn_ HT_ 24 (some 89) (bA3 25 29) ?_
            refine pn_ HT_ 25 (some 90) (bA3 26 29) ?_
            refine pn_ HT_ 26 (some 91) (bA3 27 29) ?_
            refine pn_ HT_ 27 (some 92) (bA3 28 29) ?_
            refine pu_ HT_ 28 (some 93) (bA3 29 29) ?_
            refine done_ (done_of HT_.out (by kernel_rfl)) ?_
            try go_wp2
            go_ret
            exact ea_ (bw2_ HB GE151 GE157)
          ·rw [if_neg c24] at H
           exact absurd H (by simp)
         ·rw [if_neg c23] at H
          exact absurd H (by simp)
        ·rw [if_neg c22] at H
         have c22b0 := decide_eq_false c22
         clear c22
         obtain rfl := Option.some.inj H
         go_wp2
         go_ret
         exact ea_ (bw1_ HB GE151)
     ·rw [if_neg c18] at H
      have c18b0 : (t155 == 0) = false := beq_eq_false_iff_ne.mpr c18
      have c18b1 : (t155 != 0) = true := bne_iff_ne.mpr c18
      obtain rfl := Option.some.inj H
      obtain ⟨hcz78_0, hcz78_1, hcz78_2, hcz78_3, hcz78_4, hcz78_5, hcz78_6, hcz78_7, hcz78_8, hcz78_9, hcz78_10, hcz78_11, hcz78_12, hfz78_0, hfz78_1, hfz78_2, hfz78_3, hfz78_4, hfz78_5, hfz78_6, hfz78_7, hfz78_8, hfz78_9, hfz78_10, hfz78_11, hfz78_12⟩ := kc13_ BK151.out
      go_wp2_with (first | ((with_reducible refine gate_callee (f := 48) rfl ?_); refine gl_ (some 41) func48 #[.int .i64 a0_1, .int .i64 a0_0, .agg #[.int .u64 1, .int .u64 0]] ?_; (with_reducible refine (layer_May.calls kj1 a0_1 a0_0 1 0 t154 t155 _ A17.out).mono ?_); rintro e w79 ⟨rfl, hb⟩; refine ⟨_, rfl, ?_⟩; replace BK151 := ak_ (kb_ (kl_ BK151) hb); replace HB := ak_ (bt_ (bw1_ HB GE151) hb); (try clear hb); (try clear hk)))
      go_wp2_with (first | ((with_reducible refine gate_callee (f := 48) rfl ?_); refine gl_ (some 41) func48 #[.int .i64 a0_1, .int .i64 a0_0, .agg #[.int .u64 1, .int .u64 0]] ?_; (with_reducible refine (layer_May.calls kj1 a0_1 a0_0 1 0 t154 t155 _ A17.out).mono ?_); rintro e w79 ⟨rfl, hb⟩; refine ⟨_, rfl, ?_⟩; replace BK151 := ak_ (kb_ (kl_ BK151) hb); replace HB := ak_ (bt_ (bw1_ HB GE151) hb); (try clear hb); (try clear hk)))
      go_ret
      exact ea_ (bw1_ HB GE151)
end Go.Proofs.Ytoljdfgkkkpnbaa.MP
