-- written by a program of this session (wip/tools/mprint.sh) for this seat
import Derived.Test.YtoljdfgkkkpnbaaMPx0
import Derived.Test.YtoljdfgkkkpnbaaMPx1
import Derived.Test.YtoljdfgkkkpnbaaMPx7
namespace Go.Proofs.Ytoljdfgkkkpnbaa.MP
open Go.RowKit Go.Proofs.YtoljdfgkkkpnbaaW.PrintWords Go.Proofs.YtoljdfgkkkpnbaaW.PrintLast Go.Proofs.YtoljdfgkkkpnbaaW.PrintMore
open Option (bind_eq_some_iff some.injEq)
open _root_.Go.Proofs.Try
open List (setIfInBounds_toArray set_cons_zero set_cons_succ map_toArray map_cons map_nil length_drop length_take)
attribute [local go_sem] max2_int min2_int max_two min_two max_three min_three max_four min_four
set_option linter.unusedVariables false
set_option linter.unusedSimpArgs false
attribute [local go_sem high] eqA29 eqA41
def bA8 (k n : Nat) : Array Bool := (Array.range n).map fun i => decide (i < k)
mutual
def medlarref16_From.j0 : Nat → List Int → Bool → Option (Int × Int × Int × (List (S41)) × Bool × Bool × Int × Int × Int × Int × Int × Int × Int × Int)
  | 0, _, _ => none
  | k + 1, x0, x21 => if x21 = true then (some (0, 0, 0, ([] : List (S41)), false, false, 0, 0, 0, 0, 0, 0, 0, 2)) else (if 1 < (x0.length : Int) then (if 2 < (x0.length : Int) then (if 3 ≤ 11 then (if 11 ≤ (x0.length : Int) then ((medlarref16_take.f k ((x0.take 11).drop 3)).bind fun t374 => (if 0 ≤ (wrap64 ((x0.length : Int) - 32)) then (if (wrap64 ((x0.length : Int) - 32)) ≤ (x0.length : Int) then ((medlarref16_sealed.f k (x0.drop ((wrap64 ((x0.length : Int) - 32)) : Int).toNat)).bind fun bt376 => (medlarref16_From.l0 k x0 15 (wrap64 (rd x0 1)) (wrap64 (rd x0 2)) (wrap64 (t374)) ([] : List (S41)) bt376.1 bt376.2.1 bt376.2.2.1 bt376.2.2.2.1 bt376.2.2.2.2.1 bt376.2.2.2.2.2.1 bt376.2.2.2.2.2.2.1 bt376.2.2.2.2.2.2.2.1 bt376.2.2.2.2.2.2.2.2)) else (none)) else (none))) else (none)) else (none)) else (none)) else (none))
def medlarref16_From.l0 : Nat → List Int → Int → Int → Int → Int → List (S41) → Bool → Bool → Int → Int → Int → Int → Int → Int → Int → Option (Int × Int × Int × (List (S41)) × Bool × Bool × Int × Int × Int × Int × Int × Int × Int × Int)
  | 0, _, _, _, _, _, _, _, _, _, _, _, _, _, _, _ => none
  | k + 1, x0, x5, x386000, x386001, x386002, x386003, x386004, x386005, x386006, x386007, x386008, x386009, x386010, x386011, x386012 => if (wrap64 (x5 + 48)) ≤ (wrap64 ((x0.length : Int) - 32)) then (if 0 ≤ x5 then (if x5 ≤ (wrap64 (x5 + 8)) then (if (wrap64 (x5 + 8)) ≤ (x0.length : Int) then ((medlarref16_take.f k ((x0.take ((wrap64 (x5 + 8)) : Int).toNat).drop (x5 : Int).toNat)).bind fun t387 => (if 0 ≤ (wrap64 (x5 + 8)) then (if (wrap64 (x5 + 8)) ≤ (wrap64 (x5 + 16)) then (if (wrap64 (x5 + 16)) ≤ (x0.length : Int) then ((medlarref16_take.f k ((x0.take ((wrap64 (x5 + 16)) : Int).toNat).drop ((wrap64 (x5 + 8)) : Int).toNat)).bind fun t389 => (if 0 ≤ (wrap64 (x5 + 16)) then (if (wrap64 (x5 + 16)) ≤ (wrap64 (x5 + 48)) then (if (wrap64 (x5 + 48)) ≤ (x0.length : Int) then ((medlarref16_sealed.f k ((x0.take ((wrap64 (x5 + 48)) : Int).toNat).drop ((wrap64 (x5 + 16)) : Int).toNat)).bind fun bt391 => (if x386003.length < 1759218604441 then (medlarref16_From.l0 k x0 (wrap64 (x5 + 48)) x386000 x386001 x386002 (x386003 ++ [(⟨(⟨t387, t389⟩ : S39), (⟨bt391.1, bt391.2.1, (⟨bt391.2.2.1, bt391.2.2.2.1⟩ : S25), (⟨(⟨bt391.2.2.2.2.1, bt391.2.2.2.2.2.1⟩ : S25), (⟨bt391.2.2.2.2.2.2.1, bt391.2.2.2.2.2.2.2.1⟩ : S25)⟩ : S27), bt391.2.2.2.2.2.2.2.2⟩ : S29)⟩ : S41)]) x386004 x386005 x386006 x386007 x386008 x386009 x386010 x386011 x386012) else (none))) else (none)) else (none)) else (none))) else (none)) else (none)) else (none))) else (none)) else (none)) else (none)) else ((medlarref16_Bytes.f k x386000 x386001 x386002 x386003 x386004 x386005 x386006 x386007 x386008 x386009 x386010 x386011 x386012).bind fun bt403 => (if bt403.2 = 0 then (if (strOfNums bt403.1).toList = (strOfNums x0).toList then (some (x386000, x386001, x386002, x386003, x386004, x386005, x386006, x386007, x386008, x386009, x386010, x386011, x386012, 0)) else (some (0, 0, 0, ([] : List (S41)), false, false, 0, 0, 0, 0, 0, 0, 0, 2))) else (some (0, 0, 0, ([] : List (S41)), false, false, 0, 0, 0, 0, 0, 0, 0, 2))))
end
def medlarref16_From.f (k : Nat) (l0 : List Int) : Option (Int × Int × Int × (List (S41)) × Bool × Bool × Int × Int × Int × Int × Int × Int × Int × Int) := if (l0.length : Int) > 2097152 then (some (0, 0, 0, ([] : List (S41)), false, false, 0, 0, 0, 0, 0, 0, 0, 3)) else (if (l0.length : Int) < 47 then (medlarref16_From.j0 k l0 true) else (medlarref16_From.j0 k l0 ((Int.tmod (wrap64 ((l0.length : Int) - 47)) 48) != 0)))
theorem medlarref16_From.mono_l : ∀ k, (∀ y0 y1, LeO (medlarref16_From.j0 k y0 y1) (medlarref16_From.j0 (k + 1) y0 y1)) ∧ (∀ y0 y1 y2 y3 y4 y5 y6 y7 y8 y9 y10 y11 y12 y13 y14, LeO (medlarref16_From.l0 k y0 y1 y2 y3 y4 y5 y6 y7 y8 y9 y10 y11 y12 y13 y14) (medlarref16_From.l0 (k + 1) y0 y1 y2 y3 y4 y5 y6 y7 y8 y9 y10 y11 y12 y13 y14))
  | 0 => ⟨fun _ _ r h => by simp [medlarref16_From.j0] at h, fun _ _ _ _ _ _ _ _ _ _ _ _ _ _ _ r h => by simp [medlarref16_From.l0] at h⟩
  | k + 1 => by
   obtain ⟨ih0, ih1⟩ := medlarref16_From.mono_l k
   refine ⟨?_, ?_⟩
   all_goals intros
   all_goals first | unfold medlarref16_From.j0 | unfold medlarref16_From.l0
   all_goals repeat' first | (with_reducible first | exact ih0 .. | exact ih1 .. | exact medlarref16_Bytes.mono .. | exact medlarref16_sealed.mono .. | exact medlarref16_take.mono .. | exact LeO.refl _ | exact LeO.none _ | refine LeO.ite ?_ ?_ | refine LeO.bind ?_ (fun _ => ?_)) | exact ih0 .. | exact ih1 .. | exact medlarref16_Bytes.mono .. | exact medlarref16_sealed.mono .. | exact medlarref16_take.mono .. | refine LeO.ite ?_ ?_ | refine LeO.bind ?_ (fun _ => ?_)
theorem medlarref16_From.mono : ∀ a0 k, LeO (medlarref16_From.f k a0) (medlarref16_From.f (k + 1) a0) := by
  intro a0 k
  obtain ⟨ih0, ih1⟩ := medlarref16_From.mono_l k
  unfold medlarref16_From.f
  repeat' first | (with_reducible first | exact ih0 .. | exact ih1 .. | exact medlarref16_Bytes.mono .. | exact medlarref16_sealed.mono .. | exact medlarref16_take.mono .. | exact LeO.refl _ | exact LeO.none _ | refine LeO.ite ?_ ?_ | refine LeO.bind ?_ (fun _ => ?_)) | exact ih0 .. | exact ih1 .. | exact medlarref16_Bytes.mono .. | exact medlarref16_sealed.mono .. | exact medlarref16_take.mono .. | refine LeO.ite ?_ ?_ | refine LeO.bind ?_ (fun _ => ?_)
def medlarref16_From.T5 : Bool × List (List Nat × List Nat) := (true, [([], []), ([0], [0]), ([1], [1]), ([2], [2]), ([], []), ([4], [4]), ([5], [5]), ([6], [6]), ([], []), ([8], [8]), ([9], [9]), ([10], [10]), ([], []), ([], []), ([13], [13]), ([14], [14]), ([12, 15], [12, 15]), ([16, 10], [16]), ([3, 7, 11, 17], [3, 7, 11, 17]), ([], []), ([19, 18, 17, 0, 1, 2, 3, 4, 5, 6, 7, 8, 9, 10, 11, 12, 13, 14, 15, 16, 17, 18, 19], [18, 19])])
def medlarref16_From.B5 : List Nat := [0, 1, 3, 7, 0, 16, 48, 112, 0, 256, 768, 1792, 0, 0, 8192, 24576, 61440, 128768, 262143, 0, 1048575]
theorem medlarref16_From.tab5 : rtab .any (opsOf Try.f21 5) = medlarref16_From.T5 := by kernel_rfl
theorem medlarref16_From.bits5 : waitsOk medlarref16_From.T5.2 medlarref16_From.B5 = true := by kernel_rfl
def medlarref16_From.T9 : Bool × List (List Nat × List Nat) := (true, [([], []), ([0], [0]), ([], []), ([], []), ([], []), ([4], [4]), ([2, 3, 5], [2, 3, 5]), ([6], [6]), ([], []), ([], []), ([9], [9]), ([], []), ([11], [11]), ([8, 10, 12], [8, 10, 12]), ([13, 7], [13]), ([7, 14], [7, 14]), ([], []), ([], []), ([17], [17]), ([], []), ([19], [19]), ([16, 18, 20], [16, 18, 20]), ([21, 14], [21]), ([15, 22], [15, 22]), ([23], [23]), ([1, 24, 22], [1, 24]), ([0, 1, 2, 3, 4, 5, 6, 7, 8, 9, 10, 11, 12, 13, 14, 15, 16, 17, 18, 19, 20, 21, 22, 23, 24, 25], []), ([26, 25, 25, 0, 1, 2, 3, 4, 5, 6, 7, 8, 9, 10, 11, 12, 13, 14, 15, 16, 17, 18, 19, 20, 21, 22, 23, 24, 25], [25, 26])])
def medlarref16_From.B9 : List Nat := [0, 1, 0, 0, 0, 16, 60, 124, 0, 0, 512, 0, 2048, 7936, 16380, 32764, 0, 0, 131072, 0, 524288, 2031616, 4161532, 8388604, 16777212, 33554431, 67108863, 134217727]
theorem medlarref16_From.tab9 : rtab .any (opsOf Try.f21 9) = medlarref16_From.T9 := by kernel_rfl
theorem medlarref16_From.bits9 : waitsOk medlarref16_From.T9.2 medlarref16_From.B9 = true := by kernel_rfl
set_option maxHeartbeats 8000000 in
set_option maxRecDepth 100000 in
theorem medlarref16_From.calls (k : Nat) (A0 : Option Addr) (c0 : Nat) (l0 : List Int) (r1 : Int) (r2 : Int) (r3 : Int) (r4 : List (S41)) (r5 : Bool) (r6 : Bool) (r7 : Int) (r8 : Int) (r9 : Int) (r10 : Int) (r11 : Int) (r12 : Int) (r13 : Int) (r14 : Int) (w : World) (hr0 : Kd.C (Kd.int .u8) w A0 l0.length l0) (hc0 : l0.length ≤ c0) (h : medlarref16_From.f k l0 = some (r1, r2, r3, r4, r5, r6, r7, r8, r9, r10, r11, r12, r13, r14)) :
   Calls Try.prog 21 #[.slice A0 l0.length c0] w fun e w' => ∃ v3_ : Value, e = .returned (.tuple #[.agg #[.int .i64 r1, .int .i64 r2, .int .i64 r3, v3_, .bool r5, .bool r6, .int .u64 r7, .int .u64 r8, .int .u64 r9, .int .u64 r10, .int .u64 r11, .int .u64 r12, .int .i64 r13], .int .i64 r14]) ∧ Kd.R k41 41 w' w.heap.size (fun _ => True) v3_ r4 ∧ Below w.heap.size w w' := by
  have hu31 := underlying31
  have hu39 := underlying39
  have hu41 := underlying41
  have HR0 := ak_ hr0
  have HC0 := ak_ hc0
  clear hr0 hc0
  have HB := ak_ (Below.refl w.heap.size w)
  have H : (if (l0.length : Int) > 2097152 then (some (0, 0, 0, ([] : List (S41)), false, false, 0, 0, 0, 0, 0, 0, 0, 3)) else (if (l0.length : Int) < 47 then (medlarref16_From.j0 k l0 true) else (medlarref16_From.j0 k l0 ((Int.tmod (wrap64 ((l0.length : Int) - 47)) 48) != 0)))) = some (r1, r2, r3, r4, r5, r6, r7, r8, r9, r10, r11, r12, r13, r14) := h
  clear h
  by_cases c2 : (l0.length : Int) > 2097152
  ·rw [if_pos c2] at H
   have c2b0 : decide (2097152 < (l0.length : Int)) = true := decide_eq_true c2
   have c2b1 : decide (2097152 < l0.length) = true := decide_eq_true (by omega)
   clear c2
   simp only [some.injEq, Prod.mk.injEq] at H
   obtain ⟨rfl, rfl, rfl, rfl, rfl, rfl, rfl, rfl, rfl, rfl, rfl, rfl, rfl, rfl⟩ := H
   go_enter func21, ntmps21
   go_wp2_with (first | ((with_reducible refine gate_dst (N := 2) rfl ?_); (try (refine gate_guard (by rfl) ?_; dsimp only)); refine bx_ 2 #[.int .i64 0, .int .i64 0, .int .i64 0, .slice none 0 0, .bool false, .bool false, .int .u64 0, .int .u64 0, .int .u64 0, .int .u64 0, .int .u64 0, .int .u64 0, .int .i64 0] 31 ?_; intro gb370 hg w3 hbox hb; have BK370 := ak_ hbox; have GW370 := ak_ (gs_ hg HB); have GE370 := ak_ (gs_ hg HB); replace HB := ak_ (bt_ (bl_ HB) hb); clear hb hbox hg; obtain ⟨hcz4_0, hcz4_1, hcz4_2, hcz4_3, hcz4_4, hcz4_5, hcz4_6, hcz4_7, hcz4_8, hcz4_9, hcz4_10, hcz4_11, hcz4_12, hfz4_0, hfz4_1, hfz4_2, hfz4_3, hfz4_4, hfz4_5, hfz4_6, hfz4_7, hfz4_8, hfz4_9, hfz4_10, hfz4_11, hfz4_12⟩ := kc13_ BK370.out))
   refine bodyPost_ret (results_ct rfl _ _ gb370 31 #[.int .i64 0, .int .i64 0, .int .i64 0, .slice none 0 0, .bool false, .bool false, .int .u64 0, .int .u64 0, .int .u64 0, .int .u64 0, .int .u64 0, .int .u64 0, .int .i64 0] (0, 0) _ rfl (by (with_reducible repeat (first | refine kn_ ?_ _ | refine kd_ ?_ | refine ka_ ?_ _)); exact sC_blk BK370.out rfl rfl) underlying31 rfl (by kernel_rfl)) rfl ?_
   exact ⟨_, by first | rfl | (simp <;> rfl) | (simp [*] <;> rfl), by first | exact Kd.R_nil _ _ _ _ _ | exact Kd.N_nil _ _ _ _ _ | exact Kd.V_nil _ _ _ _ _ | exact Kd.Q_nil _ _ _ _ _ | exact Kd.S_nil _ _ _ _ _, bw1_ HB GE370⟩
  ·rw [if_neg c2] at H
   have c2b0 : decide (2097152 < (l0.length : Int)) = false := decide_eq_false c2
   have c2b1 : decide (2097152 < l0.length) = false := decide_eq_false (by omega)
   clear c2
   have HC5 := ak_ H
   clear H
   go_enter func21, ntmps21
   go_upto_region 3 with (first | ((with_reducible refine gate_dst (N := 2) rfl ?_); (try (refine gate_guard (by rfl) ?_; dsimp only)); refine bx_ 2 #[.int .i64 0, .int .i64 0, .int .i64 0, .slice none 0 0, .bool false, .bool false, .int .u64 0, .int .u64 0, .int .u64 0, .int .u64 0, .int .u64 0, .int .u64 0, .int .i64 0] 31 ?_; intro gb370 hg w6 hbox hb; have BK370 := ak_ hbox; have GW370 := ak_ (gs_ hg HB); have GE370 := ak_ (gs_ hg HB); replace HB := ak_ (bt_ (bl_ HB) hb); clear hb hbox hg))
   (try simp only [Act.put, setIfInBounds_toArray, set_cons_zero, set_cons_succ])
   go_cut [21] (fun v21 wc => ∃ (kq : Nat) (x21_4 : Bool), v21 = .bool x21_4 ∧ Aside0 (medlarref16_From.j0 kq l0 x21_4 = some (r1, r2, r3, r4, r5, r6, r7, r8, r9, r10, r11, r12, r13, r14)) ∧ Aside0 (kq ≤ k) ∧ Aside0 (wc.heap[gb370]? = some (.cells #[.int .i64 0, .int .i64 0, .int .i64 0, (.slice none 0 0), .bool false, .bool false, .int .u64 0, .int .u64 0, .int .u64 0, .int .u64 0, .int .u64 0, .int .u64 0, .int .i64 0] 31 (0, 0))) ∧ Aside0 (Below w.heap.size w wc))
   case first =>
    have H := HC5.out
    clear HC5
    by_cases c7 : (l0.length : Int) < 47
    ·rw [if_pos c7] at H
     have c7b0 := decide_eq_true c7
     have c7b1 : decide (l0.length < 47) = true := decide_eq_true (by omega)
     clear c7
     (first | rw [c7b0] | (simp only [i64_w, i32_w]; rw [c7b0]) | skip)
     have H' := ak_ H
     clear H
     go_wp2
     go_meet
     case rel => exact ⟨_, (true), rf_, H', ⟨by first | omega | exact Nat.le_refl _⟩, ⟨kl_ BK370⟩, ⟨bw1_ HB GE370⟩⟩
    ·rw [if_neg c7] at H
     have c7b0 := decide_eq_false c7
     have c7b1 : decide (l0.length < 47) = false := decide_eq_false (by omega)
     clear c7
     (first | rw [c7b0] | (simp only [i64_w, i32_w]; rw [c7b0]) | skip)
     have H' := ak_ H
     clear H
     go_wp2
     go_meet
     case rel => exact ⟨_, (((Int.tmod (wrap64 ((l0.length : Int) - 47)) 48) != 0)), rf_, H', ⟨by first | omega | exact Nat.le_refl _⟩, ⟨kl_ BK370⟩, ⟨bw1_ HB GE370⟩⟩
   case rest =>
    clear HC5
    try clear c2
    try clear c2b0
    try clear c2b1
    try clear p2
    try clear p6
    try clear c7
    try clear c7b0
    try clear c7b1
    try clear hcz4_0 hcz4_1 hcz4_10 hcz4_11 hcz4_12 hcz4_2 hcz4_3 hcz4_4 hcz4_5 hcz4_6 hcz4_7 hcz4_8 hcz4_9
    try clear hfz4_0 hfz4_1 hfz4_10 hfz4_11 hfz4_12 hfz4_2 hfz4_3 hfz4_4 hfz4_5 hfz4_6 hfz4_7 hfz4_8 hfz4_9
    obtain ⟨kq, x21_4, rfl, HA, HJ4, BK370, HB⟩ := hcut
    cases kq with
    | zero => exact absurd HA.out (by simp [medlarref16_From.j0])
    | succ kj4 =>
     have H := HA.out
     clear HA
     simp only [medlarref16_From.j0] at H
     by_cases c8 : x21_4 = true
     ·subst c8
      have H1 : (some (0, 0, 0, ([] : List (S41)), false, false, 0, 0, 0, 0, 0, 0, 0, 2)) = some (r1, r2, r3, r4, r5, r6, r7, r8, r9, r10, r11, r12, r13, r14) := by rw [if_pos rfl] at H; exact H
      clear H
      have H := H1
      clear H1
      simp only [some.injEq, Prod.mk.injEq] at H
      obtain ⟨rfl, rfl, rfl, rfl, rfl, rfl, rfl, rfl, rfl, rfl, rfl, rfl, rfl, rfl⟩ := H
      obtain ⟨hcz9_0, hcz9_1, hcz9_2, hcz9_3, hcz9_4, hcz9_5, hcz9_6, hcz9_7, hcz9_8, hcz9_9, hcz9_10, hcz9_11, hcz9_12, hfz9_0, hfz9_1, hfz9_2, hfz9_3, hfz9_4, hfz9_5, hfz9_6, hfz9_7, hfz9_8, hfz9_9, hfz9_10, hfz9_11, hfz9_12⟩ := kc13_ BK370.out
      go_wp2
      go_wp2
      refine bodyPost_ret (results_ct rfl _ _ gb370 31 #[.int .i64 0, .int .i64 0, .int .i64 0, .slice none 0 0, .bool false, .bool false, .int .u64 0, .int .u64 0, .int .u64 0, .int .u64 0, .int .u64 0, .int .u64 0, .int .i64 0] (0, 0) _ rfl (by (with_reducible repeat (first | refine kn_ ?_ _ | refine kd_ ?_ | refine ka_ ?_ _)); exact sC_blk BK370.out rfl rfl) underlying31 rfl (by kernel_rfl)) rfl ?_
      exact ⟨_, by first | rfl | (simp <;> rfl) | (simp [*] <;> rfl), by first | exact Kd.R_nil _ _ _ _ _ | exact Kd.N_nil _ _ _ _ _ | exact Kd.V_nil _ _ _ _ _ | exact Kd.Q_nil _ _ _ _ _ | exact Kd.S_nil _ _ _ _ _, bw1_ HB GE370⟩
     ·replace c8 := Bool.eq_false_iff.mpr c8
      subst c8
      have H1 : (if 1 < (l0.length : Int) then (if 2 < (l0.length : Int) then (if 3 ≤ 11 then (if 11 ≤ (l0.length : Int) then ((medlarref16_take.f kj4 ((l0.take 11).drop 3)).bind fun t374 => (if 0 ≤ (wrap64 ((l0.length : Int) - 32)) then (if (wrap64 ((l0.length : Int) - 32)) ≤ (l0.length : Int) then ((medlarref16_sealed.f kj4 (l0.drop ((wrap64 ((l0.length : Int) - 32)) : Int).toNat)).bind fun bt376 => (medlarref16_From.l0 kj4 l0 15 (wrap64 (rd l0 1)) (wrap64 (rd l0 2)) (wrap64 (t374)) ([] : List (S41)) bt376.1 bt376.2.1 bt376.2.2.1 bt376.2.2.2.1 bt376.2.2.2.2.1 bt376.2.2.2.2.2.1 bt376.2.2.2.2.2.2.1 bt376.2.2.2.2.2.2.2.1 bt376.2.2.2.2.2.2.2.2)) else (none)) else (none))) else (none)) else (none)) else (none)) else (none)) = some (r1, r2, r3, r4, r5, r6, r7, r8, r9, r10, r11, r12, r13, r14) := by rw [if_neg (show ¬ (false = true) by decide)] at H; exact H
      clear H
      have H := H1
      clear H1
      by_cases c10 : 1 < (l0.length : Int)
      ·rw [if_pos c10] at H
       have c10b0 := decide_eq_true c10
       have c10b1 : decide (1 < l0.length) = true := decide_eq_true (by omega)
       clear c10
       by_cases c11 : 2 < (l0.length : Int)
       ·rw [if_pos c11] at H
        have c11b0 := decide_eq_true c11
        have c11b1 : decide (2 < l0.length) = true := decide_eq_true (by omega)
        clear c11
        by_cases c12 : 3 ≤ 11
        ·rw [if_pos c12] at H
         have c12b0 := eq_true c12
         have c12b1 := decide_eq_true c12
         clear c12
         by_cases c13 : 11 ≤ (l0.length : Int)
         ·rw [if_pos c13] at H
          have c13b0 := eq_true c13
          have c13b1 := decide_eq_true c13
          clear c13
          replace H := bind_eq_some_iff.mp H
          obtain ⟨t374, A140, H⟩ := H
          replace H : (if 0 ≤ (wrap64 ((l0.length : Int) - 32)) then (if (wrap64 ((l0.length : Int) - 32)) ≤ (l0.length : Int) then ((medlarref16_sealed.f kj4 (l0.drop ((wrap64 ((l0.length : Int) - 32)) : Int).toNat)).bind fun bt376 => (medlarref16_From.l0 kj4 l0 15 (wrap64 (rd l0 1)) (wrap64 (rd l0 2)) (wrap64 (t374)) ([] : List (S41)) bt376.1 bt376.2.1 bt376.2.2.1 bt376.2.2.2.1 bt376.2.2.2.2.1 bt376.2.2.2.2.2.1 bt376.2.2.2.2.2.2.1 bt376.2.2.2.2.2.2.2.1 bt376.2.2.2.2.2.2.2.2)) else (none)) else (none)) = some (r1, r2, r3, r4, r5, r6, r7, r8, r9, r10, r11, r12, r13, r14) := H
          have A14 := ak_ A140
          clear A140
          obtain ⟨ji15, hji15⟩ : ∃ j_ : Int, (wrap64 ((l0.length : Int) - 32)) = j_ := ⟨_, rfl⟩
          replace H : (if 0 ≤ (ji15) then (if (ji15) ≤ (l0.length : Int) then ((medlarref16_sealed.f kj4 (l0.drop ((ji15) : Int).toNat)).bind fun bt376 => (medlarref16_From.l0 kj4 l0 15 (wrap64 (rd l0 1)) (wrap64 (rd l0 2)) (wrap64 (t374)) ([] : List (S41)) bt376.1 bt376.2.1 bt376.2.2.1 bt376.2.2.2.1 bt376.2.2.2.2.1 bt376.2.2.2.2.2.1 bt376.2.2.2.2.2.2.1 bt376.2.2.2.2.2.2.2.1 bt376.2.2.2.2.2.2.2.2)) else (none)) else (none)) = some (r1, r2, r3, r4, r5, r6, r7, r8, r9, r10, r11, r12, r13, r14) := by first | (rw [hji15] at H; exact H) | (simp only [hji15] at H ⊢; exact H)
          (try rw [hji15] at A14)
          have hji15w : (IntKind.i64.wrap ((l0.length : Int) - 32)) = ji15 := (i64_w _).trans hji15
          by_cases c16 : 0 ≤ (ji15)
          ·rw [if_pos c16] at H
           have c16b0 := eq_true c16
           have c16b1 := decide_eq_true c16
           clear c16
           by_cases c17 : (ji15) ≤ (l0.length : Int)
           ·rw [if_pos c17] at H
            have c17b0 := eq_true c17
            have c17b1 := decide_eq_true c17
            clear c17
            replace H := bind_eq_some_iff.mp H
            obtain ⟨⟨t376, t377, t378, t379, t380, t381, t382, t383, t384⟩, A180, H⟩ := H
            replace H : (medlarref16_From.l0 kj4 l0 15 (wrap64 (rd l0 1)) (wrap64 (rd l0 2)) (wrap64 (t374)) ([] : List (S41)) t376 t377 t378 t379 t380 t381 t382 t383 t384) = some (r1, r2, r3, r4, r5, r6, r7, r8, r9, r10, r11, r12, r13, r14) := H
            have A18 := ak_ A180
            clear A180
            have H' := ak_ H
            clear H
            try go_wp2
            replace BK370 := ak_ (kd_ BK370.out)
            replace HB := ak_ (bd_ HB.out)
            have p371 : 0 ≤ (1 : Int) := (by omega)
            have q371 : 1 < (l0.length : Int) := od_ (by first | (with_reducible assumption) | assumption)
            obtain ⟨ad371, e371, hx371_0⟩ := Kd.at_int HR0.out 1 p371 q371
            have hw371_0 := hx371_0
            (try rw [show ((1 : Int)).toNat = 1 from rfl] at hw371_0)
            (try rw [show 1 * 1 = 1 from rfl] at hw371_0)
            (try simp only [Nat.reduceMul, Nat.reduceEqDiff, Go.Addr.add, ↓reduceIte] at hw371_0)
            cases e371
            (try simp only [show (1 : Int).toNat = 1 from rfl, Nat.reduceMul, Nat.reduceEqDiff, Go.Addr.add, ↓reduceIte] at hx371_0)
            have qi371 : (1 < l0.length) = True := eq_true (by omega)
            (try rw [show ((1 : Int)).toNat = 1 from rfl] at hx371_0)
            replace hx371_0 := cx_ HB hx371_0
            replace p371 := eq_true p371
            replace q371 := eq_true q371
            have p372 : 0 ≤ (2 : Int) := (by omega)
            have q372 : 2 < (l0.length : Int) := od_ (by first | (with_reducible assumption) | assumption)
            obtain ⟨ad372, e372, hx372_0⟩ := Kd.at_int HR0.out 2 p372 q372
            have hw372_0 := hx372_0
            (try rw [show ((2 : Int)).toNat = 2 from rfl] at hw372_0)
            (try rw [show 2 * 1 = 2 from rfl] at hw372_0)
            (try simp only [Nat.reduceMul, Nat.reduceEqDiff, Go.Addr.add, ↓reduceIte] at hw372_0)
            obtain rfl : ad371 = ad372 := (by injection e372)
            (try simp only [show (2 : Int).toNat = 2 from rfl, Nat.reduceMul, Nat.reduceEqDiff, Go.Addr.add, ↓reduceIte] at hx372_0)
            have qi372 : (2 < l0.length) = True := eq_true (by omega)
            (try rw [show ((2 : Int)).toNat = 2 from rfl] at hx372_0)
            replace hx372_0 := cx_ HB hx372_0
            replace p372 := eq_true p372
            replace q372 := eq_true q372
            obtain ⟨i020, hi020, _, hsz20, _⟩ := info_parts info5
            obtain ⟨A20, hcut20, hA20, hC20⟩ := print_mid_of (P := Try.prog) (Value.int .u8) 0 35 5 .i64 .i64 underlying35 hi020 hsz20 (some ad371) c0 l0 3 11 (by omega) (by first | omega | exact od_ (by first | (with_reducible assumption) | assumption)) (od_ (by first | (with_reducible assumption) | assumption)) HC0.out
            have HR373 := ak_ (Kd.C_of_reads (h1 := fun _ => rfl) (hA20 _ (Kd.reads_of_C HR0.out)))
            have HC373 := ak_ hC20
            clear hA20 hC20 hi020 hsz20
            obtain ⟨i021, hi021, _, hsz21, _⟩ := info_parts info5
            obtain ⟨A21, hcut21, hA21, hC21⟩ := print_drop_of (P := Try.prog) (Value.int .u8) 0 35 5 .i64 underlying35 hi021 hsz21 (some ad371) c0 l0 (ji15) (od_ (by first | (with_reducible assumption) | assumption)) (od_ (by first | (with_reducible assumption) | assumption)) HC0.out
            have HR375 := ak_ (Kd.C_of_reads (h1 := fun _ => rfl) (hA21 _ (Kd.reads_of_C HR0.out)))
            have HC375 := ak_ hC21
            clear hA21 hC21 hi021 hsz21
            refine start_ (n := 21) (S := fun w' => w'.cell? ⟨ad371.block, ad371.off + 1, none⟩ = some (.int .u8 (rd l0 1)) ∧ w'.cell? ⟨ad371.block, ad371.off + 2, none⟩ = some (.int .u8 (rd l0 2))) (ds := []) #[false, false, false, false, false, false, false, false, false, false, false, false, false, false, false, false, false, false, false, false, false] (by kernel_rfl) rfl rfl ⟨((HB.out.cell (World.block_lt_of_cell? w _ hw371_0)).trans hw371_0), ((HB.out.cell (World.block_lt_of_cell? w _ hw372_0)).trans hw372_0)⟩ (fun hHeld => ?_); refine with_tabW medlarref16_From.tab5 medlarref16_From.bits5 (fun HT_ HW_ => ?_)
            generalize wc.drew = w19 at BK370 HB HR373 HR375 hx371_0 hx372_0 hHeld ⊢
            refine pu_ HT_ 0 (some 23) (bA8 1 21) ?_
            refine pu_ HT_ 1 (some 24) (bA8 2 21) ?_
            refine pu_ HT_ 4 (some 27) #[true, true, false, false, true, false, false, false, false, false, false, false, false, false, false, false, false, false, false, false, false] ?_
            refine pu_ HT_ 5 (some 28) #[true, true, false, false, true, true, false, false, false, false, false, false, false, false, false, false, false, false, false, false, false] ?_
            refine pu_ HT_ 8 (some 31) #[true, true, false, false, true, true, false, false, true, false, false, false, false, false, false, false, false, false, false, false, false] ?_
            refine pu_ HT_ 9 (some 32) #[true, true, false, false, true, true, false, false, true, true, false, false, false, false, false, false, false, false, false, false, false] ?_
            refine pu_ HT_ 12 (some 35) #[true, true, false, false, true, true, false, false, true, true, false, false, true, false, false, false, false, false, false, false, false] ?_
            refine pu_ HT_ 13 (some 36) #[true, true, false, false, true, true, false, false, true, true, false, false, true, true, false, false, false, false, false, false, false] ?_
            refine pu_ HT_ 14 (some 37) #[true, true, false, false, true, true, false, false, true, true, false, false, true, true, true, false, false, false, false, false, false] ?_
            refine pu_ HT_ 15 (some 38) #[true, true, false, false, true, true, false, false, true, true, false, false, true, true, true, true, false, false, false, false, false] ?_
            refine pu_ HT_ 16 (some 39) #[true, true, false, false, true, true, false, false, true, true, false, false, true, true, true, true, true, false, false, false, false] ?_
            refine tk_ HT_ HW_ hHeld 2 (some 25) #[true, true, true, false, true, true, false, false, true, true, false, false, true, true, true, true, true, false, false, false, false] rfl (by rintro w' ⟨s0, s1⟩; go_simp; with_reducible rfl) ?_
            refine pu_ HT_ 3 (some 26) #[true, true, true, true, true, true, false, false, true, true, false, false, true, true, true, true, true, false, false, false, false] ?_
            refine tk_ HT_ HW_ hHeld 6 (some 29) #[true, true, true, true, true, true, true, false, true, true, false, false, true, true, true, true, true, false, false, false, false] rfl (by rintro w' ⟨s0, s1⟩; go_simp; with_reducible rfl) ?_
            refine pu_ HT_ 7 (some 30) #[true, true, true, true, true, true, true, true, true, true, false, false, true, true, true, true, true, false, false, false, false] ?_
            refine join_ (σ := Nat) 1 (bA8 20 21) (fun s_ => [(33, .int .u64 t374), (40, .agg #[.bool t376, .bool t377, .int .u64 t378, .int .u64 t379, .int .u64 t380, .int .u64 t381, .int .u64 t382, .int .u64 t383, .int .i64 t384]), (4, .pointer (some ⟨s_, 0, none⟩)), (34, .int .i64 (wrap64 (t374))), (41, .agg #[.int .i64 (wrap64 (rd l0 1)), .int .i64 (wrap64 (rd l0 2)), .int .i64 (wrap64 (t374)), .slice none 0 0, .bool t376, .bool t377, .int .u64 t378, .int .u64 t379, .int .u64 t380, .int .u64 t381, .int .u64 t382, .int .u64 t383, .int .i64 t384])]) (fun s_ w' => (w'.cell? ⟨ad371.block, ad371.off + 1, none⟩ = some (.int .u8 (rd l0 1)) ∧ w'.cell? ⟨ad371.block, ad371.off + 2, none⟩ = some (.int .u8 (rd l0 2))) ∧ (w'.heap[gb370]? = some (.cells #[.int .i64 0, .int .i64 0, .int .i64 0, .slice none 0 0, .bool false, .bool false, .int .u64 0, .int .u64 0, .int .u64 0, .int .u64 0, .int .u64 0, .int .u64 0, .int .i64 0] 31 (0, 0))) ∧ (w'.heap[s_]? = some (.cells #[.int .i64 0, .int .i64 0, .int .i64 0, .slice none 0 0, .bool false, .bool false, .int .u64 0, .int .u64 0, .int .u64 0, .int .u64 0, .int .u64 0, .int .u64 0, .int .i64 0] 31 (0, 0))) ∧ (w.heap.size ≤ s_) ∧ (w.heap.size ≤ s_) ∧ (gb370 ≠ s_) ∧ (s_ ≠ gb370) ∧ (Below w.heap.size w w')) ?_ ?_
            rotate_left
            ·intro hCont
             refine two_ (i := 10) (j := 19) (Ni := some 33) (Nj := some 4) #[true, true, true, true, true, true, true, true, true, true, true, false, true, true, true, true, true, false, false, false, false] #[true, true, true, true, true, true, true, true, true, true, false, false, true, true, true, true, true, false, false, true, false] rfl rfl rfl rfl (two_of HT_.out (by kernel_rfl)) (by decide) (by decide) (fun K hK => ?_) (fun K hK => ?_)
             ·skip
              refine goes_ func58 (by kernel_rfl) rfl #[.slice A20 ((l0.take 11).drop 3).length (c0 - 3)] (by rfl) rfl rfl (by (try simp only [map_toArray, map_cons, map_nil]); first | done | (rw [show ((l0.take 11).drop 3).length = (11 - 3) from (by rw [List.length_drop, List.length_take]; have h_ : (11 : Int) ≤ (l0.length : Int) := od_ (by first | (with_reducible assumption) | assumption); omega)] <;> rfl) | rfl | (simp only [length_drop, length_take]; rfl)) ?_
              with_reducible refine (medlarref16_take.calls kj4 _ _ ((l0.take 11).drop 3) t374 _ ?side1 ?side2 A14.out).mono ?_
              (case side1 => repeat (first | exact (Kd.C_below HR373.out HB.out) | (with_reducible refine Kd.C_alloc ?_ _) | (with_reducible refine Kd.C_drewN ?_ _) | (with_reducible refine Kd.C_drew ?_)))
              (case side2 => exact HC373.out)
              rintro e w' ⟨rfl, ⟨nd, rfl⟩⟩
              refine ⟨_, rfl, ?_⟩
              refine hK.out _ _ ⟨((HB.out.cell (World.block_lt_of_cell? w _ hw371_0)).trans hw371_0), ((HB.out.cell (World.block_lt_of_cell? w _ hw372_0)).trans hw372_0)⟩ (fun hHeld => ?_)
              clear hK K
              refine norm_ (a' := ?_) ?_ ?_
              rotate_left
              ·show Act.put _ (some 33) _ = _
               simp only [Act.put, setIfInBounds_toArray, set_cons_zero, set_cons_succ, i64_w, i32_w]
               rfl
              refine pu_ HT_ 11 (some 34) (bA8 17 21) ?_
              refine two_ (i := 17) (j := 19) (Ni := some 40) (Nj := some 4) (bA8 18 21) #[true, true, true, true, true, true, true, true, true, true, true, true, true, true, true, true, true, false, false, true, false] rfl rfl rfl rfl (two_of HT_.out (by kernel_rfl)) (by decide) (by decide) (fun K hK => ?_) (fun K hK => ?_)
              ·skip
               refine goes_ func59 (by kernel_rfl) rfl #[.slice A21 (l0.drop ((ji15) : Int).toNat).length (c0 - (ji15).toNat)] (by rfl) rfl rfl (by (try simp only [map_toArray, map_cons, map_nil]); first | done | (rw [show (l0.drop ((ji15) : Int).toNat).length = (l0.length - (ji15).toNat) from List.length_drop] <;> rfl) | (simp only [hji15]; rfl) | rfl | (simp only [length_drop, length_take]; rfl)) ?_
               with_reducible refine (medlarref16_sealed.calls kj4 _ _ (l0.drop ((ji15) : Int).toNat) t376 t377 t378 t379 t380 t381 t382 t383 t384 _ ?side1 ?side2 A18.out).mono ?_
               (case side1 => repeat (first | exact (Kd.C_below HR375.out (bw1_ HB GE370)) | (with_reducible refine Kd.C_alloc ?_ _) | (with_reducible refine Kd.C_drewN ?_ _) | (with_reducible refine Kd.C_drew ?_)))
               (case side2 => exact HC375.out)
               rintro e w22 ⟨rfl, hb⟩
               refine ⟨_, rfl, ?_⟩
               replace BK370 := ak_ (kb_ (kl_ BK370) hb)
               replace HB := ak_ (bt_ (bw1_ HB GE370) hb)
               (try clear hb)
               (try clear hb2)
               (try clear hk)
               (try clear hi)
               refine hK.out _ _ ⟨((HB.out.cell (World.block_lt_of_cell? w _ hw371_0)).trans hw371_0), ((HB.out.cell (World.block_lt_of_cell? w _ hw372_0)).trans hw372_0)⟩ (fun hHeld => ?_)
               clear hK K
               refine norm_ (a' := ?_) ?_ ?_
               rotate_left
               ·show Act.put _ (some 40) _ = _
                simp only [Act.put, setIfInBounds_toArray, set_cons_zero, set_cons_succ, i64_w, i32_w]
                rfl
               refine pu_ HT_ 18 (some 41) (bA8 19 21) ?_
               refine one_ (i := 19) (N := some 4) (bA8 20 21) rfl rfl (one_of HT_.out (by kernel_rfl)) (by decide) (fun K hK => ?_)
               refine box_step ?hg (N := 4) ?hd (cs := #[.int .i64 0, .int .i64 0, .int .i64 0, .slice none 0 0, .bool false, .bool false, .int .u64 0, .int .u64 0, .int .u64 0, .int .u64 0, .int .u64 0, .int .u64 0, .int .i64 0]) (t := 31) ?hr ?_; (case hd => rfl); (case hg => rfl); (case hr => first | (go_simp; done) | (go_simp; rfl))
               intro gb385 hg w23 hbox hb
               have BK385 := ak_ hbox
               have GW385 := ak_ (gw1_ HB GE370 hg)
               have GE385 := ak_ (gw1_ HB GE370 hg)
               replace HB := ak_ (bt_ (bw1_ HB GE370) hb)
               have NB370_385 := ak_ (nl_ hg BK370)
               have NB385_370 := ak_ (nr_ hg BK370)
               replace BK370 := ak_ (kb_ (kl_ BK370) hb)
               clear hb hbox hg
               refine hK.out _ _ ⟨((HB.out.cell (World.block_lt_of_cell? w _ hw371_0)).trans hw371_0), ((HB.out.cell (World.block_lt_of_cell? w _ hw372_0)).trans hw372_0)⟩ (fun hHeld => ?_)
               clear hK K
               refine norm_ (a' := ?_) ?_ ?_
               rotate_left
               ·show Act.put _ (some 4) _ = _
                simp only [Act.put, setIfInBounds_toArray, set_cons_zero, set_cons_succ, i64_w, i32_w]
                rfl
               exact norm_ (by simp only [putAll, Act.put, setIfInBounds_toArray, set_cons_zero, set_cons_succ]) (hCont (gb385) _ ⟨hHeld, (kl_ BK370), (kl_ BK385), GW385.out, GE385.out, NB370_385.out, NB385_370.out, (bw2_ HB GE370 GE385)⟩)
              ·skip
               refine box_step ?hg (N := 4) ?hd (cs := #[.int .i64 0, .int .i64 0, .int .i64 0, .slice none 0 0, .bool false, .bool false, .int .u64 0, .int .u64 0, .int .u64 0, .int .u64 0, .int .u64 0, .int .u64 0, .int .i64 0]) (t := 31) ?hr ?_; (case hd => rfl); (case hg => rfl); (case hr => first | (go_simp; done) | (go_simp; rfl))
               intro gb385 hg w22 hbox hb
               have BK385 := ak_ hbox
               have GW385 := ak_ (gw1_ HB GE370 hg)
               have GE385 := ak_ (gw1_ HB GE370 hg)
               replace HB := ak_ (bt_ (bw1_ HB GE370) hb)
               have NB370_385 := ak_ (nl_ hg BK370)
               have NB385_370 := ak_ (nr_ hg BK370)
               replace BK370 := ak_ (kb_ (kl_ BK370) hb)
               clear hb hbox hg
               refine hK.out _ _ ⟨((HB.out.cell (World.block_lt_of_cell? w _ hw371_0)).trans hw371_0), ((HB.out.cell (World.block_lt_of_cell? w _ hw372_0)).trans hw372_0)⟩ (fun hHeld => ?_)
               clear hK K
               refine norm_ (a' := ?_) ?_ ?_
               rotate_left
               ·show Act.put _ (some 4) _ = _
                simp only [Act.put, setIfInBounds_toArray, set_cons_zero, set_cons_succ, i64_w, i32_w]
                rfl
               refine one_ (i := 17) (N := some 40) #[true, true, true, true, true, true, true, true, true, true, true, true, true, true, true, true, true, true, false, true, false] rfl rfl (one_of HT_.out (by kernel_rfl)) (by decide) (fun K hK => ?_)
               refine goes_ func59 (by kernel_rfl) rfl #[.slice A21 (l0.drop ((ji15) : Int).toNat).length (c0 - (ji15).toNat)] (by rfl) rfl rfl (by (try simp only [map_toArray, map_cons, map_nil]); first | done | (rw [show (l0.drop ((ji15) : Int).toNat).length = (l0.length - (ji15).toNat) from List.length_drop] <;> rfl) | (simp only [hji15]; rfl) | rfl | (simp only [length_drop, length_take]; rfl)) ?_
               with_reducible refine (medlarref16_sealed.calls kj4 _ _ (l0.drop ((ji15) : Int).toNat) t376 t377 t378 t379 t380 t381 t382 t383 t384 _ ?side1 ?side2 A18.out).mono ?_
               (case side1 => repeat (first | exact (Kd.C_below HR375.out HB.out) | (with_reducible refine Kd.C_alloc ?_ _) | (with_reducible refine Kd.C_drewN ?_ _) | (with_reducible refine Kd.C_drew ?_)))
               (case side2 => exact HC375.out)
               rintro e w23 ⟨rfl, hb⟩
               refine ⟨_, rfl, ?_⟩
               replace BK370 := ak_ (kb_ (kl_ BK370) hb)
               replace BK385 := ak_ (kb_ (kl_ BK385) hb)
               replace HB := ak_ (bt_ (bw2_ HB GE370 GE385) hb)
               (try clear hb)
               (try clear hb2)
               (try clear hk)
               (try clear hi)
               refine hK.out _ _ ⟨((HB.out.cell (World.block_lt_of_cell? w _ hw371_0)).trans hw371_0), ((HB.out.cell (World.block_lt_of_cell? w _ hw372_0)).trans hw372_0)⟩ (fun hHeld => ?_)
               clear hK K
               refine norm_ (a' := ?_) ?_ ?_
               rotate_left
               ·show Act.put _ (some 40) _ = _
                simp only [Act.put, setIfInBounds_toArray, set_cons_zero, set_cons_succ, i64_w, i32_w]
                rfl
               refine pu_ HT_ 18 (some 41) (bA8 20 21) ?_
               exact norm_ (by simp only [putAll, Act.put, setIfInBounds_toArray, set_cons_zero, set_cons_succ]) (hCont (gb385) _ ⟨hHeld, (kl_ BK370), (kl_ BK385), GW385.out, GE385.out, NB370_385.out, NB385_370.out, (bw2_ HB GE370 GE385)⟩)
             ·skip
              refine box_step ?hg (N := 4) ?hd (cs := #[.int .i64 0, .int .i64 0, .int .i64 0, .slice none 0 0, .bool false, .bool false, .int .u64 0, .int .u64 0, .int .u64 0, .int .u64 0, .int .u64 0, .int .u64 0, .int .i64 0]) (t := 31) ?hr ?_; (case hd => rfl); (case hg => rfl); (case hr => first | (go_simp; done) | (go_simp; rfl))
              intro gb385 hg w22 hbox hb
              have BK385 := ak_ hbox
              have GW385 := ak_ (gw1_ HB GE370 hg)
              have GE385 := ak_ (gw1_ HB GE370 hg)
              replace HB := ak_ (bt_ (bw1_ HB GE370) hb)
              have NB370_385 := ak_ (nl_ hg BK370)
              have NB385_370 := ak_ (nr_ hg BK370)
              replace BK370 := ak_ (kb_ (kl_ BK370) hb)
              clear hb hbox hg
              refine hK.out _ _ ⟨((HB.out.cell (World.block_lt_of_cell? w _ hw371_0)).trans hw371_0), ((HB.out.cell (World.block_lt_of_cell? w _ hw372_0)).trans hw372_0)⟩ (fun hHeld => ?_)
              clear hK K
              refine norm_ (a' := ?_) ?_ ?_
              rotate_left
              ·show Act.put _ (some 4) _ = _
               simp only [Act.put, setIfInBounds_toArray, set_cons_zero, set_cons_succ, i64_w, i32_w]
               rfl
              refine one_ (i := 10) (N := some 33) #[true, true, true, true, true, true, true, true, true, true, true, false, true, true, true, true, true, false, false, true, false] rfl rfl (one_of HT_.out (by kernel_rfl)) (by decide) (fun K hK => ?_)
              refine goes_ func58 (by kernel_rfl) rfl #[.slice A20 ((l0.take 11).drop 3).length (c0 - 3)] (by rfl) rfl rfl (by (try simp only [map_toArray, map_cons, map_nil]); first | done | (rw [show ((l0.take 11).drop 3).length = (11 - 3) from (by rw [List.length_drop, List.length_take]; have h_ : (11 : Int) ≤ (l0.length : Int) := od_ (by first | (with_reducible assumption) | assumption); omega)] <;> rfl) | rfl | (simp only [length_drop, length_take]; rfl)) ?_
              with_reducible refine (medlarref16_take.calls kj4 _ _ ((l0.take 11).drop 3) t374 _ ?side1 ?side2 A14.out).mono ?_
              (case side1 => repeat (first | exact (Kd.C_below HR373.out HB.out) | (with_reducible refine Kd.C_alloc ?_ _) | (with_reducible refine Kd.C_drewN ?_ _) | (with_reducible refine Kd.C_drew ?_)))
              (case side2 => exact HC373.out)
              rintro e w' ⟨rfl, ⟨nd, rfl⟩⟩
              refine ⟨_, rfl, ?_⟩
              refine hK.out _ _ ⟨((HB.out.cell (World.block_lt_of_cell? w _ hw371_0)).trans hw371_0), ((HB.out.cell (World.block_lt_of_cell? w _ hw372_0)).trans hw372_0)⟩ (fun hHeld => ?_)
              clear hK K
              refine norm_ (a' := ?_) ?_ ?_
              rotate_left
              ·show Act.put _ (some 33) _ = _
               simp only [Act.put, setIfInBounds_toArray, set_cons_zero, set_cons_succ, i64_w, i32_w]
               rfl
              refine pu_ HT_ 11 (some 34) #[true, true, true, true, true, true, true, true, true, true, true, true, true, true, true, true, true, false, false, true, false] ?_
              refine one_ (i := 17) (N := some 40) #[true, true, true, true, true, true, true, true, true, true, true, true, true, true, true, true, true, true, false, true, false] rfl rfl (one_of HT_.out (by kernel_rfl)) (by decide) (fun K hK => ?_)
              refine goes_ func59 (by kernel_rfl) rfl #[.slice A21 (l0.drop ((ji15) : Int).toNat).length (c0 - (ji15).toNat)] (by rfl) rfl rfl (by (try simp only [map_toArray, map_cons, map_nil]); first | done | (rw [show (l0.drop ((ji15) : Int).toNat).length = (l0.length - (ji15).toNat) from List.length_drop] <;> rfl) | (simp only [hji15]; rfl) | rfl | (simp only [length_drop, length_take]; rfl)) ?_
              with_reducible refine (medlarref16_sealed.calls kj4 _ _ (l0.drop ((ji15) : Int).toNat) t376 t377 t378 t379 t380 t381 t382 t383 t384 _ ?side1 ?side2 A18.out).mono ?_
              (case side1 => repeat (first | exact (Kd.C_below HR375.out (bw2_ HB GE370 GE385)) | (with_reducible refine Kd.C_alloc ?_ _) | (with_reducible refine Kd.C_drewN ?_ _) | (with_reducible refine Kd.C_drew ?_)))
              (case side2 => exact HC375.out)
              rintro e w23 ⟨rfl, hb⟩
              refine ⟨_, rfl, ?_⟩
              replace BK370 := ak_ (kb_ (kl_ BK370) hb)
              replace BK385 := ak_ (kb_ (kl_ BK385) hb)
              replace HB := ak_ (bt_ (bw2_ HB GE370 GE385) hb)
              (try clear hb)
              (try clear hb2)
              (try clear hk)
              (try clear hi)
              refine hK.out _ _ ⟨((HB.out.cell (World.block_lt_of_cell? w _ hw371_0)).trans hw371_0), ((HB.out.cell (World.block_lt_of_cell? w _ hw372_0)).trans hw372_0)⟩ (fun hHeld => ?_)
              clear hK K
              refine norm_ (a' := ?_) ?_ ?_
              rotate_left
              ·show Act.put _ (some 40) _ = _
               simp only [Act.put, setIfInBounds_toArray, set_cons_zero, set_cons_succ, i64_w, i32_w]
               rfl
              refine pu_ HT_ 18 (some 41) (bA8 20 21) ?_
              exact norm_ (by simp only [putAll, Act.put, setIfInBounds_toArray, set_cons_zero, set_cons_succ]) (hCont (gb385) _ ⟨hHeld, (kl_ BK370), (kl_ BK385), GW385.out, GE385.out, NB370_385.out, NB385_370.out, (bw2_ HB GE370 GE385)⟩)
            rintro gb385 w24 ⟨hS_, h0_, h1_, h2_, h3_, h4_, h5_, h6_⟩
            have n0_ : Aside0 (w24.heap[gb370]? = some (.cells #[.int .i64 0, .int .i64 0, .int .i64 0, .slice none 0 0, .bool false, .bool false, .int .u64 0, .int .u64 0, .int .u64 0, .int .u64 0, .int .u64 0, .int .u64 0, .int .i64 0] 31 (0, 0))) := ⟨h0_⟩
            have n1_ : Aside0 (w24.heap[gb385]? = some (.cells #[.int .i64 0, .int .i64 0, .int .i64 0, .slice none 0 0, .bool false, .bool false, .int .u64 0, .int .u64 0, .int .u64 0, .int .u64 0, .int .u64 0, .int .u64 0, .int .i64 0] 31 (0, 0))) := ⟨h1_⟩
            have n2_ : Aside0 (w.heap.size ≤ gb385) := ⟨h2_⟩
            have n3_ : Aside0 (w.heap.size ≤ gb385) := ⟨h3_⟩
            have n4_ : Aside0 (gb370 ≠ gb385) := ⟨h4_⟩
            have n5_ : Aside0 (gb385 ≠ gb370) := ⟨h5_⟩
            have n6_ : Aside0 (Below w.heap.size w w24) := ⟨h6_⟩
            clear BK370
            clear HB
            clear h0_ h1_ h2_ h3_ h4_ h5_ h6_
            have BK370 := n0_
            have BK385 := n1_
            have GW385 := n2_
            have GE385 := n3_
            have NB370_385 := n4_
            have NB385_370 := n5_
            have HB := n6_
            clear n0_ n1_ n2_ n3_ n4_ n5_ n6_
            have hHeld : w24.cell? ⟨ad371.block, ad371.off + 1, none⟩ = some (.int .u8 (rd l0 1)) ∧ w24.cell? ⟨ad371.block, ad371.off + 2, none⟩ = some (.int .u8 (rd l0 2)) := hS_
            refine norm_ (a' := ?_) ?_ ?_
            rotate_left
            ·simp only [putAll, Act.put, setIfInBounds_toArray, set_cons_zero, set_cons_succ]
             rfl
            refine one_ (i := 20) (N := none) (bA8 21 21) rfl rfl (one_of HT_.out (by kernel_rfl)) (by decide) (fun K hK => ?_)
            have hs25 : w24.cell? ⟨gb385, 0, none⟩ = some (.int .i64 0) := (kc_ BK385.out 0).trans rfl
            have hfs25 := kf_ BK385.out 0
            have hns25_0 := NB370_385.out
            have hms25_0 := NB385_370.out
            have hs26 : w24.cell? ⟨gb385, 1, none⟩ = some (.int .i64 0) := (kc_ BK385.out 1).trans rfl
            have hfs26 := kf_ BK385.out 1
            have hns26_0 := NB370_385.out
            have hms26_0 := NB385_370.out
            have hs27 : w24.cell? ⟨gb385, 2, none⟩ = some (.int .i64 0) := (kc_ BK385.out 2).trans rfl
            have hfs27 := kf_ BK385.out 2
            have hns27_0 := NB370_385.out
            have hms27_0 := NB385_370.out
            have hs28 : w24.cell? ⟨gb385, 3, none⟩ = some (.slice none 0 0) := (kc_ BK385.out 3).trans rfl
            have hfs28 := kf_ BK385.out 3
            have hns28_0 := NB370_385.out
            have hms28_0 := NB385_370.out
            have hs29 : w24.cell? ⟨gb385, 4, none⟩ = some (.bool false) := (kc_ BK385.out 4).trans rfl
            have hfs29 := kf_ BK385.out 4
            have hns29_0 := NB370_385.out
            have hms29_0 := NB385_370.out
            have hs30 : w24.cell? ⟨gb385, 5, none⟩ = some (.bool false) := (kc_ BK385.out 5).trans rfl
            have hfs30 := kf_ BK385.out 5
            have hns30_0 := NB370_385.out
            have hms30_0 := NB385_370.out
            have hs31 : w24.cell? ⟨gb385, 6, none⟩ = some (.int .u64 0) := (kc_ BK385.out 6).trans rfl
            have hfs31 := kf_ BK385.out 6
            have hns31_0 := NB370_385.out
            have hms31_0 := NB385_370.out
            have hs32 : w24.cell? ⟨gb385, 7, none⟩ = some (.int .u64 0) := (kc_ BK385.out 7).trans rfl
            have hfs32 := kf_ BK385.out 7
            have hns32_0 := NB370_385.out
            have hms32_0 := NB385_370.out
            have hs33 : w24.cell? ⟨gb385, 8, none⟩ = some (.int .u64 0) := (kc_ BK385.out 8).trans rfl
            have hfs33 := kf_ BK385.out 8
            have hns33_0 := NB370_385.out
            have hms33_0 := NB385_370.out
            have hs34 : w24.cell? ⟨gb385, 9, none⟩ = some (.int .u64 0) := (kc_ BK385.out 9).trans rfl
            have hfs34 := kf_ BK385.out 9
            have hns34_0 := NB370_385.out
            have hms34_0 := NB385_370.out
            have hs35 : w24.cell? ⟨gb385, 10, none⟩ = some (.int .u64 0) := (kc_ BK385.out 10).trans rfl
            have hfs35 := kf_ BK385.out 10
            have hns35_0 := NB370_385.out
            have hms35_0 := NB385_370.out
            have hs36 : w24.cell? ⟨gb385, 11, none⟩ = some (.int .u64 0) := (kc_ BK385.out 11).trans rfl
            have hfs36 := kf_ BK385.out 11
            have hns36_0 := NB370_385.out
            have hms36_0 := NB385_370.out
            have hs37 : w24.cell? ⟨gb385, 12, none⟩ = some (.int .i64 0) := (kc_ BK385.out 12).trans rfl
            have hfs37 := kf_ BK385.out 12
            have hns37_0 := NB370_385.out
            have hms37_0 := NB385_370.out
            refine skip_ (w1 := ?_) (by rfl) rfl ?_ ?_
            rotate_left
            ·go_simp
             rfl
            refine hK.out _ _ ⟨((cell_far (p := ⟨gb385, _, none⟩) (by first | exact Nat.ne_of_lt (Nat.lt_of_lt_of_le (by have := World.block_lt_of_cell? _ _ hw371_0; first | rwa [add_block] at this | exact this) GW385.out) | (rw [add_block]; exact Nat.ne_of_lt (Nat.lt_of_lt_of_le (by have := World.block_lt_of_cell? _ _ hw371_0; first | rwa [add_block] at this | exact this) GW385.out)) | (show (Addr.add _ _).block ≠ _; rw [add_block]; exact Nat.ne_of_lt (Nat.lt_of_lt_of_le (by have := World.block_lt_of_cell? _ _ hw371_0; first | rwa [add_block] at this | exact this) GW385.out)) | (dsimp only; exact Nat.ne_of_lt (Nat.lt_of_lt_of_le (by have := World.block_lt_of_cell? _ _ hw371_0; first | rwa [add_block] at this | exact this) GW385.out))) _).trans (((cell_far (p := ⟨gb385, _, none⟩) (by first | exact Nat.ne_of_lt (Nat.lt_of_lt_of_le (by have := World.block_lt_of_cell? _ _ hw371_0; first | rwa [add_block] at this | exact this) GW385.out) | (rw [add_block]; exact Nat.ne_of_lt (Nat.lt_of_lt_of_le (by have := World.block_lt_of_cell? _ _ hw371_0; first | rwa [add_block] at this | exact this) GW385.out)) | (show (Addr.add _ _).block ≠ _; rw [add_block]; exact Nat.ne_of_lt (Nat.lt_of_lt_of_le (by have := World.block_lt_of_cell? _ _ hw371_0; first | rwa [add_block] at this | exact this) GW385.out)) | (dsimp only; exact Nat.ne_of_lt (Nat.lt_of_lt_of_le (by have := World.block_lt_of_cell? _ _ hw371_0; first | rwa [add_block] at this | exact this) GW385.out))) _).trans (((cell_far (p := ⟨gb385, _, none⟩) (by first | exact Nat.ne_of_lt (Nat.lt_of_lt_of_le (by have := World.block_lt_of_cell? _ _ hw371_0; first | rwa [add_block] at this | exact this) GW385.out) | (rw [add_block]; exact Nat.ne_of_lt (Nat.lt_of_lt_of_le (by have := World.block_lt_of_cell? _ _ hw371_0; first | rwa [add_block] at this | exact this) GW385.out)) | (show (Addr.add _ _).block ≠ _; rw [add_block]; exact Nat.ne_of_lt (Nat.lt_of_lt_of_le (by have := World.block_lt_of_cell? _ _ hw371_0; first | rwa [add_block] at this | exact this) GW385.out)) | (dsimp only; exact Nat.ne_of_lt (Nat.lt_of_lt_of_le (by have := World.block_lt_of_cell? _ _ hw371_0; first | rwa [add_block] at this | exact this) GW385.out))) _).trans (((cell_far (p := ⟨gb385, _, none⟩) (by first | exact Nat.ne_of_lt (Nat.lt_of_lt_of_le (by have := World.block_lt_of_cell? _ _ hw371_0; first | rwa [add_block] at this | exact this) GW385.out) | (rw [add_block]; exact Nat.ne_of_lt (Nat.lt_of_lt_of_le (by have := World.block_lt_of_cell? _ _ hw371_0; first | rwa [add_block] at this | exact this) GW385.out)) | (show (Addr.add _ _).block ≠ _; rw [add_block]; exact Nat.ne_of_lt (Nat.lt_of_lt_of_le (by have := World.block_lt_of_cell? _ _ hw371_0; first | rwa [add_block] at this | exact this) GW385.out)) | (dsimp only; exact Nat.ne_of_lt (Nat.lt_of_lt_of_le (by have := World.block_lt_of_cell? _ _ hw371_0; first | rwa [add_block] at this | exact this) GW385.out))) _).trans (((cell_far (p := ⟨gb385, _, none⟩) (by first | exact Nat.ne_of_lt (Nat.lt_of_lt_of_le (by have := World.block_lt_of_cell? _ _ hw371_0; first | rwa [add_block] at this | exact this) GW385.out) | (rw [add_block]; exact Nat.ne_of_lt (Nat.lt_of_lt_of_le (by have := World.block_lt_of_cell? _ _ hw371_0; first | rwa [add_block] at this | exact this) GW385.out)) | (show (Addr.add _ _).block ≠ _; rw [add_block]; exact Nat.ne_of_lt (Nat.lt_of_lt_of_le (by have := World.block_lt_of_cell? _ _ hw371_0; first | rwa [add_block] at this | exact this) GW385.out)) | (dsimp only; exact Nat.ne_of_lt (Nat.lt_of_lt_of_le (by have := World.block_lt_of_cell? _ _ hw371_0; first | rwa [add_block] at this | exact this) GW385.out))) _).trans (((cell_far (p := ⟨gb385, _, none⟩) (by first | exact Nat.ne_of_lt (Nat.lt_of_lt_of_le (by have := World.block_lt_of_cell? _ _ hw371_0; first | rwa [add_block] at this | exact this) GW385.out) | (rw [add_block]; exact Nat.ne_of_lt (Nat.lt_of_lt_of_le (by have := World.block_lt_of_cell? _ _ hw371_0; first | rwa [add_block] at this | exact this) GW385.out)) | (show (Addr.add _ _).block ≠ _; rw [add_block]; exact Nat.ne_of_lt (Nat.lt_of_lt_of_le (by have := World.block_lt_of_cell? _ _ hw371_0; first | rwa [add_block] at this | exact this) GW385.out)) | (dsimp only; exact Nat.ne_of_lt (Nat.lt_of_lt_of_le (by have := World.block_lt_of_cell? _ _ hw371_0; first | rwa [add_block] at this | exact this) GW385.out))) _).trans (((cell_far (p := ⟨gb385, _, none⟩) (by first | exact Nat.ne_of_lt (Nat.lt_of_lt_of_le (by have := World.block_lt_of_cell? _ _ hw371_0; first | rwa [add_block] at this | exact this) GW385.out) | (rw [add_block]; exact Nat.ne_of_lt (Nat.lt_of_lt_of_le (by have := World.block_lt_of_cell? _ _ hw371_0; first | rwa [add_block] at this | exact this) GW385.out)) | (show (Addr.add _ _).block ≠ _; rw [add_block]; exact Nat.ne_of_lt (Nat.lt_of_lt_of_le (by have := World.block_lt_of_cell? _ _ hw371_0; first | rwa [add_block] at this | exact this) GW385.out)) | (dsimp only; exact Nat.ne_of_lt (Nat.lt_of_lt_of_le (by have := World.block_lt_of_cell? _ _ hw371_0; first | rwa [add_block] at this | exact this) GW385.out))) _).trans (((cell_far (p := ⟨gb385, _, none⟩) (by first | exact Nat.ne_of_lt (Nat.lt_of_lt_of_le (by have := World.block_lt_of_cell? _ _ hw371_0; first | rwa [add_block] at this | exact this) GW385.out) | (rw [add_block]; exact Nat.ne_of_lt (Nat.lt_of_lt_of_le (by have := World.block_lt_of_cell? _ _ hw371_0; first | rwa [add_block] at this | exact this) GW385.out)) | (show (Addr.add _ _).block ≠ _; rw [add_block]; exact Nat.ne_of_lt (Nat.lt_of_lt_of_le (by have := World.block_lt_of_cell? _ _ hw371_0; first | rwa [add_block] at this | exact this) GW385.out)) | (dsimp only; exact Nat.ne_of_lt (Nat.lt_of_lt_of_le (by have := World.block_lt_of_cell? _ _ hw371_0; first | rwa [add_block] at this | exact this) GW385.out))) _).trans (((cell_far (p := ⟨gb385, _, none⟩) (by first | exact Nat.ne_of_lt (Nat.lt_of_lt_of_le (by have := World.block_lt_of_cell? _ _ hw371_0; first | rwa [add_block] at this | exact this) GW385.out) | (rw [add_block]; exact Nat.ne_of_lt (Nat.lt_of_lt_of_le (by have := World.block_lt_of_cell? _ _ hw371_0; first | rwa [add_block] at this | exact this) GW385.out)) | (show (Addr.add _ _).block ≠ _; rw [add_block]; exact Nat.ne_of_lt (Nat.lt_of_lt_of_le (by have := World.block_lt_of_cell? _ _ hw371_0; first | rwa [add_block] at this | exact this) GW385.out)) | (dsimp only; exact Nat.ne_of_lt (Nat.lt_of_lt_of_le (by have := World.block_lt_of_cell? _ _ hw371_0; first | rwa [add_block] at this | exact this) GW385.out))) _).trans (((cell_far (p := ⟨gb385, _, none⟩) (by first | exact Nat.ne_of_lt (Nat.lt_of_lt_of_le (by have := World.block_lt_of_cell? _ _ hw371_0; first | rwa [add_block] at this | exact this) GW385.out) | (rw [add_block]; exact Nat.ne_of_lt (Nat.lt_of_lt_of_le (by have := World.block_lt_of_cell? _ _ hw371_0; first | rwa [add_block] at this | exact this) GW385.out)) | (show (Addr.add _ _).block ≠ _; rw [add_block]; exact Nat.ne_of_lt (Nat.lt_of_lt_of_le (by have := World.block_lt_of_cell? _ _ hw371_0; first | rwa [add_block] at this | exact this) GW385.out)) | (dsimp only; exact Nat.ne_of_lt (Nat.lt_of_lt_of_le (by have := World.block_lt_of_cell? _ _ hw371_0; first | rwa [add_block] at this | exact this) GW385.out))) _).trans (((cell_far (p := ⟨gb385, _, none⟩) (by first | exact Nat.ne_of_lt (Nat.lt_of_lt_of_le (by have := World.block_lt_of_cell? _ _ hw371_0; first | rwa [add_block] at this | exact this) GW385.out) | (rw [add_block]; exact Nat.ne_of_lt (Nat.lt_of_lt_of_le (by have := World.block_lt_of_cell? _ _ hw371_0; first | rwa [add_block] at this | exact this) GW385.out)) | (show (Addr.add _ _).block ≠ _; rw [add_block]; exact Nat.ne_of_lt (Nat.lt_of_lt_of_le (by have := World.block_lt_of_cell? _ _ hw371_0; first | rwa [add_block] at this | exact this) GW385.out)) | (dsimp only; exact Nat.ne_of_lt (Nat.lt_of_lt_of_le (by have := World.block_lt_of_cell? _ _ hw371_0; first | rwa [add_block] at this | exact this) GW385.out))) _).trans (((cell_far (p := ⟨gb385, _, none⟩) (by first | exact Nat.ne_of_lt (Nat.lt_of_lt_of_le (by have := World.block_lt_of_cell? _ _ hw371_0; first | rwa [add_block] at this | exact this) GW385.out) | (rw [add_block]; exact Nat.ne_of_lt (Nat.lt_of_lt_of_le (by have := World.block_lt_of_cell? _ _ hw371_0; first | rwa [add_block] at this | exact this) GW385.out)) | (show (Addr.add _ _).block ≠ _; rw [add_block]; exact Nat.ne_of_lt (Nat.lt_of_lt_of_le (by have := World.block_lt_of_cell? _ _ hw371_0; first | rwa [add_block] at this | exact this) GW385.out)) | (dsimp only; exact Nat.ne_of_lt (Nat.lt_of_lt_of_le (by have := World.block_lt_of_cell? _ _ hw371_0; first | rwa [add_block] at this | exact this) GW385.out))) _).trans (((cell_far (p := ⟨gb385, _, none⟩) (by first | exact Nat.ne_of_lt (Nat.lt_of_lt_of_le (by have := World.block_lt_of_cell? _ _ hw371_0; first | rwa [add_block] at this | exact this) GW385.out) | (rw [add_block]; exact Nat.ne_of_lt (Nat.lt_of_lt_of_le (by have := World.block_lt_of_cell? _ _ hw371_0; first | rwa [add_block] at this | exact this) GW385.out)) | (show (Addr.add _ _).block ≠ _; rw [add_block]; exact Nat.ne_of_lt (Nat.lt_of_lt_of_le (by have := World.block_lt_of_cell? _ _ hw371_0; first | rwa [add_block] at this | exact this) GW385.out)) | (dsimp only; exact Nat.ne_of_lt (Nat.lt_of_lt_of_le (by have := World.block_lt_of_cell? _ _ hw371_0; first | rwa [add_block] at this | exact this) GW385.out))) _).trans (hHeld.1)))))))))))))))))))))))))), ((cell_far (p := ⟨gb385, _, none⟩) (by first | exact Nat.ne_of_lt (Nat.lt_of_lt_of_le (by have := World.block_lt_of_cell? _ _ hw372_0; first | rwa [add_block] at this | exact this) GW385.out) | (rw [add_block]; exact Nat.ne_of_lt (Nat.lt_of_lt_of_le (by have := World.block_lt_of_cell? _ _ hw372_0; first | rwa [add_block] at this | exact this) GW385.out)) | (show (Addr.add _ _).block ≠ _; rw [add_block]; exact Nat.ne_of_lt (Nat.lt_of_lt_of_le (by have := World.block_lt_of_cell? _ _ hw372_0; first | rwa [add_block] at this | exact this) GW385.out)) | (dsimp only; exact Nat.ne_of_lt (Nat.lt_of_lt_of_le (by have := World.block_lt_of_cell? _ _ hw372_0; first | rwa [add_block] at this | exact this) GW385.out))) _).trans (((cell_far (p := ⟨gb385, _, none⟩) (by first | exact Nat.ne_of_lt (Nat.lt_of_lt_of_le (by have := World.block_lt_of_cell? _ _ hw372_0; first | rwa [add_block] at this | exact this) GW385.out) | (rw [add_block]; exact Nat.ne_of_lt (Nat.lt_of_lt_of_le (by have := World.block_lt_of_cell? _ _ hw372_0; first | rwa [add_block] at this | exact this) GW385.out)) | (show (Addr.add _ _).block ≠ _; rw [add_block]; exact Nat.ne_of_lt (Nat.lt_of_lt_of_le (by have := World.block_lt_of_cell? _ _ hw372_0; first | rwa [add_block] at this | exact this) GW385.out)) | (dsimp only; exact Nat.ne_of_lt (Nat.lt_of_lt_of_le (by have := World.block_lt_of_cell? _ _ hw372_0; first | rwa [add_block] at this | exact this) GW385.out))) _).trans (((cell_far (p := ⟨gb385, _, none⟩) (by first | exact Nat.ne_of_lt (Nat.lt_of_lt_of_le (by have := World.block_lt_of_cell? _ _ hw372_0; first | rwa [add_block] at this | exact this) GW385.out) | (rw [add_block]; exact Nat.ne_of_lt (Nat.lt_of_lt_of_le (by have := World.block_lt_of_cell? _ _ hw372_0; first | rwa [add_block] at this | exact this) GW385.out)) | (show (Addr.add _ _).block ≠ _; rw [add_block]; exact Nat.ne_of_lt (Nat.lt_of_lt_of_le (by have := World.block_lt_of_cell? _ _ hw372_0; first | rwa [add_block] at this | exact this) GW385.out)) | (dsimp only; exact Nat.ne_of_lt (Nat.lt_of_lt_of_le (by have := World.block_lt_of_cell? _ _ hw372_0; first | rwa [add_block] at this | exact this) GW385.out))) _).trans (((cell_far (p := ⟨gb385, _, none⟩) (by first | exact Nat.ne_of_lt (Nat.lt_of_lt_of_le (by have := World.block_lt_of_cell? _ _ hw372_0; first | rwa [add_block] at this | exact this) GW385.out) | (rw [add_block]; exact Nat.ne_of_lt (Nat.lt_of_lt_of_le (by have := World.block_lt_of_cell? _ _ hw372_0; first | rwa [add_block] at this | exact this) GW385.out)) | (show (Addr.add _ _).block ≠ _; rw [add_block]; exact Nat.ne_of_lt (Nat.lt_of_lt_of_le (by have := World.block_lt_of_cell? _ _ hw372_0; first | rwa [add_block] at this | exact this) GW385.out)) | (dsimp only; exact Nat.ne_of_lt (Nat.lt_of_lt_of_le (by have := World.block_lt_of_cell? _ _ hw372_0; first | rwa [add_block] at this | exact this) GW385.out))) _).trans (((cell_far (p := ⟨gb385, _, none⟩) (by first | exact Nat.ne_of_lt (Nat.lt_of_lt_of_le (by have := World.block_lt_of_cell? _ _ hw372_0; first | rwa [add_block] at this | exact this) GW385.out) | (rw [add_block]; exact Nat.ne_of_lt (Nat.lt_of_lt_of_le (by have := World.block_lt_of_cell? _ _ hw372_0; first | rwa [add_block] at this | exact this) GW385.out)) | (show (Addr.add _ _).block ≠ _; rw [add_block]; exact Nat.ne_of_lt (Nat.lt_of_lt_of_le (by have := World.block_lt_of_cell? _ _ hw372_0; first | rwa [add_block] at this | exact this) GW385.out)) | (dsimp only; exact Nat.ne_of_lt (Nat.lt_of_lt_of_le (by have := World.block_lt_of_cell? _ _ hw372_0; first | rwa [add_block] at this | exact this) GW385.out))) _).trans (((cell_far (p := ⟨gb385, _, none⟩) (by first | exact Nat.ne_of_lt (Nat.lt_of_lt_of_le (by have := World.block_lt_of_cell? _ _ hw372_0; first | rwa [add_block] at this | exact this) GW385.out) | (rw [add_block]; exact Nat.ne_of_lt (Nat.lt_of_lt_of_le (by have := World.block_lt_of_cell? _ _ hw372_0; first | rwa [add_block] at this | exact this) GW385.out)) | (show (Addr.add _ _).block ≠ _; rw [add_block]; exact Nat.ne_of_lt (Nat.lt_of_lt_of_le (by have := World.block_lt_of_cell? _ _ hw372_0; first | rwa [add_block] at this | exact this) GW385.out)) | (dsimp only; exact Nat.ne_of_lt (Nat.lt_of_lt_of_le (by have := World.block_lt_of_cell? _ _ hw372_0; first | rwa [add_block] at this | exact this) GW385.out))) _).trans (((cell_far (p := ⟨gb385, _, none⟩) (by first | exact Nat.ne_of_lt (Nat.lt_of_lt_of_le (by have := World.block_lt_of_cell? _ _ hw372_0; first | rwa [add_block] at this | exact this) GW385.out) | (rw [add_block]; exact Nat.ne_of_lt (Nat.lt_of_lt_of_le (by have := World.block_lt_of_cell? _ _ hw372_0; first | rwa [add_block] at this | exact this) GW385.out)) | (show (Addr.add _ _).block ≠ _; rw [add_block]; exact Nat.ne_of_lt (Nat.lt_of_lt_of_le (by have := World.block_lt_of_cell? _ _ hw372_0; first | rwa [add_block] at this | exact this) GW385.out)) | (dsimp only; exact Nat.ne_of_lt (Nat.lt_of_lt_of_le (by have := World.block_lt_of_cell? _ _ hw372_0; first | rwa [add_block] at this | exact this) GW385.out))) _).trans (((cell_far (p := ⟨gb385, _, none⟩) (by first | exact Nat.ne_of_lt (Nat.lt_of_lt_of_le (by have := World.block_lt_of_cell? _ _ hw372_0; first | rwa [add_block] at this | exact this) GW385.out) | (rw [add_block]; exact Nat.ne_of_lt (Nat.lt_of_lt_of_le (by have := World.block_lt_of_cell? _ _ hw372_0; first | rwa [add_block] at this | exact this) GW385.out)) | (show (Addr.add _ _).block ≠ _; rw [add_block]; exact Nat.ne_of_lt (Nat.lt_of_lt_of_le (by have := World.block_lt_of_cell? _ _ hw372_0; first | rwa [add_block] at this | exact this) GW385.out)) | (dsimp only; exact Nat.ne_of_lt (Nat.lt_of_lt_of_le (by have := World.block_lt_of_cell? _ _ hw372_0; first | rwa [add_block] at this | exact this) GW385.out))) _).trans (((cell_far (p := ⟨gb385, _, none⟩) (by first | exact Nat.ne_of_lt (Nat.lt_of_lt_of_le (by have := World.block_lt_of_cell? _ _ hw372_0; first | rwa [add_block] at this | exact this) GW385.out) | (rw [add_block]; exact Nat.ne_of_lt (Nat.lt_of_lt_of_le (by have := World.block_lt_of_cell? _ _ hw372_0; first | rwa [add_block] at this | exact this) GW385.out)) | (show (Addr.add _ _).block ≠ _; rw [add_block]; exact Nat.ne_of_lt (Nat.lt_of_lt_of_le (by have := World.block_lt_of_cell? _ _ hw372_0; first | rwa [add_block] at this | exact this) GW385.out)) | (dsimp only; exact Nat.ne_of_lt (Nat.lt_of_lt_of_le (by have := World.block_lt_of_cell? _ _ hw372_0; first | rwa [add_block] at this | exact this) GW385.out))) _).trans (((cell_far (p := ⟨gb385, _, none⟩) (by first | exact Nat.ne_of_lt (Nat.lt_of_lt_of_le (by have := World.block_lt_of_cell? _ _ hw372_0; first | rwa [add_block] at this | exact this) GW385.out) | (rw [add_block]; exact Nat.ne_of_lt (Nat.lt_of_lt_of_le (by have := World.block_lt_of_cell? _ _ hw372_0; first | rwa [add_block] at this | exact this) GW385.out)) | (show (Addr.add _ _).block ≠ _; rw [add_block]; exact Nat.ne_of_lt (Nat.lt_of_lt_of_le (by have := World.block_lt_of_cell? _ _ hw372_0; first | rwa [add_block] at this | exact this) GW385.out)) | (dsimp only; exact Nat.ne_of_lt (Nat.lt_of_lt_of_le (by have := World.block_lt_of_cell? _ _ hw372_0; first | rwa [add_block] at this | exact this) GW385.out))) _).trans (((cell_far (p := ⟨gb385, _, none⟩) (by first | exact Nat.ne_of_lt (Nat.lt_of_lt_of_le (by have := World.block_lt_of_cell? _ _ hw372_0; first | rwa [add_block] at this | exact this) GW385.out) | (rw [add_block]; exact Nat.ne_of_lt (Nat.lt_of_lt_of_le (by have := World.block_lt_of_cell? _ _ hw372_0; first | rwa [add_block] at this | exact this) GW385.out)) | (show (Addr.add _ _).block ≠ _; rw [add_block]; exact Nat.ne_of_lt (Nat.lt_of_lt_of_le (by have := World.block_lt_of_cell? _ _ hw372_0; first | rwa [add_block] at this | exact this) GW385.out)) | (dsimp only; exact Nat.ne_of_lt (Nat.lt_of_lt_of_le (by have := World.block_lt_of_cell? _ _ hw372_0; first | rwa [add_block] at this | exact this) GW385.out))) _).trans (((cell_far (p := ⟨gb385, _, none⟩) (by first | exact Nat.ne_of_lt (Nat.lt_of_lt_of_le (by have := World.block_lt_of_cell? _ _ hw372_0; first | rwa [add_block] at this | exact this) GW385.out) | (rw [add_block]; exact Nat.ne_of_lt (Nat.lt_of_lt_of_le (by have := World.block_lt_of_cell? _ _ hw372_0; first | rwa [add_block] at this | exact this) GW385.out)) | (show (Addr.add _ _).block ≠ _; rw [add_block]; exact Nat.ne_of_lt (Nat.lt_of_lt_of_le (by have := World.block_lt_of_cell? _ _ hw372_0; first | rwa [add_block] at this | exact this) GW385.out)) | (dsimp only; exact Nat.ne_of_lt (Nat.lt_of_lt_of_le (by have := World.block_lt_of_cell? _ _ hw372_0; first | rwa [add_block] at this | exact this) GW385.out))) _).trans (((cell_far (p := ⟨gb385, _, none⟩) (by first | exact Nat.ne_of_lt (Nat.lt_of_lt_of_le (by have := World.block_lt_of_cell? _ _ hw372_0; first | rwa [add_block] at this | exact this) GW385.out) | (rw [add_block]; exact Nat.ne_of_lt (Nat.lt_of_lt_of_le (by have := World.block_lt_of_cell? _ _ hw372_0; first | rwa [add_block] at this | exact this) GW385.out)) | (show (Addr.add _ _).block ≠ _; rw [add_block]; exact Nat.ne_of_lt (Nat.lt_of_lt_of_le (by have := World.block_lt_of_cell? _ _ hw372_0; first | rwa [add_block] at this | exact this) GW385.out)) | (dsimp only; exact Nat.ne_of_lt (Nat.lt_of_lt_of_le (by have := World.block_lt_of_cell? _ _ hw372_0; first | rwa [add_block] at this | exact this) GW385.out))) _).trans (hHeld.2))))))))))))))))))))))))))⟩ (fun hHeld => ?_)
            clear hK K
            refine done_ (done_of HT_.out (by kernel_rfl)) ?_
            try go_wp2
            try clear hs25 hfs25 hns25_0 hms25_0 hs26 hfs26 hns26_0 hms26_0 hs27 hfs27 hns27_0 hms27_0 hs28 hfs28 hns28_0 hms28_0 hs29 hfs29 hns29_0 hms29_0 hs30 hfs30 hns30_0 hms30_0 hs31 hfs31 hns31_0 hms31_0 hs32 hfs32 hns32_0 hms32_0 hs33 hfs33 hns33_0 hms33_0 hs34 hfs34 hns34_0 hms34_0 hs35 hfs35 hns35_0 hms35_0 hs36 hfs36 hns36_0 hms36_0 hs37 hfs37 hns37_0 hms37_0
            go_loopg [5] kj4 (fun kq v5 w' => ∃ (x5_2 : Int) (x386003_2 : List (S41)) (u386003 : Value), v5 = .int .i64 x5_2 ∧ Aside0 (medlarref16_From.l0 kq l0 x5_2 (wrap64 (rd l0 1)) (wrap64 (rd l0 2)) (wrap64 (t374)) x386003_2 t376 t377 t378 t379 t380 t381 t382 t383 t384 = some (r1, r2, r3, r4, r5, r6, r7, r8, r9, r10, r11, r12, r13, r14)) ∧ Aside0 (kq ≤ kj4) ∧ Aside0 (Kd.R k41 41 w' w.heap.size (fun _ => True) u386003 x386003_2) ∧ Aside0 (w'.heap[gb370]? = some (.cells #[.int .i64 0, .int .i64 0, .int .i64 0, (.slice none 0 0), .bool false, .bool false, .int .u64 0, .int .u64 0, .int .u64 0, .int .u64 0, .int .u64 0, .int .u64 0, .int .i64 0] 31 (0, 0))) ∧ Aside0 (w'.heap[gb385]? = some (.cells #[.int .i64 (wrap64 (rd l0 1)), .int .i64 (wrap64 (rd l0 2)), .int .i64 (wrap64 (t374)), u386003, .bool t376, .bool t377, .int .u64 t378, .int .u64 t379, .int .u64 t380, .int .u64 t381, .int .u64 t382, .int .u64 t383, .int .i64 t384] 31 (0, 0))) ∧ Aside0 (Below w.heap.size w w'))
            case atStart => exact ⟨(15), (([] : List (S41))), (.slice none 0 0), rf_, H', ⟨Nat.le_refl _⟩, ⟨by first | exact Kd.R_nil _ _ _ _ _ | exact Kd.N_nil _ _ _ _ _ | exact Kd.V_nil _ _ _ _ _ | exact Kd.Q_nil _ _ _ _ _ | exact Kd.S_nil _ _ _ _ _⟩, ⟨by (with_reducible repeat (first | refine kn_ ?_ _ | refine kd_ ?_ | refine ka_ ?_ _)); (iterate 13 refine blk_far ?_ NB370_385.out _); exact BK370.out⟩, ⟨by (with_reducible repeat (first | refine kn_ ?_ _ | refine kd_ ?_ | refine ka_ ?_ _)); exact sC_blk BK385.out rfl rfl⟩, ⟨bw2_ HB GE370 GE385⟩⟩
            case round =>
             clear H'
             try clear c1
             try clear p2
             try clear p3
             try clear q3
             try clear hx3
             try clear qi3
             try clear c5
             try clear p6
             try clear c8
             try clear c10
             try clear c10b0
             try clear c10b1
             try clear c11
             try clear c11b0
             try clear c11b1
             try clear c12
             try clear c12b0
             try clear c12b1
             try clear c13
             try clear c13b0
             try clear c13b1
             try clear c16
             try clear c16b0
             try clear c16b1
             try clear c17
             try clear c17b0
             try clear c17b1
             try clear p37
             try clear q37
             try clear hx37
             try clear qi37
             try clear hcz9_0 hcz9_1 hcz9_10 hcz9_11 hcz9_12 hcz9_2 hcz9_3 hcz9_4 hcz9_5 hcz9_6 hcz9_7 hcz9_8 hcz9_9
             try clear hfz4_4 hfz4_5 hfz4_6 hfz4_7 hfz4_8 hfz4_9
             try clear hfz9_0 hfz9_1 hfz9_10 hfz9_11 hfz9_12 hfz9_2 hfz9_3 hfz9_4 hfz9_5 hfz9_6 hfz9_7 hfz9_8 hfz9_9
             try clear hx371_0
             try clear hx372_0
             try clear p371
             try clear p372
             try clear q371
             try clear q372
             obtain ⟨x5_2, x386003_2, u386003, rfl, HA, HK2, HO_386003, BK370, BK385, HB⟩ := hrel
             cases gk with
             | zero => exact absurd HA.out (by simp [medlarref16_From.l0])
             | succ k2 =>
              have H := HA.out
              clear HA
              simp only [medlarref16_From.l0] at H
              by_cases c38 : (wrap64 (x5_2 + 48)) ≤ (wrap64 ((l0.length : Int) - 32))
              ·rw [if_pos c38] at H
               have c38b0 := decide_eq_true c38
               have c38b9 := c38b0
               rw [hji15] at c38b9
               clear c38
               by_cases c39 : 0 ≤ x5_2
               ·rw [if_pos c39] at H
                have c39b0 := eq_true c39
                have c39b1 := decide_eq_true c39
                clear c39
                by_cases c40 : x5_2 ≤ (wrap64 (x5_2 + 8))
                ·rw [if_pos c40] at H
                 have c40b0 := eq_true c40
                 have c40b1 := decide_eq_true c40
                 by_cases c41 : (wrap64 (x5_2 + 8)) ≤ (l0.length : Int)
                 ·rw [if_pos c41] at H
                  have c41b0 := eq_true c41
                  have c41b1 := decide_eq_true c41
                  replace H := bind_eq_some_iff.mp H
                  obtain ⟨t387, A420, H⟩ := H
                  replace H : (if 0 ≤ (wrap64 (x5_2 + 8)) then (if (wrap64 (x5_2 + 8)) ≤ (wrap64 (x5_2 + 16)) then (if (wrap64 (x5_2 + 16)) ≤ (l0.length : Int) then ((medlarref16_take.f k2 ((l0.take ((wrap64 (x5_2 + 16)) : Int).toNat).drop ((wrap64 (x5_2 + 8)) : Int).toNat)).bind fun t389 => (if 0 ≤ (wrap64 (x5_2 + 16)) then (if (wrap64 (x5_2 + 16)) ≤ (wrap64 (x5_2 + 48)) then (if (wrap64 (x5_2 + 48)) ≤ (l0.length : Int) then ((medlarref16_sealed.f k2 ((l0.take ((wrap64 (x5_2 + 48)) : Int).toNat).drop ((wrap64 (x5_2 + 16)) : Int).toNat)).bind fun bt391 => (if x386003_2.length < 1759218604441 then (medlarref16_From.l0 k2 l0 (wrap64 (x5_2 + 48)) (wrap64 (rd l0 1)) (wrap64 (rd l0 2)) (wrap64 (t374)) (x386003_2 ++ [(⟨(⟨t387, t389⟩ : S39), (⟨bt391.1, bt391.2.1, (⟨bt391.2.2.1, bt391.2.2.2.1⟩ : S25), (⟨(⟨bt391.2.2.2.2.1, bt391.2.2.2.2.2.1⟩ : S25), (⟨bt391.2.2.2.2.2.2.1, bt391.2.2.2.2.2.2.2.1⟩ : S25)⟩ : S27), bt391.2.2.2.2.2.2.2.2⟩ : S29)⟩ : S41)]) t376 t377 t378 t379 t380 t381 t382 t383 t384) else (none))) else (none)) else (none)) else (none))) else (none)) else (none)) else (none)) = some (r1, r2, r3, r4, r5, r6, r7, r8, r9, r10, r11, r12, r13, r14) := H
                  have A42 := ak_ A420
                  clear A420
                  obtain ⟨ji43, hji43⟩ : ∃ j_ : Int, (wrap64 (x5_2 + 8)) = j_ := ⟨_, rfl⟩
                  replace H : (if 0 ≤ (ji43) then (if (ji43) ≤ (wrap64 (x5_2 + 16)) then (if (wrap64 (x5_2 + 16)) ≤ (l0.length : Int) then ((medlarref16_take.f k2 ((l0.take ((wrap64 (x5_2 + 16)) : Int).toNat).drop ((ji43) : Int).toNat)).bind fun t389 => (if 0 ≤ (wrap64 (x5_2 + 16)) then (if (wrap64 (x5_2 + 16)) ≤ (wrap64 (x5_2 + 48)) then (if (wrap64 (x5_2 + 48)) ≤ (l0.length : Int) then ((medlarref16_sealed.f k2 ((l0.take ((wrap64 (x5_2 + 48)) : Int).toNat).drop ((wrap64 (x5_2 + 16)) : Int).toNat)).bind fun bt391 => (if x386003_2.length < 1759218604441 then (medlarref16_From.l0 k2 l0 (wrap64 (x5_2 + 48)) (wrap64 (rd l0 1)) (wrap64 (rd l0 2)) (wrap64 (t374)) (x386003_2 ++ [(⟨(⟨t387, t389⟩ : S39), (⟨bt391.1, bt391.2.1, (⟨bt391.2.2.1, bt391.2.2.2.1⟩ : S25), (⟨(⟨bt391.2.2.2.2.1, bt391.2.2.2.2.2.1⟩ : S25), (⟨bt391.2.2.2.2.2.2.1, bt391.2.2.2.2.2.2.2.1⟩ : S25)⟩ : S27), bt391.2.2.2.2.2.2.2.2⟩ : S29)⟩ : S41)]) t376 t377 t378 t379 t380 t381 t382 t383 t384) else (none))) else (none)) else (none)) else (none))) else (none)) else (none)) else (none)) = some (r1, r2, r3, r4, r5, r6, r7, r8, r9, r10, r11, r12, r13, r14) := by first | (rw [hji43] at H; exact H) | (simp only [hji43] at H ⊢; exact H)
                  (try rw [hji43] at c40b0)
                  (try rw [hji43] at c40b1)
                  (try rw [hji43] at c40)
                  (try rw [hji43] at c41b0)
                  (try rw [hji43] at c41b1)
                  (try rw [hji43] at c41)
                  (try rw [hji43] at A42)
                  have hji43w : (IntKind.i64.wrap (x5_2 + 8)) = ji43 := (i64_w _).trans hji43
                  by_cases c44 : 0 ≤ (ji43)
                  ·rw [if_pos c44] at H
                   have c44b0 := eq_true c44
                   have c44b1 := decide_eq_true c44
                   clear c44
                   by_cases c45 : (ji43) ≤ (wrap64 (x5_2 + 16))
                   ·rw [if_pos c45] at H
                    have c45b0 := eq_true c45
                    have c45b1 := decide_eq_true c45
                    by_cases c46 : (wrap64 (x5_2 + 16)) ≤ (l0.length : Int)
                    ·rw [if_pos c46] at H
                     have c46b0 := eq_true c46
                     have c46b1 := decide_eq_true c46
                     replace H := bind_eq_some_iff.mp H
                     obtain ⟨t389, A470, H⟩ := H
                     replace H : (if 0 ≤ (wrap64 (x5_2 + 16)) then (if (wrap64 (x5_2 + 16)) ≤ (wrap64 (x5_2 + 48)) then (if (wrap64 (x5_2 + 48)) ≤ (l0.length : Int) then ((medlarref16_sealed.f k2 ((l0.take ((wrap64 (x5_2 + 48)) : Int).toNat).drop ((wrap64 (x5_2 + 16)) : Int).toNat)).bind fun bt391 => (if x386003_2.length < 1759218604441 then (medlarref16_From.l0 k2 l0 (wrap64 (x5_2 + 48)) (wrap64 (rd l0 1)) (wrap64 (rd l0 2)) (wrap64 (t374)) (x386003_2 ++ [(⟨(⟨t387, t389⟩ : S39), (⟨bt391.1, bt391.2.1, (⟨bt391.2.2.1, bt391.2.2.2.1⟩ : S25), (⟨(⟨bt391.2.2.2.2.1, bt391.2.2.2.2.2.1⟩ : S25), (⟨bt391.2.2.2.2.2.2.1, bt391.2.2.2.2.2.2.2.1⟩ : S25)⟩ : S27), bt391.2.2.2.2.2.2.2.2⟩ : S29)⟩ : S41)]) t376 t377 t378 t379 t380 t381 t382 t383 t384) else (none))) else (none)) else (none)) else (none)) = some (r1, r2, r3, r4, r5, r6, r7, r8, r9, r10, r11, r12, r13, r14) := H
                     have A47 := ak_ A470
                     clear A470
                     obtain ⟨ji48, hji48⟩ : ∃ j_ : Int, (wrap64 (x5_2 + 16)) = j_ := ⟨_, rfl⟩
                     replace H : (if 0 ≤ (ji48) then (if (ji48) ≤ (wrap64 (x5_2 + 48)) then (if (wrap64 (x5_2 + 48)) ≤ (l0.length : Int) then ((medlarref16_sealed.f k2 ((l0.take ((wrap64 (x5_2 + 48)) : Int).toNat).drop ((ji48) : Int).toNat)).bind fun bt391 => (if x386003_2.length < 1759218604441 then (medlarref16_From.l0 k2 l0 (wrap64 (x5_2 + 48)) (wrap64 (rd l0 1)) (wrap64 (rd l0 2)) (wrap64 (t374)) (x386003_2 ++ [(⟨(⟨t387, t389⟩ : S39), (⟨bt391.1, bt391.2.1, (⟨bt391.2.2.1, bt391.2.2.2.1⟩ : S25), (⟨(⟨bt391.2.2.2.2.1, bt391.2.2.2.2.2.1⟩ : S25), (⟨bt391.2.2.2.2.2.2.1, bt391.2.2.2.2.2.2.2.1⟩ : S25)⟩ : S27), bt391.2.2.2.2.2.2.2.2⟩ : S29)⟩ : S41)]) t376 t377 t378 t379 t380 t381 t382 t383 t384) else (none))) else (none)) else (none)) else (none)) = some (r1, r2, r3, r4, r5, r6, r7, r8, r9, r10, r11, r12, r13, r14) := by first | (rw [hji48] at H; exact H) | (simp only [hji48] at H ⊢; exact H)
                     (try rw [hji48] at c45b0)
                     (try rw [hji48] at c45b1)
                     (try rw [hji48] at c45)
                     (try rw [hji48] at c46b0)
                     (try rw [hji48] at c46b1)
                     (try rw [hji48] at c46)
                     (try rw [hji48] at A42)
                     (try rw [hji48] at A47)
                     have hji48w : (IntKind.i64.wrap (x5_2 + 16)) = ji48 := (i64_w _).trans hji48
                     by_cases c49 : 0 ≤ (ji48)
                     ·rw [if_pos c49] at H
                      have c49b0 := eq_true c49
                      have c49b1 := decide_eq_true c49
                      clear c49
                      by_cases c50 : (ji48) ≤ (wrap64 (x5_2 + 48))
                      ·rw [if_pos c50] at H
                       have c50b0 := eq_true c50
                       have c50b1 := decide_eq_true c50
                       by_cases c51 : (wrap64 (x5_2 + 48)) ≤ (l0.length : Int)
                       ·rw [if_pos c51] at H
                        have c51b0 := eq_true c51
                        have c51b1 := decide_eq_true c51
                        replace H := bind_eq_some_iff.mp H
                        obtain ⟨⟨t391, t392, t393, t394, t395, t396, t397, t398, t399⟩, A520, H⟩ := H
                        replace H : (if x386003_2.length < 1759218604441 then (medlarref16_From.l0 k2 l0 (wrap64 (x5_2 + 48)) (wrap64 (rd l0 1)) (wrap64 (rd l0 2)) (wrap64 (t374)) (x386003_2 ++ [(⟨(⟨t387, t389⟩ : S39), (⟨t391, t392, (⟨t393, t394⟩ : S25), (⟨(⟨t395, t396⟩ : S25), (⟨t397, t398⟩ : S25)⟩ : S27), t399⟩ : S29)⟩ : S41)]) t376 t377 t378 t379 t380 t381 t382 t383 t384) else (none)) = some (r1, r2, r3, r4, r5, r6, r7, r8, r9, r10, r11, r12, r13, r14) := H
                        have A52 := ak_ A520
                        clear A520
                        by_cases c53 : x386003_2.length < 1759218604441
                        ·rw [if_pos c53] at H
                         have LMc53 := ak_ c53
                         clear c53
                         obtain ⟨y400, hy400⟩ : ∃ y_ : List (S41), y_ = (x386003_2 ++ [(⟨(⟨t387, t389⟩ : S39), (⟨t391, t392, (⟨t393, t394⟩ : S25), (⟨(⟨t395, t396⟩ : S25), (⟨t397, t398⟩ : S25)⟩ : S27), t399⟩ : S29)⟩ : S41)]) := ⟨_, rfl⟩
                         replace H : (medlarref16_From.l0 k2 l0 (wrap64 (x5_2 + 48)) (wrap64 (rd l0 1)) (wrap64 (rd l0 2)) (wrap64 (t374)) y400 t376 t377 t378 t379 t380 t381 t382 t383 t384) = some (r1, r2, r3, r4, r5, r6, r7, r8, r9, r10, r11, r12, r13, r14) := by first | (rw [hy400]; with_reducible exact H) | (have H2_ := (Option.bind_some _ _).symm.trans H; rw [hy400]; with_reducible exact H2_) | (have H2_ := (Option.bind_some _ _).symm.trans H; with_reducible exact H2_) | with_reducible exact H | (rw [hy400]; exact H) | exact H
                         have Ny400 := ak_ hy400
                         clear hy400
                         have H' := ak_ H
                         clear H
                         try go_wp2
                         replace HO_386003 := ak_ (Kd.R_drew HO_386003.out)
                         replace BK370 := ak_ (kd_ BK370.out)
                         replace BK385 := ak_ (kd_ BK385.out)
                         replace HB := ak_ (bd_ HB.out)
                         obtain ⟨i055, hi055, _, hsz55, _⟩ := info_parts info5
                         obtain ⟨A55, hcut55, hA55, hC55⟩ := print_mid_of (P := Try.prog) (Value.int .u8) 0 35 5 .i64 .i64 underlying35 hi055 hsz55 (some ad371) c0 l0 x5_2 (ji43) (od_ (by first | (with_reducible assumption) | assumption)) (by first | omega | exact od_ (by first | (with_reducible assumption) | assumption)) (od_ (by first | (with_reducible assumption) | assumption)) HC0.out
                         have HR386 := ak_ (Kd.C_of_reads (h1 := fun _ => rfl) (hA55 _ (Kd.reads_of_C HR0.out)))
                         have HC386 := ak_ hC55
                         clear hA55 hC55 hi055 hsz55
                         obtain ⟨i056, hi056, _, hsz56, _⟩ := info_parts info5
                         obtain ⟨A56, hcut56, hA56, hC56⟩ := print_mid_of (P := Try.prog) (Value.int .u8) 0 35 5 .i64 .i64 underlying35 hi056 hsz56 (some ad371) c0 l0 (ji43) (ji48) (od_ (by first | (with_reducible assumption) | assumption)) (by first | omega | exact od_ (by first | (with_reducible assumption) | assumption)) (od_ (by first | (with_reducible assumption) | assumption)) HC0.out
                         have HR388 := ak_ (Kd.C_of_reads (h1 := fun _ => rfl) (hA56 _ (Kd.reads_of_C HR0.out)))
                         have HC388 := ak_ hC56
                         clear hA56 hC56 hi056 hsz56
                         obtain ⟨i057, hi057, _, hsz57, _⟩ := info_parts info5
                         obtain ⟨A57, hcut57, hA57, hC57⟩ := print_mid_of (P := Try.prog) (Value.int .u8) 0 35 5 .i64 .i64 underlying35 hi057 hsz57 (some ad371) c0 l0 (ji48) (wrap64 (x5_2 + 48)) (od_ (by first | (with_reducible assumption) | assumption)) (by first | omega | exact od_ (by first | (with_reducible assumption) | assumption)) (od_ (by first | (with_reducible assumption) | assumption)) HC0.out
                         have HR390 := ak_ (Kd.C_of_reads (h1 := fun _ => rfl) (hA57 _ (Kd.reads_of_C HR0.out)))
                         have HC390 := ak_ hC57
                         clear hA57 hC57 hi057 hsz57
                         refine start_ (n := 28) (S := fun w' => w'.cell? ⟨gb385, 0, none⟩ = some (.int .i64 (wrap64 (rd l0 1))) ∧ w'.cell? ⟨gb385, 1, none⟩ = some (.int .i64 (wrap64 (rd l0 2))) ∧ w'.cell? ⟨gb385, 2, none⟩ = some (.int .i64 (wrap64 (t374))) ∧ w'.cell? ⟨gb385, 3, none⟩ = some (u386003) ∧ w'.cell? ⟨gb385, 4, none⟩ = some (.bool t376) ∧ w'.cell? ⟨gb385, 5, none⟩ = some (.bool t377) ∧ w'.cell? ⟨gb385, 6, none⟩ = some (.int .u64 t378) ∧ w'.cell? ⟨gb385, 7, none⟩ = some (.int .u64 t379) ∧ w'.cell? ⟨gb385, 8, none⟩ = some (.int .u64 t380) ∧ w'.cell? ⟨gb385, 9, none⟩ = some (.int .u64 t381) ∧ w'.cell? ⟨gb385, 10, none⟩ = some (.int .u64 t382) ∧ w'.cell? ⟨gb385, 11, none⟩ = some (.int .u64 t383) ∧ w'.cell? ⟨gb385, 12, none⟩ = some (.int .i64 t384)) (ds := [27]) #[false, false, false, false, false, false, false, false, false, false, false, false, false, false, false, false, false, false, false, false, false, false, false, false, false, false, false, false] (by kernel_rfl) rfl rfl ⟨kq_ BK385.out 0 rfl, kq_ BK385.out 1 rfl, kq_ BK385.out 2 rfl, kq_ BK385.out 3 rfl, kq_ BK385.out 4 rfl, kq_ BK385.out 5 rfl, kq_ BK385.out 6 rfl, kq_ BK385.out 7 rfl, kq_ BK385.out 8 rfl, kq_ BK385.out 9 rfl, kq_ BK385.out 10 rfl, kq_ BK385.out 11 rfl, kq_ BK385.out 12 rfl⟩ (fun hHeld => ?_); refine with_tabW medlarref16_From.tab9 medlarref16_From.bits9 (fun HT_ HW_ => ?_)
                         generalize wr.drew = w54 at HO_386003 BK370 BK385 HB HR386 HR388 HR390 hHeld ⊢
                         refine pu_ HT_ 0 (some 50) (bA8 1 28) ?_
                         refine pu_ HT_ 2 (some 52) #[true, false, true, false, false, false, false, false, false, false, false, false, false, false, false, false, false, false, false, false, false, false, false, false, false, false, false, false] ?_
                         refine pu_ HT_ 3 (some 53) #[true, false, true, true, false, false, false, false, false, false, false, false, false, false, false, false, false, false, false, false, false, false, false, false, false, false, false, false] ?_
                         refine pu_ HT_ 4 (some 54) #[true, false, true, true, true, false, false, false, false, false, false, false, false, false, false, false, false, false, false, false, false, false, false, false, false, false, false, false] ?_
                         refine pu_ HT_ 5 (some 55) #[true, false, true, true, true, true, false, false, false, false, false, false, false, false, false, false, false, false, false, false, false, false, false, false, false, false, false, false] ?_
                         refine pu_ HT_ 6 (some 56) #[true, false, true, true, true, true, true, false, false, false, false, false, false, false, false, false, false, false, false, false, false, false, false, false, false, false, false, false] ?_
                         refine pu_ HT_ 8 (some 58) #[true, false, true, true, true, true, true, false, true, false, false, false, false, false, false, false, false, false, false, false, false, false, false, false, false, false, false, false] ?_
                         refine pu_ HT_ 9 (some 59) #[true, false, true, true, true, true, true, false, true, true, false, false, false, false, false, false, false, false, false, false, false, false, false, false, false, false, false, false] ?_
                         refine pu_ HT_ 10 (some 60) #[true, false, true, true, true, true, true, false, true, true, true, false, false, false, false, false, false, false, false, false, false, false, false, false, false, false, false, false] ?_
                         refine pu_ HT_ 11 (some 61) #[true, false, true, true, true, true, true, false, true, true, true, true, false, false, false, false, false, false, false, false, false, false, false, false, false, false, false, false] ?_
                         refine pu_ HT_ 12 (some 62) #[true, false, true, true, true, true, true, false, true, true, true, true, true, false, false, false, false, false, false, false, false, false, false, false, false, false, false, false] ?_
                         refine pu_ HT_ 13 (some 63) #[true, false, true, true, true, true, true, false, true, true, true, true, true, true, false, false, false, false, false, false, false, false, false, false, false, false, false, false] ?_
                         refine pu_ HT_ 16 (some 66) #[true, false, true, true, true, true, true, false, true, true, true, true, true, true, false, false, true, false, false, false, false, false, false, false, false, false, false, false] ?_
                         refine pu_ HT_ 17 (some 67) #[true, false, true, true, true, true, true, false, true, true, true, true, true, true, false, false, true, true, false, false, false, false, false, false, false, false, false, false] ?_
                         refine pu_ HT_ 18 (some 68) #[true, false, true, true, true, true, true, false, true, true, true, true, true, true, false, false, true, true, true, false, false, false, false, false, false, false, false, false] ?_
                         refine pu_ HT_ 19 (some 69) #[true, false, true, true, true, true, true, false, true, true, true, true, true, true, false, false, true, true, true, true, false, false, false, false, false, false, false, false] ?_
                         refine pu_ HT_ 20 (some 70) #[true, false, true, true, true, true, true, false, true, true, true, true, true, true, false, false, true, true, true, true, true, false, false, false, false, false, false, false] ?_
                         refine pu_ HT_ 21 (some 71) #[true, false, true, true, true, true, true, false, true, true, true, true, true, true, false, false, true, true, true, true, true, true, false, false, false, false, false, false] ?_
                         refine tk_ HT_ HW_ hHeld 1 (some 51) #[true, true, true, true, true, true, true, false, true, true, true, true, true, true, false, false, true, true, true, true, true, true, false, false, false, false, false, false] rfl (by rintro w' ⟨s0, s1, s2, s3, s4, s5, s6, s7, s8, s9, s10, s11, s12⟩; go_simp; with_reducible rfl) ?_
                         refine one_ (i := 7) (N := some 57) #[true, true, true, true, true, true, true, true, true, true, true, true, true, true, false, false, true, true, true, true, true, true, false, false, false, false, false, false] rfl rfl (one_of HT_.out (by kernel_rfl)) (by decide) (fun K hK => ?_)
                         refine goes_ func58 (by kernel_rfl) rfl #[.slice A55 ((l0.take ((ji43) : Int).toNat).drop (x5_2 : Int).toNat).length (c0 - x5_2.toNat)] (by rfl) rfl rfl (by (try simp only [map_toArray, map_cons, map_nil]); first | done | (rw [show ((l0.take ((ji43) : Int).toNat).drop (x5_2 : Int).toNat).length = ((ji43).toNat - x5_2.toNat) from (by rw [List.length_drop, List.length_take]; have h_ : ((ji43) : Int) ≤ (l0.length : Int) := od_ (by first | (with_reducible assumption) | assumption); omega)] <;> rfl) | (simp only [hji43]; rfl) | rfl | (simp only [length_drop, length_take]; rfl)) ?_
                         with_reducible refine (medlarref16_take.calls k2 _ _ ((l0.take ((ji43) : Int).toNat).drop (x5_2 : Int).toNat) t387 _ ?side1 ?side2 A42.out).mono ?_
                         (case side1 => repeat (first | exact (Kd.C_below HR386.out HB.out) | (with_reducible refine Kd.C_alloc ?_ _) | (with_reducible refine Kd.C_drewN ?_ _) | (with_reducible refine Kd.C_drew ?_)))
                         (case side2 => exact HC386.out)
                         rintro e w' ⟨rfl, ⟨nd, rfl⟩⟩
                         refine ⟨_, rfl, ?_⟩
                         refine hK.out _ _ ⟨kq_ BK385.out 0 rfl, kq_ BK385.out 1 rfl, kq_ BK385.out 2 rfl, kq_ BK385.out 3 rfl, kq_ BK385.out 4 rfl, kq_ BK385.out 5 rfl, kq_ BK385.out 6 rfl, kq_ BK385.out 7 rfl, kq_ BK385.out 8 rfl, kq_ BK385.out 9 rfl, kq_ BK385.out 10 rfl, kq_ BK385.out 11 rfl, kq_ BK385.out 12 rfl⟩ (fun hHeld => ?_)
                         clear hK K
                         refine norm_ (a' := ?_) ?_ ?_
                         rotate_left
                         ·show Act.put _ (some 57) _ = _
                          simp only [Act.put, setIfInBounds_toArray, set_cons_zero, set_cons_succ, i64_w, i32_w]
                          rfl
                         refine one_ (i := 14) (N := some 64) #[true, true, true, true, true, true, true, true, true, true, true, true, true, true, true, false, true, true, true, true, true, true, false, false, false, false, false, false] rfl rfl (one_of HT_.out (by kernel_rfl)) (by decide) (fun K hK => ?_)
                         refine goes_ func58 (by kernel_rfl) rfl #[.slice A56 ((l0.take ((ji48) : Int).toNat).drop ((ji43) : Int).toNat).length (c0 - (ji43).toNat)] (by rfl) rfl rfl (by (try simp only [map_toArray, map_cons, map_nil]); first | done | (rw [show ((l0.take ((ji48) : Int).toNat).drop ((ji43) : Int).toNat).length = ((ji48).toNat - (ji43).toNat) from (by rw [List.length_drop, List.length_take]; have h_ : ((ji48) : Int) ≤ (l0.length : Int) := od_ (by first | (with_reducible assumption) | assumption); omega)] <;> rfl) | (simp only [hji43, hji48]; rfl) | rfl | (simp only [length_drop, length_take]; rfl)) ?_
                         with_reducible refine (medlarref16_take.calls k2 _ _ ((l0.take ((ji48) : Int).toNat).drop ((ji43) : Int).toNat) t389 _ ?side1 ?side2 A47.out).mono ?_
                         (case side1 => repeat (first | exact (Kd.C_below HR388.out (bw2_ HB GE370 GE385)) | (with_reducible refine Kd.C_alloc ?_ _) | (with_reducible refine Kd.C_drewN ?_ _) | (with_reducible refine Kd.C_drew ?_)))
                         (case side2 => exact HC388.out)
                         rintro e w' ⟨rfl, ⟨nd, rfl⟩⟩
                         refine ⟨_, rfl, ?_⟩
                         refine hK.out _ _ ⟨kq_ BK385.out 0 rfl, kq_ BK385.out 1 rfl, kq_ BK385.out 2 rfl, kq_ BK385.out 3 rfl, kq_ BK385.out 4 rfl, kq_ BK385.out 5 rfl, kq_ BK385.out 6 rfl, kq_ BK385.out 7 rfl, kq_ BK385.out 8 rfl, kq_ BK385.out 9 rfl, kq_ BK385.out 10 rfl, kq_ BK385.out 11 rfl, kq_ BK385.out 12 rfl⟩ (fun hHeld => ?_)
                         clear hK K
                         refine norm_ (a' := ?_) ?_ ?_
                         rotate_left
                         ·show Act.put _ (some 64) _ = _
                          simp only [Act.put, setIfInBounds_toArray, set_cons_zero, set_cons_succ, i64_w, i32_w]
                          rfl
                         refine pu_ HT_ 15 (some 65) (bA8 22 28) ?_
                         refine one_ (i := 22) (N := some 72) (bA8 23 28) rfl rfl (one_of HT_.out (by kernel_rfl)) (by decide) (fun K hK => ?_)
                         refine goes_ func59 (by kernel_rfl) rfl #[.slice A57 ((l0.take ((wrap64 (x5_2 + 48)) : Int).toNat).drop ((ji48) : Int).toNat).length (c0 - (ji48).toNat)] (by rfl) rfl rfl (by (try simp only [map_toArray, map_cons, map_nil]); first | done | (rw [show ((l0.take ((wrap64 (x5_2 + 48)) : Int).toNat).drop ((ji48) : Int).toNat).length = ((wrap64 (x5_2 + 48)).toNat - (ji48).toNat) from (by rw [List.length_drop, List.length_take]; have h_ : ((wrap64 (x5_2 + 48)) : Int) ≤ (l0.length : Int) := od_ (by first | (with_reducible assumption) | assumption); omega)] <;> rfl) | (simp only [hji48]; rfl) | rfl | (simp only [length_drop, length_take]; rfl)) ?_
                         with_reducible refine (medlarref16_sealed.calls k2 _ _ ((l0.take ((wrap64 (x5_2 + 48)) : Int).toNat).drop ((ji48) : Int).toNat) t391 t392 t393 t394 t395 t396 t397 t398 t399 _ ?side1 ?side2 A52.out).mono ?_
                         (case side1 => repeat (first | exact (Kd.C_below HR390.out (bw2_ HB GE370 GE385)) | (with_reducible refine Kd.C_alloc ?_ _) | (with_reducible refine Kd.C_drewN ?_ _) | (with_reducible refine Kd.C_drew ?_)))
                         (case side2 => exact HC390.out)
                         rintro e w58 ⟨rfl, hb⟩
                         refine ⟨_, rfl, ?_⟩
                         replace HO_386003 := ak_ (Kd.R_below (rl_ HO_386003) hb)
                         replace BK370 := ak_ (kb_ (kl_ BK370) hb)
                         replace BK385 := ak_ (kb_ (kl_ BK385) hb)
                         replace HB := ak_ (bt_ (bw2_ HB GE370 GE385) hb)
                         (try clear hb)
                         (try clear hb2)
                         (try clear hk)
                         (try clear hi)
                         refine hK.out _ _ ⟨kq_ BK385.out 0 rfl, kq_ BK385.out 1 rfl, kq_ BK385.out 2 rfl, kq_ BK385.out 3 rfl, kq_ BK385.out 4 rfl, kq_ BK385.out 5 rfl, kq_ BK385.out 6 rfl, kq_ BK385.out 7 rfl, kq_ BK385.out 8 rfl, kq_ BK385.out 9 rfl, kq_ BK385.out 10 rfl, kq_ BK385.out 11 rfl, kq_ BK385.out 12 rfl⟩ (fun hHeld => ?_)
                         clear hK K
                         refine norm_ (a' := ?_) ?_ ?_
                         rotate_left
                         ·show Act.put _ (some 72) _ = _
                          simp only [Act.put, setIfInBounds_toArray, set_cons_zero, set_cons_succ, i64_w, i32_w]
                          rfl
                         refine pu_ HT_ 23 (some 73) (bA8 24 28) ?_
                         refine one_ (i := 24) (N := some 74) (bA8 25 28) rfl rfl (one_of HT_.out (by kernel_rfl)) (by decide) (fun K hK => ?_)
                         refine value_ (w1 := ?_) (v := ?_) (by rfl) rfl ?_ ?_
                         rotate_left 2
                         ·go_simp
                          constructor
                          ·rfl
                          ·rfl
                         refine hK.out _ _ ⟨(kc_ (ka_ BK385.out _) 0).trans rfl, (kc_ (ka_ BK385.out _) 1).trans rfl, (kc_ (ka_ BK385.out _) 2).trans rfl, (kc_ (ka_ BK385.out _) 3).trans rfl, (kc_ (ka_ BK385.out _) 4).trans rfl, (kc_ (ka_ BK385.out _) 5).trans rfl, (kc_ (ka_ BK385.out _) 6).trans rfl, (kc_ (ka_ BK385.out _) 7).trans rfl, (kc_ (ka_ BK385.out _) 8).trans rfl, (kc_ (ka_ BK385.out _) 9).trans rfl, (kc_ (ka_ BK385.out _) 10).trans rfl, (kc_ (ka_ BK385.out _) 11).trans rfl, (kc_ (ka_ BK385.out _) 12).trans rfl⟩ (fun hHeld => ?_)
                         clear hK K
                         refine norm_ (a' := ?_) ?_ ?_
                         rotate_left
                         ·show Act.put _ (some 74) _ = _
                          simp only [Act.put, setIfInBounds_toArray, set_cons_zero, set_cons_succ, i64_w, i32_w]
                          rfl
                         refine one_ (i := 25) (N := some 75) (bA8 26 28) rfl rfl (one_of HT_.out (by kernel_rfl)) (by decide) (fun K hK => ?_)
                         refine Kd.R_append_step k41 (w0 := w) w.heap.size (by rfl) (.tmp 51) (.tmp 74) 22 41 (.agg #[(.int .u64 0), (.int .u64 0), (.bool false), (.bool false), (.int .u64 0), (.int .u64 0), (.int .u64 0), (.int .u64 0), (.int .u64 0), (.int .u64 0), (.int .i64 0)]) 80 rfl underlying22 info41 rfl (by decide) (by omega) u386003 x386003_2 (⟨(⟨t387, t389⟩ : S39), (⟨t391, t392, (⟨t393, t394⟩ : S25), (⟨(⟨t395, t396⟩ : S25), (⟨t397, t398⟩ : S25)⟩ : S27), t399⟩ : S29)⟩ : S41) [.int .u64 t387, .int .u64 t389, .bool t391, .bool t392, .int .u64 t393, .int .u64 t394, .int .u64 t395, .int .u64 t396, .int .u64 t397, .int .u64 t398, .int .i64 t399] (fun _ => True) (fun _ => False) rfl rfl ?aP (fun _ hk => hk.elim) ?aF ?aO ?aB ?aS ?aL ?_
                         (case aP => exact k41_mkM _ _ _ (⟨(⟨t387, t389⟩ : S39), (⟨t391, t392, (⟨t393, t394⟩ : S25), (⟨(⟨t395, t396⟩ : S25), (⟨t397, t398⟩ : S25)⟩ : S27), t399⟩ : S29)⟩ : S41))
                         (case aB => exact (bw2_ HB GE370 GE385))
                         (case aF => exact (fun _ _ => trivial))
                         (case aO => exact (rl_ HO_386003))
                         (case aS => exact (bz_ (bw2_ HB GE370 GE385)))
                         (case aL => have := LMc53.out; omega)
                         intro v401 w59 ho hb hg hat
                         rw [← Ny400.out] at ho
                         replace BK370 := ak_ (blk_grown (g := gb370) (o := .cells #[.int .i64 0, .int .i64 0, .int .i64 0, .slice none 0 0, .bool false, .bool false, .int .u64 0, .int .u64 0, .int .u64 0, .int .u64 0, .int .u64 0, .int .u64 0, .int .i64 0] 31 (0, 0)) (kl_ BK370) hg (Kd.R_ne HO_386003.out BK370.out (by decide)))
                         replace BK385 := ak_ (blk_grown (g := gb385) (o := .cells #[.int .i64 (wrap64 (rd l0 1)), .int .i64 (wrap64 (rd l0 2)), .int .i64 (wrap64 (t374)), u386003, .bool t376, .bool t377, .int .u64 t378, .int .u64 t379, .int .u64 t380, .int .u64 t381, .int .u64 t382, .int .u64 t383, .int .i64 t384] 31 (0, 0)) (kl_ BK385) hg (Kd.R_ne HO_386003.out BK385.out (by decide)))
                         replace HB := ak_ hb
                         have HO402 := ak_ ho
                         clear HO_386003
                         clear ho hb hg hat
                         obtain ⟨Ao60, co60, eo60⟩ := Kd.R_slice HO402.out
                         (first | subst eo60 | (injection eo60 with f1_ f2_ f3_; have f4_ := f1_.symm; have f5_ := f3_.symm; clear f1_ f2_ f3_; subst f4_; subst f5_))
                         refine hK.out _ _ ⟨kq_ BK385.out 0 rfl, kq_ BK385.out 1 rfl, kq_ BK385.out 2 rfl, kq_ BK385.out 3 rfl, kq_ BK385.out 4 rfl, kq_ BK385.out 5 rfl, kq_ BK385.out 6 rfl, kq_ BK385.out 7 rfl, kq_ BK385.out 8 rfl, kq_ BK385.out 9 rfl, kq_ BK385.out 10 rfl, kq_ BK385.out 11 rfl, kq_ BK385.out 12 rfl⟩ (fun hHeld => ?_)
                         clear hK K
                         refine norm_ (a' := ?_) ?_ ?_
                         rotate_left
                         ·show Act.put _ (some 75) _ = _
                          simp only [Act.put, setIfInBounds_toArray, set_cons_zero, set_cons_succ, i64_w, i32_w]
                          rfl
                         refine pu_ HT_ 26 (some 76) (bA8 27 28) ?_
                         refine last_ (i := 27) (N := none) (bA8 28 28) rfl rfl (one_of HT_.out (by kernel_rfl)) (by decide) (fun K hK => ?_)
                         have hs61 : w59.cell? ⟨gb385, 3, none⟩ = some (u386003) := (kc_ BK385.out 3).trans rfl
                         have hfs61 := kf_ BK385.out 3
                         have hns61_0 := NB370_385.out
                         have hms61_0 := NB385_370.out
                         refine skip_ (w1 := ?_) (by rfl) rfl ?_ ?_
                         rotate_left
                         ·go_simp
                          rfl
                         refine hK.out _ _ ?_
                         clear hK K
                         refine done_ (done_of HT_.out (by kernel_rfl)) ?_
                         try go_wp2
                         go_roundg k2
                         case measure => have := HJ4.out; have := HK2.out; omega
                         case rel => exact ⟨(wrap64 (x5_2 + 48)), (y400), (.slice Ao60 y400.length co60), rf_, H', ⟨by have := HJ4.out; have := HK2.out; omega⟩, ⟨by (with_reducible repeat (first | apply Kd.R_alloc | apply Kd.R_drewN | apply Kd.R_drew)); exact Kd.R_mono (Kd.R_far (p := ⟨gb385, 3, none⟩) (Kd.R_types HO402.out BK385.out (by decide)) (fun _ hk => hk.2) (.slice Ao60 y400.length co60)) (fun _ hk => trivial)⟩, ⟨by (with_reducible repeat (first | refine kn_ ?_ _ | refine kd_ ?_ | refine ka_ ?_ _)); exact blk_far BK370.out NB370_385.out _⟩, ⟨by (with_reducible repeat (first | refine kn_ ?_ _ | refine kd_ ?_ | refine ka_ ?_ _)); exact bp_ BK385.out 3 _⟩, ⟨bw2_ HB GE370 GE385⟩⟩
                        ·rw [if_neg c53] at H
                         exact absurd H (by simp)
                       ·rw [if_neg c51] at H
                        exact absurd H (by simp)
                      ·rw [if_neg c50] at H
                       exact absurd H (by simp)
                     ·rw [if_neg c49] at H
                      exact absurd H (by simp)
                    ·rw [if_neg c46] at H
                     exact absurd H (by simp)
                   ·rw [if_neg c45] at H
                    exact absurd H (by simp)
                  ·rw [if_neg c44] at H
                   exact absurd H (by simp)
                 ·rw [if_neg c41] at H
                  exact absurd H (by simp)
                ·rw [if_neg c40] at H
                 exact absurd H (by simp)
               ·rw [if_neg c39] at H
                exact absurd H (by simp)
              ·rw [if_neg c38] at H
               have c38b0 := decide_eq_false c38
               have c38b9 := c38b0
               rw [hji15] at c38b9
               clear c38
               replace H := bind_eq_some_iff.mp H
               obtain ⟨⟨t403, t406⟩, A620, H⟩ := H
               replace H : (if t406 = 0 then (if (strOfNums t403).toList = (strOfNums l0).toList then (some ((wrap64 (rd l0 1)), (wrap64 (rd l0 2)), (wrap64 (t374)), x386003_2, t376, t377, t378, t379, t380, t381, t382, t383, t384, 0)) else (some (0, 0, 0, ([] : List (S41)), false, false, 0, 0, 0, 0, 0, 0, 0, 2))) else (some (0, 0, 0, ([] : List (S41)), false, false, 0, 0, 0, 0, 0, 0, 0, 2))) = some (r1, r2, r3, r4, r5, r6, r7, r8, r9, r10, r11, r12, r13, r14) := H
               have A62 := ak_ A620
               clear A620
               by_cases c63 : t406 = 0
               ·rw [if_pos c63] at H
                have c63b0 : (t406 == 0) = true := beq_iff_eq.mpr c63
                have c63b1 : (t406 != 0) = false := bne_eq_false_iff_eq.mpr c63
                clear c63
                by_cases c64 : (strOfNums t403).toList = (strOfNums l0).toList
                ·rw [if_pos c64] at H
                 have c64b0 : ((strOfNums t403).toList == (strOfNums l0).toList) = true := beq_iff_eq.mpr c64
                 have c64b1 : ((strOfNums t403).toList != (strOfNums l0).toList) = false := bne_eq_false_iff_eq.mpr c64
                 clear c64
                 simp only [some.injEq, Prod.mk.injEq] at H
                 obtain ⟨rfl, rfl, rfl, rfl, rfl, rfl, rfl, rfl, rfl, rfl, rfl, rfl, rfl, rfl⟩ := H
                 have hnb65 := NB385_370.out
                 have hnc65 := NB370_385.out
                 obtain ⟨hcz66_0, hcz66_1, hcz66_2, hcz66_3, hcz66_4, hcz66_5, hcz66_6, hcz66_7, hcz66_8, hcz66_9, hcz66_10, hcz66_11, hcz66_12, hfz66_0, hfz66_1, hfz66_2, hfz66_3, hfz66_4, hfz66_5, hfz66_6, hfz66_7, hfz66_8, hfz66_9, hfz66_10, hfz66_11, hfz66_12⟩ := kc13_ BK385.out
                 obtain ⟨Ao67, co67, eo67⟩ := Kd.R_slice HO_386003.out
                 obtain ⟨Ao67, co67, eo67⟩ := Kd.R_slice HO_386003.out
                 subst eo67
                 go_wp2_with (first | ((with_reducible refine gate_callee (f := 20) rfl ?_); refine gl_ (some 79) func20 #[.agg #[.int .i64 (wrap64 (rd l0 1)), .int .i64 (wrap64 (rd l0 2)), .int .i64 (wrap64 (t374)), .slice Ao67 x386003_2.length co67, .bool t376, .bool t377, .int .u64 t378, .int .u64 t379, .int .u64 t380, .int .u64 t381, .int .u64 t382, .int .u64 t383, .int .i64 t384]] ?_; (with_reducible refine (medlarref16_Bytes.calls k2 (wrap64 (rd l0 1)) (wrap64 (rd l0 2)) (wrap64 (t374)) _ _ x386003_2 t376 t377 t378 t379 t380 t381 t382 t383 t384 t403 t406 _ ?side1 ?side2 A62.out).mono ?_); (case side1 => repeat (first | exact (Kd.R_reads' HO_386003.out).2.2 | (with_reducible refine Kd.C_alloc ?_ _) | (with_reducible refine Kd.C_drewN ?_ _) | (with_reducible refine Kd.C_drew ?_))); (case side2 => exact (Kd.R_reads' HO_386003.out).2.1); rintro e w68 ⟨v404, rfl, ho0, hb⟩; refine ⟨_, rfl, ?_⟩; replace HO_386003 := ak_ (Kd.R_below (rl_ HO_386003) hb); have HO405 := ak_ (Kd.R_lower ho0 (bz_ (bw2_ HB GE370 GE385))); replace BK370 := ak_ (kb_ (kl_ BK370) hb); replace BK385 := ak_ (kb_ (kl_ BK385) hb); replace HB := ak_ (bt_ (bw2_ HB GE370 GE385) hb); (try clear hb); (try clear hk); (try clear ho0); have hcv69 := own_string (P := Try.prog) underlying35 underlying5 underlying9 (Kd.own_of_R HO405.out); have hcv70 := Kd.C_string (P := Try.prog) (A := (some ad371)) (c := c0) underlying35 underlying5 underlying9 (Kd.C_below HR0.out HB.out); obtain ⟨hcz71_0, hcz71_1, hcz71_2, hcz71_3, hcz71_4, hcz71_5, hcz71_6, hcz71_7, hcz71_8, hcz71_9, hcz71_10, hcz71_11, hcz71_12, hfz71_0, hfz71_1, hfz71_2, hfz71_3, hfz71_4, hfz71_5, hfz71_6, hfz71_7, hfz71_8, hfz71_9, hfz71_10, hfz71_11, hfz71_12⟩ := kc13_ BK385.out; obtain ⟨hcz72_0, hcz72_1, hcz72_2, hcz72_3, hcz72_4, hcz72_5, hcz72_6, hcz72_7, hcz72_8, hcz72_9, hcz72_10, hcz72_11, hcz72_12, hfz72_0, hfz72_1, hfz72_2, hfz72_3, hfz72_4, hfz72_5, hfz72_6, hfz72_7, hfz72_8, hfz72_9, hfz72_10, hfz72_11, hfz72_12⟩ := kc13_ BK370.out))
                 refine bodyPost_ret (results_ct rfl _ _ gb370 31 #[.int .i64 (wrap64 (rd l0 1)), .int .i64 (wrap64 (rd l0 2)), .int .i64 (wrap64 (t374)), .slice Ao67 x386003_2.length co67, .bool t376, .bool t377, .int .u64 t378, .int .u64 t379, .int .u64 t380, .int .u64 t381, .int .u64 t382, .int .u64 t383, .int .i64 t384] (0, 0) _ rfl (by (with_reducible repeat (first | refine kn_ ?_ _ | refine kd_ ?_ | refine ka_ ?_ _)); exact sC_blk BK370.out rfl rfl) underlying31 rfl (by kernel_rfl)) rfl ?_
                 exact ⟨_, by first | rfl | (simp <;> rfl) | (simp only [← hji15]; first | rfl | (simp <;> rfl)) | (simp [*] <;> rfl), by (with_reducible repeat (first | apply Kd.R_alloc | apply Kd.R_drewN | apply Kd.R_drew)); exact Kd.R_mono (Kd.R_far (p := ⟨gb370, 12, none⟩) (Kd.R_far (p := ⟨gb370, 11, none⟩) (Kd.R_far (p := ⟨gb370, 10, none⟩) (Kd.R_far (p := ⟨gb370, 9, none⟩) (Kd.R_far (p := ⟨gb370, 8, none⟩) (Kd.R_far (p := ⟨gb370, 7, none⟩) (Kd.R_far (p := ⟨gb370, 6, none⟩) (Kd.R_far (p := ⟨gb370, 5, none⟩) (Kd.R_far (p := ⟨gb370, 4, none⟩) (Kd.R_far (p := ⟨gb370, 3, none⟩) (Kd.R_far (p := ⟨gb370, 2, none⟩) (Kd.R_far (p := ⟨gb370, 1, none⟩) (Kd.R_far (p := ⟨gb370, 0, none⟩) (Kd.R_types HO_386003.out BK370.out (by decide)) (fun _ hk => hk.2) (.int .i64 (wrap64 (rd l0 1)))) (fun _ hk => hk.2) (.int .i64 (wrap64 (rd l0 2)))) (fun _ hk => hk.2) (.int .i64 (wrap64 (t374)))) (fun _ hk => hk.2) (.slice Ao67 x386003_2.length co67)) (fun _ hk => hk.2) (.bool t376)) (fun _ hk => hk.2) (.bool t377)) (fun _ hk => hk.2) (.int .u64 t378)) (fun _ hk => hk.2) (.int .u64 t379)) (fun _ hk => hk.2) (.int .u64 t380)) (fun _ hk => hk.2) (.int .u64 t381)) (fun _ hk => hk.2) (.int .u64 t382)) (fun _ hk => hk.2) (.int .u64 t383)) (fun _ hk => hk.2) (.int .i64 t384)) (fun _ hk => trivial), bw2_ HB GE370 GE385⟩
                ·rw [if_neg c64] at H
                 have c64b0 : ((strOfNums t403).toList == (strOfNums l0).toList) = false := beq_eq_false_iff_ne.mpr c64
                 have c64b1 : ((strOfNums t403).toList != (strOfNums l0).toList) = true := bne_iff_ne.mpr c64
                 simp only [some.injEq, Prod.mk.injEq] at H
                 obtain ⟨rfl, rfl, rfl, rfl, rfl, rfl, rfl, rfl, rfl, rfl, rfl, rfl, rfl, rfl⟩ := H
                 have hnb73 := NB385_370.out
                 have hnc73 := NB370_385.out
                 obtain ⟨hcz74_0, hcz74_1, hcz74_2, hcz74_3, hcz74_4, hcz74_5, hcz74_6, hcz74_7, hcz74_8, hcz74_9, hcz74_10, hcz74_11, hcz74_12, hfz74_0, hfz74_1, hfz74_2, hfz74_3, hfz74_4, hfz74_5, hfz74_6, hfz74_7, hfz74_8, hfz74_9, hfz74_10, hfz74_11, hfz74_12⟩ := kc13_ BK385.out
                 obtain ⟨Ao75, co75, eo75⟩ := Kd.R_slice HO_386003.out
                 obtain ⟨Ao75, co75, eo75⟩ := Kd.R_slice HO_386003.out
                 subst eo75
                 go_wp2_with (first | ((with_reducible refine gate_callee (f := 20) rfl ?_); refine gl_ (some 79) func20 #[.agg #[.int .i64 (wrap64 (rd l0 1)), .int .i64 (wrap64 (rd l0 2)), .int .i64 (wrap64 (t374)), .slice Ao75 x386003_2.length co75, .bool t376, .bool t377, .int .u64 t378, .int .u64 t379, .int .u64 t380, .int .u64 t381, .int .u64 t382, .int .u64 t383, .int .i64 t384]] ?_; (with_reducible refine (medlarref16_Bytes.calls k2 (wrap64 (rd l0 1)) (wrap64 (rd l0 2)) (wrap64 (t374)) _ _ x386003_2 t376 t377 t378 t379 t380 t381 t382 t383 t384 t403 t406 _ ?side1 ?side2 A62.out).mono ?_); (case side1 => repeat (first | exact (Kd.R_reads' HO_386003.out).2.2 | (with_reducible refine Kd.C_alloc ?_ _) | (with_reducible refine Kd.C_drewN ?_ _) | (with_reducible refine Kd.C_drew ?_))); (case side2 => exact (Kd.R_reads' HO_386003.out).2.1); rintro e w76 ⟨v404, rfl, ho0, hb⟩; refine ⟨_, rfl, ?_⟩; replace HO_386003 := ak_ (Kd.R_below (rl_ HO_386003) hb); have HO405 := ak_ (Kd.R_lower ho0 (bz_ (bw2_ HB GE370 GE385))); replace BK370 := ak_ (kb_ (kl_ BK370) hb); replace BK385 := ak_ (kb_ (kl_ BK385) hb); replace HB := ak_ (bt_ (bw2_ HB GE370 GE385) hb); (try clear hb); (try clear hk); (try clear ho0); have hcv77 := own_string (P := Try.prog) underlying35 underlying5 underlying9 (Kd.own_of_R HO405.out); have hcv78 := Kd.C_string (P := Try.prog) (A := (some ad371)) (c := c0) underlying35 underlying5 underlying9 (Kd.C_below HR0.out HB.out); obtain ⟨hcz79_0, hcz79_1, hcz79_2, hcz79_3, hcz79_4, hcz79_5, hcz79_6, hcz79_7, hcz79_8, hcz79_9, hcz79_10, hcz79_11, hcz79_12, hfz79_0, hfz79_1, hfz79_2, hfz79_3, hfz79_4, hfz79_5, hfz79_6, hfz79_7, hfz79_8, hfz79_9, hfz79_10, hfz79_11, hfz79_12⟩ := kc13_ BK370.out))
                 refine bodyPost_ret (results_ct rfl _ _ gb370 31 #[.int .i64 0, .int .i64 0, .int .i64 0, .slice none 0 0, .bool false, .bool false, .int .u64 0, .int .u64 0, .int .u64 0, .int .u64 0, .int .u64 0, .int .u64 0, .int .i64 0] (0, 0) _ rfl (by (with_reducible repeat (first | refine kn_ ?_ _ | refine kd_ ?_ | refine ka_ ?_ _)); exact sC_blk BK370.out rfl rfl) underlying31 rfl (by kernel_rfl)) rfl ?_
                 exact ⟨_, by first | rfl | (simp <;> rfl) | (simp only [← hji15]; first | rfl | (simp <;> rfl)) | (simp [*] <;> rfl), by first | exact Kd.R_nil _ _ _ _ _ | exact Kd.N_nil _ _ _ _ _ | exact Kd.V_nil _ _ _ _ _ | exact Kd.Q_nil _ _ _ _ _ | exact Kd.S_nil _ _ _ _ _, bw2_ HB GE370 GE385⟩
               ·rw [if_neg c63] at H
                have c63b0 : (t406 == 0) = false := beq_eq_false_iff_ne.mpr c63
                have c63b1 : (t406 != 0) = true := bne_iff_ne.mpr c63
                simp only [some.injEq, Prod.mk.injEq] at H
                obtain ⟨rfl, rfl, rfl, rfl, rfl, rfl, rfl, rfl, rfl, rfl, rfl, rfl, rfl, rfl⟩ := H
                have hnb80 := NB385_370.out
                have hnc80 := NB370_385.out
                obtain ⟨hcz81_0, hcz81_1, hcz81_2, hcz81_3, hcz81_4, hcz81_5, hcz81_6, hcz81_7, hcz81_8, hcz81_9, hcz81_10, hcz81_11, hcz81_12, hfz81_0, hfz81_1, hfz81_2, hfz81_3, hfz81_4, hfz81_5, hfz81_6, hfz81_7, hfz81_8, hfz81_9, hfz81_10, hfz81_11, hfz81_12⟩ := kc13_ BK385.out
                obtain ⟨Ao82, co82, eo82⟩ := Kd.R_slice HO_386003.out
                obtain ⟨Ao82, co82, eo82⟩ := Kd.R_slice HO_386003.out
                subst eo82
                go_wp2_with (first | ((with_reducible refine gate_callee (f := 20) rfl ?_); refine gl_ (some 79) func20 #[.agg #[.int .i64 (wrap64 (rd l0 1)), .int .i64 (wrap64 (rd l0 2)), .int .i64 (wrap64 (t374)), .slice Ao82 x386003_2.length co82, .bool t376, .bool t377, .int .u64 t378, .int .u64 t379, .int .u64 t380, .int .u64 t381, .int .u64 t382, .int .u64 t383, .int .i64 t384]] ?_; (with_reducible refine (medlarref16_Bytes.calls k2 (wrap64 (rd l0 1)) (wrap64 (rd l0 2)) (wrap64 (t374)) _ _ x386003_2 t376 t377 t378 t379 t380 t381 t382 t383 t384 t403 t406 _ ?side1 ?side2 A62.out).mono ?_); (case side1 => repeat (first | exact (Kd.R_reads' HO_386003.out).2.2 | (with_reducible refine Kd.C_alloc ?_ _) | (with_reducible refine Kd.C_drewN ?_ _) | (with_reducible refine Kd.C_drew ?_))); (case side2 => exact (Kd.R_reads' HO_386003.out).2.1); rintro e w83 ⟨v404, rfl, ho0, hb⟩; refine ⟨_, rfl, ?_⟩; replace HO_386003 := ak_ (Kd.R_below (rl_ HO_386003) hb); have HO405 := ak_ (Kd.R_lower ho0 (bz_ (bw2_ HB GE370 GE385))); replace BK370 := ak_ (kb_ (kl_ BK370) hb); replace BK385 := ak_ (kb_ (kl_ BK385) hb); replace HB := ak_ (bt_ (bw2_ HB GE370 GE385) hb); (try clear hb); (try clear hk); (try clear ho0); obtain ⟨hcz84_0, hcz84_1, hcz84_2, hcz84_3, hcz84_4, hcz84_5, hcz84_6, hcz84_7, hcz84_8, hcz84_9, hcz84_10, hcz84_11, hcz84_12, hfz84_0, hfz84_1, hfz84_2, hfz84_3, hfz84_4, hfz84_5, hfz84_6, hfz84_7, hfz84_8, hfz84_9, hfz84_10, hfz84_11, hfz84_12⟩ := kc13_ BK370.out))
                refine bodyPost_ret (results_ct rfl _ _ gb370 31 #[.int .i64 0, .int .i64 0, .int .i64 0, .slice none 0 0, .bool false, .bool false, .int .u64 0, .int .u64 0, .int .u64 0, .int .u64 0, .int .u64 0, .int .u64 0, .int .i64 0] (0, 0) _ rfl (by (with_reducible repeat (first | refine kn_ ?_ _ | refine kd_ ?_ | refine ka_ ?_ _)); exact sC_blk BK370.out rfl rfl) underlying31 rfl (by kernel_rfl)) rfl ?_
                exact ⟨_, by first | rfl | (simp <;> rfl) | (simp only [← hji15]; first | rfl | (simp <;> rfl)) | (simp [*] <;> rfl), by first | exact Kd.R_nil _ _ _ _ _ | exact Kd.N_nil _ _ _ _ _ | exact Kd.V_nil _ _ _ _ _ | exact Kd.Q_nil _ _ _ _ _ | exact Kd.S_nil _ _ _ _ _, bw2_ HB GE370 GE385⟩
           ·rw [if_neg c17] at H
            exact absurd H (by simp)
          ·rw [if_neg c16] at H
           exact absurd H (by simp)
         ·rw [if_neg c13] at H
          exact absurd H (by simp)
        ·rw [if_neg c12] at H
         exact absurd H (by simp)
       ·rw [if_neg c11] at H
        exact absurd H (by simp)
      ·rw [if_neg c10] at H
       exact absurd H (by simp)
def medlarref16_Length.f (a0 : Int) : Option (Int × Int) := if a0 < 0 then (some (0, 1)) else (if a0 > 32768 then (some (0, 1)) else (some (wrap64 (47 + (wrap64 (48 * a0))), 0)))
set_option maxHeartbeats 8000000 in
set_option maxRecDepth 100000 in
theorem medlarref16_Length.calls (a0 : Int) (r1 : Int) (r2 : Int) (w : World) (h : medlarref16_Length.f a0 = some (r1, r2)) :
   Calls Try.prog 22 #[.int .i64 a0] w fun e w' => e = .returned (.tuple #[.int .i64 r1, .int .i64 r2]) ∧ Drawn0 w w' := by
  have H : (if a0 < 0 then (some (0, 1)) else (if a0 > 32768 then (some (0, 1)) else (some (wrap64 (47 + (wrap64 (48 * a0))), 0)))) = some (r1, r2) := h
  clear h
  by_cases c2 : a0 < 0
  ·rw [if_pos c2] at H
   have c2b0 := decide_eq_true c2
   clear c2
   simp only [some.injEq, Prod.mk.injEq] at H
   obtain ⟨rfl, rfl⟩ := H
   go_enter func22, ntmps22
   go_wp2
   go_ret2
   exact ⟨by first | rfl | (simp; done) | (simp [*]; done), by repeat (first | exact Drawn0.refl _ | apply Drawn0.step)⟩
  ·rw [if_neg c2] at H
   have c2b0 := decide_eq_false c2
   clear c2
   by_cases c3 : a0 > 32768
   ·rw [if_pos c3] at H
    have c3b0 : decide (32768 < a0) = true := decide_eq_true c3
    clear c3
    simp only [some.injEq, Prod.mk.injEq] at H
    obtain ⟨rfl, rfl⟩ := H
    go_enter func22, ntmps22
    go_wp2
    go_ret2
    exact ⟨by first | rfl | (simp; done) | (simp [*]; done), by repeat (first | exact Drawn0.refl _ | apply Drawn0.step)⟩
   ·rw [if_neg c3] at H
    have c3b0 : decide (32768 < a0) = false := decide_eq_false c3
    clear c3
    simp only [some.injEq, Prod.mk.injEq] at H
    obtain ⟨rfl, rfl⟩ := H
    go_enter func22, ntmps22
    go_wp2
    go_ret2
    exact ⟨by first | rfl | (simp; done) | (simp [*]; done), by repeat (first | exact Drawn0.refl _ | apply Drawn0.step)⟩
def medlarref16_SameBytes.f (l0 : List Int) (l1 : List Int) : Option (Bool) := some ((strOfNums l0).toList == (strOfNums l1).toList)
set_option maxHeartbeats 8000000 in
set_option maxRecDepth 100000 in
theorem medlarref16_SameBytes.calls (A0 : Option Addr) (c0 : Nat) (l0 : List Int) (A1 : Option Addr) (c1 : Nat) (l1 : List Int) (r : Bool) (w : World) (hr0 : Kd.C (Kd.int .u8) w A0 l0.length l0) (hc0 : l0.length ≤ c0) (hr1 : Kd.C (Kd.int .u8) w A1 l1.length l1) (hc1 : l1.length ≤ c1) (h : medlarref16_SameBytes.f l0 l1 = some r) :
   Calls Try.prog 23 #[.slice A0 l0.length c0, .slice A1 l1.length c1] w fun e w' => e = .returned (.bool r) ∧ Drawn0 w w' := by
  have HR0 := ak_ hr0
  have HC0 := ak_ hc0
  clear hr0 hc0
  have HR1 := ak_ hr1
  have HC1 := ak_ hc1
  clear hr1 hc1
  have H : (some ((strOfNums l0).toList == (strOfNums l1).toList)) = some r := h
  clear h
  obtain rfl := Option.some.inj H
  have hcv3 := Kd.C_string (P := Try.prog) (A := A0) (c := c0) underlying35 underlying5 underlying9 HR0.out
  have hcv4 := Kd.C_string (P := Try.prog) (A := A1) (c := c1) underlying35 underlying5 underlying9 HR1.out
  go_enter func23, ntmps23
  go_wp2
  go_ret
  exact ⟨by first | rfl | (simp; done) | (simp [*]; done), by repeat (first | exact Drawn0.refl _ | apply Drawn0.step)⟩
mutual
def medlarref16_Same.j0 : Nat → Bool → Int → Int → Int → List (S41) → Bool → Bool → Int → Int → Int → Int → Int → Int → Int → Int → Int → Int → List (S41) → Bool → Bool → Int → Int → Int → Int → Int → Int → Int → Option (Bool)
  | 0, _, _, _, _, _, _, _, _, _, _, _, _, _, _, _, _, _, _, _, _, _, _, _, _, _, _, _ => none
  | k + 1, x40, x408000, x408001, x408002, x408003, x408004, x408005, x408006, x408007, x408008, x408009, x408010, x408011, x408012, x409000, x409001, x409002, x409003, x409004, x409005, x409006, x409007, x409008, x409009, x409010, x409011, x409012 => if x40 = true then (some false) else (medlarref16_Same.l0 k (x408003.length : Int) 0 x408000 x408001 x408002 x408003 x408004 x408005 x408006 x408007 x408008 x408009 x408010 x408011 x408012 x409000 x409001 x409002 x409003 x409004 x409005 x409006 x409007 x409008 x409009 x409010 x409011 x409012)
def medlarref16_Same.l0 : Nat → Int → Int → Int → Int → Int → List (S41) → Bool → Bool → Int → Int → Int → Int → Int → Int → Int → Int → Int → Int → List (S41) → Bool → Bool → Int → Int → Int → Int → Int → Int → Int → Option (Bool)
  | 0, _, _, _, _, _, _, _, _, _, _, _, _, _, _, _, _, _, _, _, _, _, _, _, _, _, _, _, _ => none
  | k + 1, x43, x44, x408000, x408001, x408002, x408003, x408004, x408005, x408006, x408007, x408008, x408009, x408010, x408011, x408012, x409000, x409001, x409002, x409003, x409004, x409005, x409006, x409007, x409008, x409009, x409010, x409011, x409012 => if x44 < x43 then (if 0 ≤ x44 then (if x44 < (x408003.length : Int) then (if x44 < (x409003.length : Int) then (if ((!(((rd_T41 x408003 x44).f0.f0) == ((rd_T41 x409003 x44).f0.f0)) || (!(((rd_T41 x408003 x44).f0.f1) == ((rd_T41 x409003 x44).f0.f1)))) || ((!(((rd_T41 x408003 x44).f1.f0) == ((rd_T41 x409003 x44).f1.f0)) || (!(((rd_T41 x408003 x44).f1.f1) == ((rd_T41 x409003 x44).f1.f1)) || ((!(((rd_T41 x408003 x44).f1.f2.f0) == ((rd_T41 x409003 x44).f1.f2.f0)) || (!(((rd_T41 x408003 x44).f1.f2.f1) == ((rd_T41 x409003 x44).f1.f2.f1)))) || (((!(((rd_T41 x408003 x44).f1.f3.f0.f0) == ((rd_T41 x409003 x44).f1.f3.f0.f0)) || (!(((rd_T41 x408003 x44).f1.f3.f0.f1) == ((rd_T41 x409003 x44).f1.f3.f0.f1)))) || ((!(((rd_T41 x408003 x44).f1.f3.f1.f0) == ((rd_T41 x409003 x44).f1.f3.f1.f0)) || (!(((rd_T41 x408003 x44).f1.f3.f1.f1) == ((rd_T41 x409003 x44).f1.f3.f1.f1)))))) || (!(((rd_T41 x408003 x44).f1.f4) == ((rd_T41 x409003 x44).f1.f4))))))))) = true then (some false) else (medlarref16_Same.l0 k x43 (wrap64 (x44 + 1)) x408000 x408001 x408002 x408003 x408004 x408005 x408006 x408007 x408008 x408009 x408010 x408011 x408012 x409000 x409001 x409002 x409003 x409004 x409005 x409006 x409007 x409008 x409009 x409010 x409011 x409012)) else (none)) else (none)) else (none)) else (some true)
end
def medlarref16_Same.f (k : Nat) (a0_0 : Int) (a0_1 : Int) (a0_2 : Int) (l0_3 : List (S41)) (a0_4 : Bool) (a0_5 : Bool) (a0_6 : Int) (a0_7 : Int) (a0_8 : Int) (a0_9 : Int) (a0_10 : Int) (a0_11 : Int) (a0_12 : Int) (a1_0 : Int) (a1_1 : Int) (a1_2 : Int) (l1_3 : List (S41)) (a1_4 : Bool) (a1_5 : Bool) (a1_6 : Int) (a1_7 : Int) (a1_8 : Int) (a1_9 : Int) (a1_10 : Int) (a1_11 : Int) (a1_12 : Int) : Option (Bool) := if a0_0 = a1_0 then (if a0_1 = a1_1 then (if a0_2 = a1_2 then (if (!(a0_4 == a1_4) || (!(a0_5 == a1_5) || ((!(a0_6 == a1_6) || (!(a0_7 == a1_7))) || (((!(a0_8 == a1_8) || (!(a0_9 == a1_9))) || ((!(a0_10 == a1_10) || (!(a0_11 == a1_11))))) || (!(a0_12 == a1_12)))))) = true then (medlarref16_Same.j0 k true a0_0 a0_1 a0_2 l0_3 a0_4 a0_5 a0_6 a0_7 a0_8 a0_9 a0_10 a0_11 a0_12 a1_0 a1_1 a1_2 l1_3 a1_4 a1_5 a1_6 a1_7 a1_8 a1_9 a1_10 a1_11 a1_12) else (medlarref16_Same.j0 k ((l0_3.length : Int) != (l1_3.length : Int)) a0_0 a0_1 a0_2 l0_3 a0_4 a0_5 a0_6 a0_7 a0_8 a0_9 a0_10 a0_11 a0_12 a1_0 a1_1 a1_2 l1_3 a1_4 a1_5 a1_6 a1_7 a1_8 a1_9 a1_10 a1_11 a1_12)) else (medlarref16_Same.j0 k true a0_0 a0_1 a0_2 l0_3 a0_4 a0_5 a0_6 a0_7 a0_8 a0_9 a0_10 a0_11 a0_12 a1_0 a1_1 a1_2 l1_3 a1_4 a1_5 a1_6 a1_7 a1_8 a1_9 a1_10 a1_11 a1_12)) else (medlarref16_Same.j0 k true a0_0 a0_1 a0_2 l0_3 a0_4 a0_5 a0_6 a0_7 a0_8 a0_9 a0_10 a0_11 a0_12 a1_0 a1_1 a1_2 l1_3 a1_4 a1_5 a1_6 a1_7 a1_8 a1_9 a1_10 a1_11 a1_12)) else (medlarref16_Same.j0 k true a0_0 a0_1 a0_2 l0_3 a0_4 a0_5 a0_6 a0_7 a0_8 a0_9 a0_10 a0_11 a0_12 a1_0 a1_1 a1_2 l1_3 a1_4 a1_5 a1_6 a1_7 a1_8 a1_9 a1_10 a1_11 a1_12)
theorem medlarref16_Same.mono_l : ∀ k, (∀ y0 y1 y2 y3 y4 y5 y6 y7 y8 y9 y10 y11 y12 y13 y14 y15 y16 y17 y18 y19 y20 y21 y22 y23 y24 y25 y26, LeO (medlarref16_Same.j0 k y0 y1 y2 y3 y4 y5 y6 y7 y8 y9 y10 y11 y12 y13 y14 y15 y16 y17 y18 y19 y20 y21 y22 y23 y24 y25 y26) (medlarref16_Same.j0 (k + 1) y0 y1 y2 y3 y4 y5 y6 y7 y8 y9 y10 y11 y12 y13 y14 y15 y16 y17 y18 y19 y20 y21 y22 y23 y24 y25 y26)) ∧ (∀ y0 y1 y2 y3 y4 y5 y6 y7 y8 y9 y10 y11 y12 y13 y14 y15 y16 y17 y18 y19 y20 y21 y22 y23 y24 y25 y26 y27, LeO (medlarref16_Same.l0 k y0 y1 y2 y3 y4 y5 y6 y7 y8 y9 y10 y11 y12 y13 y14 y15 y16 y17 y18 y19 y20 y21 y22 y23 y24 y25 y26 y27) (medlarref16_Same.l0 (k + 1) y0 y1 y2 y3 y4 y5 y6 y7 y8 y9 y10 y11 y12 y13 y14 y15 y16 y17 y18 y19 y20 y21 y22 y23 y24 y25 y26 y27))
  | 0 => ⟨fun _ _ _ _ _ _ _ _ _ _ _ _ _ _ _ _ _ _ _ _ _ _ _ _ _ _ _ r h => by simp [medlarref16_Same.j0] at h, fun _ _ _ _ _ _ _ _ _ _ _ _ _ _ _ _ _ _ _ _ _ _ _ _ _ _ _ _ r h => by simp [medlarref16_Same.l0] at h⟩
  | k + 1 => by
   obtain ⟨ih0, ih1⟩ := medlarref16_Same.mono_l k
   refine ⟨?_, ?_⟩
   all_goals intros
   all_goals first | unfold medlarref16_Same.j0 | unfold medlarref16_Same.l0
   all_goals repeat' first | (with_reducible first | exact ih0 .. | exact ih1 .. | exact LeO.refl _ | exact LeO.none _ | refine LeO.ite ?_ ?_ | refine LeO.bind ?_ (fun _ => ?_)) | exact ih0 .. | exact ih1 .. | refine LeO.ite ?_ ?_ | refine LeO.bind ?_ (fun _ => ?_)
theorem medlarref16_Same.mono : ∀ a0 a1 a2 a3 a4 a5 a6 a7 a8 a9 a10 a11 a12 a13 a14 a15 a16 a17 a18 a19 a20 a21 a22 a23 a24 a25 k, LeO (medlarref16_Same.f k a0 a1 a2 a3 a4 a5 a6 a7 a8 a9 a10 a11 a12 a13 a14 a15 a16 a17 a18 a19 a20 a21 a22 a23 a24 a25) (medlarref16_Same.f (k + 1) a0 a1 a2 a3 a4 a5 a6 a7 a8 a9 a10 a11 a12 a13 a14 a15 a16 a17 a18 a19 a20 a21 a22 a23 a24 a25) := by
  intro a0 a1 a2 a3 a4 a5 a6 a7 a8 a9 a10 a11 a12 a13 a14 a15 a16 a17 a18 a19 a20 a21 a22 a23 a24 a25 k
  obtain ⟨ih0, ih1⟩ := medlarref16_Same.mono_l k
  unfold medlarref16_Same.f
  repeat' first | (with_reducible first | exact ih0 .. | exact ih1 .. | exact LeO.refl _ | exact LeO.none _ | refine LeO.ite ?_ ?_ | refine LeO.bind ?_ (fun _ => ?_)) | exact ih0 .. | exact ih1 .. | refine LeO.ite ?_ ?_ | refine LeO.bind ?_ (fun _ => ?_)
set_option maxHeartbeats 8000000 in
set_option maxRecDepth 100000 in
theorem medlarref16_Same.calls (k : Nat) (a0_0 : Int) (a0_1 : Int) (a0_2 : Int) (A0_3 : Option Addr) (c0_3 : Nat) (l0_3 : List (S41)) (a0_4 : Bool) (a0_5 : Bool) (a0_6 : Int) (a0_7 : Int) (a0_8 : Int) (a0_9 : Int) (a0_10 : Int) (a0_11 : Int) (a0_12 : Int) (a1_0 : Int) (a1_1 : Int) (a1_2 : Int) (A1_3 : Option Addr) (c1_3 : Nat) (l1_3 : List (S41)) (a1_4 : Bool) (a1_5 : Bool) (a1_6 : Int) (a1_7 : Int) (a1_8 : Int) (a1_9 : Int) (a1_10 : Int) (a1_11 : Int) (a1_12 : Int) (r : Bool) (w : World) (hr0_3 : Kd.C k41 w A0_3 l0_3.length l0_3) (hc0_3 : l0_3.length ≤ c0_3) (hr1_3 : Kd.C k41 w A1_3 l1_3.length l1_3) (hc1_3 : l1_3.length ≤ c1_3) (h : medlarref16_Same.f k a0_0 a0_1 a0_2 l0_3 a0_4 a0_5 a0_6 a0_7 a0_8 a0_9 a0_10 a0_11 a0_12 a1_0 a1_1 a1_2 l1_3 a1_4 a1_5 a1_6 a1_7 a1_8 a1_9 a1_10 a1_11 a1_12 = some r) :
   Calls Try.prog 24 #[.agg #[.int .i64 a0_0, .int .i64 a0_1, .int .i64 a0_2, .slice A0_3 l0_3.length c0_3, .bool a0_4, .bool a0_5, .int .u64 a0_6, .int .u64 a0_7, .int .u64 a0_8, .int .u64 a0_9, .int .u64 a0_10, .int .u64 a0_11, .int .i64 a0_12], .agg #[.int .i64 a1_0, .int .i64 a1_1, .int .i64 a1_2, .slice A1_3 l1_3.length c1_3, .bool a1_4, .bool a1_5, .int .u64 a1_6, .int .u64 a1_7, .int .u64 a1_8, .int .u64 a1_9, .int .u64 a1_10, .int .u64 a1_11, .int .i64 a1_12]] w fun e w' => e = .returned (.bool r) ∧ Below w.heap.size w w' := by
  have hu31 := underlying31
  have hu29 := underlying29
  have hu41 := underlying41
  have HR0_3 := ak_ hr0_3
  have HC0_3 := ak_ hc0_3
  clear hr0_3 hc0_3
  have HR1_3 := ak_ hr1_3
  have HC1_3 := ak_ hc1_3
  clear hr1_3 hc1_3
  have HB := ak_ (Below.refl w.heap.size w)
  have H : (if a0_0 = a1_0 then (if a0_1 = a1_1 then (if a0_2 = a1_2 then (if (!(a0_4 == a1_4) || (!(a0_5 == a1_5) || ((!(a0_6 == a1_6) || (!(a0_7 == a1_7))) || (((!(a0_8 == a1_8) || (!(a0_9 == a1_9))) || ((!(a0_10 == a1_10) || (!(a0_11 == a1_11))))) || (!(a0_12 == a1_12)))))) = true then (medlarref16_Same.j0 k true a0_0 a0_1 a0_2 l0_3 a0_4 a0_5 a0_6 a0_7 a0_8 a0_9 a0_10 a0_11 a0_12 a1_0 a1_1 a1_2 l1_3 a1_4 a1_5 a1_6 a1_7 a1_8 a1_9 a1_10 a1_11 a1_12) else (medlarref16_Same.j0 k ((l0_3.length : Int) != (l1_3.length : Int)) a0_0 a0_1 a0_2 l0_3 a0_4 a0_5 a0_6 a0_7 a0_8 a0_9 a0_10 a0_11 a0_12 a1_0 a1_1 a1_2 l1_3 a1_4 a1_5 a1_6 a1_7 a1_8 a1_9 a1_10 a1_11 a1_12)) else (medlarref16_Same.j0 k true a0_0 a0_1 a0_2 l0_3 a0_4 a0_5 a0_6 a0_7 a0_8 a0_9 a0_10 a0_11 a0_12 a1_0 a1_1 a1_2 l1_3 a1_4 a1_5 a1_6 a1_7 a1_8 a1_9 a1_10 a1_11 a1_12)) else (medlarref16_Same.j0 k true a0_0 a0_1 a0_2 l0_3 a0_4 a0_5 a0_6 a0_7 a0_8 a0_9 a0_10 a0_11 a0_12 a1_0 a1_1 a1_2 l1_3 a1_4 a1_5 a1_6 a1_7 a1_8 a1_9 a1_10 a1_11 a1_12)) else (medlarref16_Same.j0 k true a0_0 a0_1 a0_2 l0_3 a0_4 a0_5 a0_6 a0_7 a0_8 a0_9 a0_10 a0_11 a0_12 a1_0 a1_1 a1_2 l1_3 a1_4 a1_5 a1_6 a1_7 a1_8 a1_9 a1_10 a1_11 a1_12)) = some r := h
  clear h
  have HC3 := ak_ H
  clear H
  go_enter func24, ntmps24
  go_upto_region 1 with (first | ((with_reducible refine gate_dst (N := 2) rfl ?_); (try (refine gate_guard (by rfl) ?_; dsimp only)); refine bx_ 2 #[.int .i64 a0_0, .int .i64 a0_1, .int .i64 a0_2, .slice A0_3 l0_3.length c0_3, .bool a0_4, .bool a0_5, .int .u64 a0_6, .int .u64 a0_7, .int .u64 a0_8, .int .u64 a0_9, .int .u64 a0_10, .int .u64 a0_11, .int .i64 a0_12] 31 ?_; intro gb407 hg w4 hbox hb; have BK407 := ak_ hbox; have GW407 := ak_ (gs_ hg HB); have GE407 := ak_ (gs_ hg HB); replace HB := ak_ (bt_ (bl_ HB) hb); clear hb hbox hg) | ((with_reducible refine gate_dst (N := 3) rfl ?_); (try (refine gate_guard (by rfl) ?_; dsimp only)); refine bx_ 3 #[.int .i64 a1_0, .int .i64 a1_1, .int .i64 a1_2, .slice A1_3 l1_3.length c1_3, .bool a1_4, .bool a1_5, .int .u64 a1_6, .int .u64 a1_7, .int .u64 a1_8, .int .u64 a1_9, .int .u64 a1_10, .int .u64 a1_11, .int .i64 a1_12] 31 ?_; intro gb408 hg w5 hbox hb; have BK408 := ak_ hbox; have GW408 := ak_ (gw1_ HB GE407 hg); have GE408 := ak_ (gw1_ HB GE407 hg); replace HB := ak_ (bt_ (bw1_ HB GE407) hb); have NB407_408 := ak_ (nl_ hg BK407); have NB408_407 := ak_ (nr_ hg BK407); replace BK407 := ak_ (kb_ (kl_ BK407) hb); clear hb hbox hg))
  repeat (go_quiet (first | ((with_reducible refine gate_dst (N := 2) rfl ?_); (try (refine gate_guard (by rfl) ?_; dsimp only)); refine bx_ 2 #[.int .i64 a0_0, .int .i64 a0_1, .int .i64 a0_2, .slice A0_3 l0_3.length c0_3, .bool a0_4, .bool a0_5, .int .u64 a0_6, .int .u64 a0_7, .int .u64 a0_8, .int .u64 a0_9, .int .u64 a0_10, .int .u64 a0_11, .int .i64 a0_12] 31 ?_; intro gb407 hg w4 hbox hb; have BK407 := ak_ hbox; have GW407 := ak_ (gs_ hg HB); have GE407 := ak_ (gs_ hg HB); replace HB := ak_ (bt_ (bl_ HB) hb); clear hb hbox hg) | ((with_reducible refine gate_dst (N := 3) rfl ?_); (try (refine gate_guard (by rfl) ?_; dsimp only)); refine bx_ 3 #[.int .i64 a1_0, .int .i64 a1_1, .int .i64 a1_2, .slice A1_3 l1_3.length c1_3, .bool a1_4, .bool a1_5, .int .u64 a1_6, .int .u64 a1_7, .int .u64 a1_8, .int .u64 a1_9, .int .u64 a1_10, .int .u64 a1_11, .int .i64 a1_12] 31 ?_; intro gb408 hg w5 hbox hb; have BK408 := ak_ hbox; have GW408 := ak_ (gw1_ HB GE407 hg); have GE408 := ak_ (gw1_ HB GE407 hg); replace HB := ak_ (bt_ (bw1_ HB GE407) hb); have NB407_408 := ak_ (nl_ hg BK407); have NB408_407 := ak_ (nr_ hg BK407); replace BK407 := ak_ (kb_ (kl_ BK407) hb); clear hb hbox hg)); go_upto_region 1 with (first | ((with_reducible refine gate_dst (N := 2) rfl ?_); (try (refine gate_guard (by rfl) ?_; dsimp only)); refine bx_ 2 #[.int .i64 a0_0, .int .i64 a0_1, .int .i64 a0_2, .slice A0_3 l0_3.length c0_3, .bool a0_4, .bool a0_5, .int .u64 a0_6, .int .u64 a0_7, .int .u64 a0_8, .int .u64 a0_9, .int .u64 a0_10, .int .u64 a0_11, .int .i64 a0_12] 31 ?_; intro gb407 hg w4 hbox hb; have BK407 := ak_ hbox; have GW407 := ak_ (gs_ hg HB); have GE407 := ak_ (gs_ hg HB); replace HB := ak_ (bt_ (bl_ HB) hb); clear hb hbox hg) | ((with_reducible refine gate_dst (N := 3) rfl ?_); (try (refine gate_guard (by rfl) ?_; dsimp only)); refine bx_ 3 #[.int .i64 a1_0, .int .i64 a1_1, .int .i64 a1_2, .slice A1_3 l1_3.length c1_3, .bool a1_4, .bool a1_5, .int .u64 a1_6, .int .u64 a1_7, .int .u64 a1_8, .int .u64 a1_9, .int .u64 a1_10, .int .u64 a1_11, .int .i64 a1_12] 31 ?_; intro gb408 hg w5 hbox hb; have BK408 := ak_ hbox; have GW408 := ak_ (gw1_ HB GE407 hg); have GE408 := ak_ (gw1_ HB GE407 hg); replace HB := ak_ (bt_ (bw1_ HB GE407) hb); have NB407_408 := ak_ (nl_ hg BK407); have NB408_407 := ak_ (nr_ hg BK407); replace BK407 := ak_ (kb_ (kl_ BK407) hb); clear hb hbox hg)))
  (try simp only [Act.put, setIfInBounds_toArray, set_cons_zero, set_cons_succ])
  go_cut [40] (fun v40 wc => ∃ (kq : Nat) (x40_2 : Bool), v40 = .bool x40_2 ∧ Aside0 (medlarref16_Same.j0 kq x40_2 a0_0 a0_1 a0_2 l0_3 a0_4 a0_5 a0_6 a0_7 a0_8 a0_9 a0_10 a0_11 a0_12 a1_0 a1_1 a1_2 l1_3 a1_4 a1_5 a1_6 a1_7 a1_8 a1_9 a1_10 a1_11 a1_12 = some r) ∧ Aside0 (kq ≤ k) ∧ Aside0 (wc.heap[gb407]? = some (.cells #[.int .i64 a0_0, .int .i64 a0_1, .int .i64 a0_2, (.slice A0_3 l0_3.length c0_3), .bool a0_4, .bool a0_5, .int .u64 a0_6, .int .u64 a0_7, .int .u64 a0_8, .int .u64 a0_9, .int .u64 a0_10, .int .u64 a0_11, .int .i64 a0_12] 31 (0, 0))) ∧ Aside0 (wc.heap[gb408]? = some (.cells #[.int .i64 a1_0, .int .i64 a1_1, .int .i64 a1_2, (.slice A1_3 l1_3.length c1_3), .bool a1_4, .bool a1_5, .int .u64 a1_6, .int .u64 a1_7, .int .u64 a1_8, .int .u64 a1_9, .int .u64 a1_10, .int .u64 a1_11, .int .i64 a1_12] 31 (0, 0))) ∧ Aside0 (Below w.heap.size w wc))
  case first =>
   have H := HC3.out
   clear HC3
   by_cases c6 : a0_0 = a1_0
   ·rw [if_pos c6] at H
    have c6b0 : (a0_0 == a1_0) = true := beq_iff_eq.mpr c6
    have c6b1 : (a0_0 != a1_0) = false := bne_eq_false_iff_eq.mpr c6
    clear c6
    (first | rw [c6b0] | (simp only [i64_w, i32_w]; rw [c6b0]) | skip)
    by_cases c7 : a0_1 = a1_1
    ·rw [if_pos c7] at H
     have c7b0 : (a0_1 == a1_1) = true := beq_iff_eq.mpr c7
     have c7b1 : (a0_1 != a1_1) = false := bne_eq_false_iff_eq.mpr c7
     clear c7
     by_cases c8 : a0_2 = a1_2
     ·rw [if_pos c8] at H
      have c8b0 : (a0_2 == a1_2) = true := beq_iff_eq.mpr c8
      have c8b1 : (a0_2 != a1_2) = false := bne_eq_false_iff_eq.mpr c8
      clear c8
      by_cases c9 : (!(a0_4 == a1_4) || (!(a0_5 == a1_5) || ((!(a0_6 == a1_6) || (!(a0_7 == a1_7))) || (((!(a0_8 == a1_8) || (!(a0_9 == a1_9))) || ((!(a0_10 == a1_10) || (!(a0_11 == a1_11))))) || (!(a0_12 == a1_12)))))) = true
      ·rw [if_pos c9] at H
       have c9b0 : (!(a0_4 == a1_4) || (!(a0_5 == a1_5) || ((!(a0_6 == a1_6) || (!(a0_7 == a1_7))) || (((!(a0_8 == a1_8) || (!(a0_9 == a1_9))) || ((!(a0_10 == a1_10) || (!(a0_11 == a1_11))))) || (!(a0_12 == a1_12)))))) = true := c9
       clear c9
       have H' := ak_ H
       clear H
       have hnb10 := NB407_408.out
       have hnc10 := NB408_407.out
       obtain ⟨hcz11_0, hcz11_1, hcz11_2, hcz11_3, hcz11_4, hcz11_5, hcz11_6, hcz11_7, hcz11_8, hcz11_9, hcz11_10, hcz11_11, hcz11_12, hfz11_0, hfz11_1, hfz11_2, hfz11_3, hfz11_4, hfz11_5, hfz11_6, hfz11_7, hfz11_8, hfz11_9, hfz11_10, hfz11_11, hfz11_12⟩ := kc13_ BK407.out
       obtain ⟨hcz12_0, hcz12_1, hcz12_2, hcz12_3, hcz12_4, hcz12_5, hcz12_6, hcz12_7, hcz12_8, hcz12_9, hcz12_10, hcz12_11, hcz12_12, hfz12_0, hfz12_1, hfz12_2, hfz12_3, hfz12_4, hfz12_5, hfz12_6, hfz12_7, hfz12_8, hfz12_9, hfz12_10, hfz12_11, hfz12_12⟩ := kc13_ BK408.out
       go_wp2
       go_wp2
       repeat (go_quiet (fail); try go_wp2)
       go_meet
       case rel => exact ⟨_, (true), rf_, H', ⟨by first | omega | exact Nat.le_refl _⟩, ⟨kl_ BK407⟩, ⟨kl_ BK408⟩, ⟨bw2_ HB GE407 GE408⟩⟩
      ·rw [if_neg c9] at H
       have c9b0 : (!(a0_4 == a1_4) || (!(a0_5 == a1_5) || ((!(a0_6 == a1_6) || (!(a0_7 == a1_7))) || (((!(a0_8 == a1_8) || (!(a0_9 == a1_9))) || ((!(a0_10 == a1_10) || (!(a0_11 == a1_11))))) || (!(a0_12 == a1_12)))))) = false := by simpa using c9
       clear c9
       have H' := ak_ H
       clear H
       have hnb13 := NB407_408.out
       have hnc13 := NB408_407.out
       obtain ⟨hcz14_0, hcz14_1, hcz14_2, hcz14_3, hcz14_4, hcz14_5, hcz14_6, hcz14_7, hcz14_8, hcz14_9, hcz14_10, hcz14_11, hcz14_12, hfz14_0, hfz14_1, hfz14_2, hfz14_3, hfz14_4, hfz14_5, hfz14_6, hfz14_7, hfz14_8, hfz14_9, hfz14_10, hfz14_11, hfz14_12⟩ := kc13_ BK407.out
       obtain ⟨hcz15_0, hcz15_1, hcz15_2, hcz15_3, hcz15_4, hcz15_5, hcz15_6, hcz15_7, hcz15_8, hcz15_9, hcz15_10, hcz15_11, hcz15_12, hfz15_0, hfz15_1, hfz15_2, hfz15_3, hfz15_4, hfz15_5, hfz15_6, hfz15_7, hfz15_8, hfz15_9, hfz15_10, hfz15_11, hfz15_12⟩ := kc13_ BK408.out
       go_wp2
       go_wp2
       repeat (go_quiet (fail); try go_wp2)
       go_meet
       case rel => exact ⟨_, (((l0_3.length : Int) != (l1_3.length : Int))), rf_, H', ⟨by first | omega | exact Nat.le_refl _⟩, ⟨kl_ BK407⟩, ⟨kl_ BK408⟩, ⟨bw2_ HB GE407 GE408⟩⟩
     ·rw [if_neg c8] at H
      have c8b0 : (a0_2 == a1_2) = false := beq_eq_false_iff_ne.mpr c8
      have c8b1 : (a0_2 != a1_2) = true := bne_iff_ne.mpr c8
      have H' := ak_ H
      clear H
      have hnb16 := NB407_408.out
      have hnc16 := NB408_407.out
      obtain ⟨hcz17_0, hcz17_1, hcz17_2, hcz17_3, hcz17_4, hcz17_5, hcz17_6, hcz17_7, hcz17_8, hcz17_9, hcz17_10, hcz17_11, hcz17_12, hfz17_0, hfz17_1, hfz17_2, hfz17_3, hfz17_4, hfz17_5, hfz17_6, hfz17_7, hfz17_8, hfz17_9, hfz17_10, hfz17_11, hfz17_12⟩ := kc13_ BK407.out
      obtain ⟨hcz18_0, hcz18_1, hcz18_2, hcz18_3, hcz18_4, hcz18_5, hcz18_6, hcz18_7, hcz18_8, hcz18_9, hcz18_10, hcz18_11, hcz18_12, hfz18_0, hfz18_1, hfz18_2, hfz18_3, hfz18_4, hfz18_5, hfz18_6, hfz18_7, hfz18_8, hfz18_9, hfz18_10, hfz18_11, hfz18_12⟩ := kc13_ BK408.out
      go_wp2
      go_wp2
      repeat (go_quiet (fail); try go_wp2)
      go_meet
      case rel => exact ⟨_, (true), rf_, H', ⟨by first | omega | exact Nat.le_refl _⟩, ⟨kl_ BK407⟩, ⟨kl_ BK408⟩, ⟨bw2_ HB GE407 GE408⟩⟩
    ·rw [if_neg c7] at H
     have c7b0 : (a0_1 == a1_1) = false := beq_eq_false_iff_ne.mpr c7
     have c7b1 : (a0_1 != a1_1) = true := bne_iff_ne.mpr c7
     have H' := ak_ H
     clear H
     have hnb19 := NB407_408.out
     have hnc19 := NB408_407.out
     obtain ⟨hcz20_0, hcz20_1, hcz20_2, hcz20_3, hcz20_4, hcz20_5, hcz20_6, hcz20_7, hcz20_8, hcz20_9, hcz20_10, hcz20_11, hcz20_12, hfz20_0, hfz20_1, hfz20_2, hfz20_3, hfz20_4, hfz20_5, hfz20_6, hfz20_7, hfz20_8, hfz20_9, hfz20_10, hfz20_11, hfz20_12⟩ := kc13_ BK407.out
     obtain ⟨hcz21_0, hcz21_1, hcz21_2, hcz21_3, hcz21_4, hcz21_5, hcz21_6, hcz21_7, hcz21_8, hcz21_9, hcz21_10, hcz21_11, hcz21_12, hfz21_0, hfz21_1, hfz21_2, hfz21_3, hfz21_4, hfz21_5, hfz21_6, hfz21_7, hfz21_8, hfz21_9, hfz21_10, hfz21_11, hfz21_12⟩ := kc13_ BK408.out
     go_wp2
     go_wp2
     repeat (go_quiet (fail); try go_wp2)
     go_meet
     case rel => exact ⟨_, (true), rf_, H', ⟨by first | omega | exact Nat.le_refl _⟩, ⟨kl_ BK407⟩, ⟨kl_ BK408⟩, ⟨bw2_ HB GE407 GE408⟩⟩
   ·rw [if_neg c6] at H
    have c6b0 : (a0_0 == a1_0) = false := beq_eq_false_iff_ne.mpr c6
    have c6b1 : (a0_0 != a1_0) = true := bne_iff_ne.mpr c6
    (first | rw [c6b0] | (simp only [i64_w, i32_w]; rw [c6b0]) | skip)
    have H' := ak_ H
    clear H
    have hnb22 := NB407_408.out
    have hnc22 := NB408_407.out
    obtain ⟨hcz23_0, hcz23_1, hcz23_2, hcz23_3, hcz23_4, hcz23_5, hcz23_6, hcz23_7, hcz23_8, hcz23_9, hcz23_10, hcz23_11, hcz23_12, hfz23_0, hfz23_1, hfz23_2, hfz23_3, hfz23_4, hfz23_5, hfz23_6, hfz23_7, hfz23_8, hfz23_9, hfz23_10, hfz23_11, hfz23_12⟩ := kc13_ BK407.out
    obtain ⟨hcz24_0, hcz24_1, hcz24_2, hcz24_3, hcz24_4, hcz24_5, hcz24_6, hcz24_7, hcz24_8, hcz24_9, hcz24_10, hcz24_11, hcz24_12, hfz24_0, hfz24_1, hfz24_2, hfz24_3, hfz24_4, hfz24_5, hfz24_6, hfz24_7, hfz24_8, hfz24_9, hfz24_10, hfz24_11, hfz24_12⟩ := kc13_ BK408.out
    go_wp2
    go_wp2
    repeat (go_quiet (fail); try go_wp2)
    go_meet
    case rel => exact ⟨_, (true), rf_, H', ⟨by first | omega | exact Nat.le_refl _⟩, ⟨kl_ BK407⟩, ⟨kl_ BK408⟩, ⟨bw2_ HB GE407 GE408⟩⟩
  case rest =>
   clear HC3
   try clear c1
   try clear c2
   try clear p2
   try clear c6
   try clear c6b0
   try clear c6b1
   try clear c7
   try clear c7b0
   try clear c7b1
   try clear c8
   try clear c8b0
   try clear c8b1
   try clear c9
   try clear c9b0
   try clear c10
   try clear c13
   try clear c16
   try clear c19
   try clear c22
   try clear c24
   try clear hcz11_0 hcz11_1 hcz11_10 hcz11_11 hcz11_12 hcz11_2 hcz11_3 hcz11_4 hcz11_5 hcz11_6 hcz11_7 hcz11_8 hcz11_9
   try clear hcz12_0 hcz12_1 hcz12_10 hcz12_11 hcz12_12 hcz12_2 hcz12_3 hcz12_4 hcz12_5 hcz12_6 hcz12_7 hcz12_8 hcz12_9
   try clear hcz14_0 hcz14_1 hcz14_10 hcz14_11 hcz14_12 hcz14_2 hcz14_3 hcz14_4 hcz14_5 hcz14_6 hcz14_7 hcz14_8 hcz14_9
   try clear hcz15_0 hcz15_1 hcz15_10 hcz15_11 hcz15_12 hcz15_2 hcz15_3 hcz15_4 hcz15_5 hcz15_6 hcz15_7 hcz15_8 hcz15_9
   try clear hcz17_0 hcz17_1 hcz17_10 hcz17_11 hcz17_12 hcz17_2 hcz17_3 hcz17_4 hcz17_5 hcz17_6 hcz17_7 hcz17_8 hcz17_9
   try clear hcz18_0 hcz18_1 hcz18_10 hcz18_11 hcz18_12 hcz18_2 hcz18_3 hcz18_4 hcz18_5 hcz18_6 hcz18_7 hcz18_8 hcz18_9
   try clear hcz20_0 hcz20_1 hcz20_10 hcz20_11 hcz20_12 hcz20_2 hcz20_3 hcz20_4 hcz20_5 hcz20_6 hcz20_7 hcz20_8 hcz20_9
   try clear hcz21_0 hcz21_1 hcz21_10 hcz21_11 hcz21_12 hcz21_2 hcz21_3 hcz21_4 hcz21_5 hcz21_6 hcz21_7 hcz21_8 hcz21_9
   try clear hcz23_0 hcz23_1 hcz23_10 hcz23_11 hcz23_12 hcz23_2 hcz23_3 hcz23_4 hcz23_5 hcz23_6 hcz23_7 hcz23_8 hcz23_9
   try clear hcz24_0 hcz24_1 hcz24_10 hcz24_11 hcz24_12 hcz24_2 hcz24_3 hcz24_4 hcz24_5 hcz24_6 hcz24_7 hcz24_8 hcz24_9
   try clear hfz11_0 hfz11_1 hfz11_10 hfz11_11 hfz11_12 hfz11_2 hfz11_3 hfz11_4 hfz11_5 hfz11_6 hfz11_7 hfz11_8 hfz11_9
   try clear hfz12_0 hfz12_1 hfz12_10 hfz12_11 hfz12_12 hfz12_2 hfz12_3 hfz12_4 hfz12_5 hfz12_6 hfz12_7 hfz12_8 hfz12_9
   try clear hfz14_0 hfz14_1 hfz14_10 hfz14_11 hfz14_12 hfz14_2 hfz14_3 hfz14_4 hfz14_5 hfz14_6 hfz14_7 hfz14_8 hfz14_9
   try clear hfz15_0 hfz15_1 hfz15_10 hfz15_11 hfz15_12 hfz15_2 hfz15_3 hfz15_4 hfz15_5 hfz15_6 hfz15_7 hfz15_8 hfz15_9
   try clear hfz17_0 hfz17_1 hfz17_10 hfz17_11 hfz17_12 hfz17_2 hfz17_3 hfz17_4 hfz17_5 hfz17_6 hfz17_7 hfz17_8 hfz17_9
   try clear hfz18_0 hfz18_1 hfz18_10 hfz18_11 hfz18_12 hfz18_2 hfz18_3 hfz18_4 hfz18_5 hfz18_6 hfz18_7 hfz18_8 hfz18_9
   try clear hfz20_0 hfz20_1 hfz20_10 hfz20_11 hfz20_12 hfz20_2 hfz20_3 hfz20_4 hfz20_5 hfz20_6 hfz20_7 hfz20_8 hfz20_9
   try clear hfz21_0 hfz21_1 hfz21_10 hfz21_11 hfz21_12 hfz21_2 hfz21_3 hfz21_4 hfz21_5 hfz21_6 hfz21_7 hfz21_8 hfz21_9
   try clear hfz23_0 hfz23_1 hfz23_10 hfz23_11 hfz23_12 hfz23_2 hfz23_3 hfz23_4 hfz23_5 hfz23_6 hfz23_7 hfz23_8 hfz23_9
   try clear hfz24_0 hfz24_1 hfz24_10 hfz24_11 hfz24_12 hfz24_2 hfz24_3 hfz24_4 hfz24_5 hfz24_6 hfz24_7 hfz24_8 hfz24_9
   obtain ⟨kq, x40_2, rfl, HA, HJ2, BK407, BK408, HB⟩ := hcut
   cases kq with
   | zero => exact absurd HA.out (by simp [medlarref16_Same.j0])
   | succ kj2 =>
    have H := HA.out
    clear HA
    simp only [medlarref16_Same.j0] at H
    by_cases c25 : x40_2 = true
    ·subst c25
     have H1 : (some false) = some r := by rw [if_pos rfl] at H; exact H
     clear H
     have H := H1
     clear H1
     obtain rfl := Option.some.inj H
     go_wp2
     repeat (go_quiet (fail); try go_wp2)
     go_ret
     exact ea_ (bw2_ HB GE407 GE408)
    ·replace c25 := Bool.eq_false_iff.mpr c25
     subst c25
     have H1 : (medlarref16_Same.l0 kj2 (l0_3.length : Int) 0 a0_0 a0_1 a0_2 l0_3 a0_4 a0_5 a0_6 a0_7 a0_8 a0_9 a0_10 a0_11 a0_12 a1_0 a1_1 a1_2 l1_3 a1_4 a1_5 a1_6 a1_7 a1_8 a1_9 a1_10 a1_11 a1_12) = some r := by rw [if_neg (show ¬ (false = true) by decide)] at H; exact H
     clear H
     have H := H1
     clear H1
     have H' := ak_ H
     clear H
     have hnb26 := NB407_408.out
     have hnc26 := NB408_407.out
     obtain ⟨hcz27_0, hcz27_1, hcz27_2, hcz27_3, hcz27_4, hcz27_5, hcz27_6, hcz27_7, hcz27_8, hcz27_9, hcz27_10, hcz27_11, hcz27_12, hfz27_0, hfz27_1, hfz27_2, hfz27_3, hfz27_4, hfz27_5, hfz27_6, hfz27_7, hfz27_8, hfz27_9, hfz27_10, hfz27_11, hfz27_12⟩ := kc13_ BK407.out
     go_wp2
     go_wp2
     repeat (go_quiet (fail); try go_wp2)
     go_loopg [44] kj2 (fun kq v44 w' => ∃ (x44_2 : Int), v44 = .int .i64 x44_2 ∧ Aside0 (medlarref16_Same.l0 kq (l0_3.length : Int) x44_2 a0_0 a0_1 a0_2 l0_3 a0_4 a0_5 a0_6 a0_7 a0_8 a0_9 a0_10 a0_11 a0_12 a1_0 a1_1 a1_2 l1_3 a1_4 a1_5 a1_6 a1_7 a1_8 a1_9 a1_10 a1_11 a1_12 = some r) ∧ Aside0 (kq ≤ kj2) ∧ Aside0 (w'.heap[gb407]? = some (.cells #[.int .i64 a0_0, .int .i64 a0_1, .int .i64 a0_2, (.slice A0_3 l0_3.length c0_3), .bool a0_4, .bool a0_5, .int .u64 a0_6, .int .u64 a0_7, .int .u64 a0_8, .int .u64 a0_9, .int .u64 a0_10, .int .u64 a0_11, .int .i64 a0_12] 31 (0, 0))) ∧ Aside0 (w'.heap[gb408]? = some (.cells #[.int .i64 a1_0, .int .i64 a1_1, .int .i64 a1_2, (.slice A1_3 l1_3.length c1_3), .bool a1_4, .bool a1_5, .int .u64 a1_6, .int .u64 a1_7, .int .u64 a1_8, .int .u64 a1_9, .int .u64 a1_10, .int .u64 a1_11, .int .i64 a1_12] 31 (0, 0))) ∧ Aside0 (Below w.heap.size w w'))
     case atStart => exact ⟨(0), rf_, H', ⟨Nat.le_refl _⟩, ⟨kl_ BK407⟩, ⟨kl_ BK408⟩, ⟨bw2_ HB GE407 GE408⟩⟩
     case round =>
      clear H'
      try clear c1
      try clear c2
      try clear p2
      try clear c6
      try clear c6b0
      try clear c6b1
      try clear c7
      try clear c7b0
      try clear c7b1
      try clear c8
      try clear c8b0
      try clear c8b1
      try clear c9
      try clear c9b0
      try clear c10
      try clear c13
      try clear c16
      try clear c19
      try clear c22
      try clear c24
      try clear c25
      try clear c26
      try clear hcz11_0 hcz11_1 hcz11_10 hcz11_11 hcz11_12 hcz11_2 hcz11_3 hcz11_4 hcz11_5 hcz11_6 hcz11_7 hcz11_8 hcz11_9
      try clear hcz12_0 hcz12_1 hcz12_10 hcz12_11 hcz12_12 hcz12_2 hcz12_3 hcz12_4 hcz12_5 hcz12_6 hcz12_7 hcz12_8 hcz12_9
      try clear hcz14_0 hcz14_1 hcz14_10 hcz14_11 hcz14_12 hcz14_2 hcz14_3 hcz14_4 hcz14_5 hcz14_6 hcz14_7 hcz14_8 hcz14_9
      try clear hcz15_0 hcz15_1 hcz15_10 hcz15_11 hcz15_12 hcz15_2 hcz15_3 hcz15_4 hcz15_5 hcz15_6 hcz15_7 hcz15_8 hcz15_9
      try clear hcz17_0 hcz17_1 hcz17_10 hcz17_11 hcz17_12 hcz17_2 hcz17_3 hcz17_4 hcz17_5 hcz17_6 hcz17_7 hcz17_8 hcz17_9
      try clear hcz18_0 hcz18_1 hcz18_10 hcz18_11 hcz18_12 hcz18_2 hcz18_3 hcz18_4 hcz18_5 hcz18_6 hcz18_7 hcz18_8 hcz18_9
      try clear hcz20_0 hcz20_1 hcz20_10 hcz20_11 hcz20_12 hcz20_2 hcz20_3 hcz20_4 hcz20_5 hcz20_6 hcz20_7 hcz20_8 hcz20_9
      try clear hcz21_0 hcz21_1 hcz21_10 hcz21_11 hcz21_12 hcz21_2 hcz21_3 hcz21_4 hcz21_5 hcz21_6 hcz21_7 hcz21_8 hcz21_9
      try clear hcz23_0 hcz23_1 hcz23_10 hcz23_11 hcz23_12 hcz23_2 hcz23_3 hcz23_4 hcz23_5 hcz23_6 hcz23_7 hcz23_8 hcz23_9
      try clear hcz24_0 hcz24_1 hcz24_10 hcz24_11 hcz24_12 hcz24_2 hcz24_3 hcz24_4 hcz24_5 hcz24_6 hcz24_7 hcz24_8 hcz24_9
      try clear hcz27_0 hcz27_1 hcz27_10 hcz27_11 hcz27_12 hcz27_2 hcz27_3 hcz27_4 hcz27_5 hcz27_6 hcz27_7 hcz27_8 hcz27_9
      try clear hfz11_0 hfz11_1 hfz11_10 hfz11_11 hfz11_12 hfz11_2 hfz11_3 hfz11_4 hfz11_5 hfz11_6 hfz11_7 hfz11_8 hfz11_9
      try clear hfz12_0 hfz12_1 hfz12_10 hfz12_11 hfz12_12 hfz12_2 hfz12_3 hfz12_4 hfz12_5 hfz12_6 hfz12_7 hfz12_8 hfz12_9
      try clear hfz14_0 hfz14_1 hfz14_10 hfz14_11 hfz14_12 hfz14_2 hfz14_3 hfz14_4 hfz14_5 hfz14_6 hfz14_7 hfz14_8 hfz14_9
      try clear hfz15_0 hfz15_1 hfz15_10 hfz15_11 hfz15_12 hfz15_2 hfz15_3 hfz15_4 hfz15_5 hfz15_6 hfz15_7 hfz15_8 hfz15_9
      try clear hfz17_0 hfz17_1 hfz17_10 hfz17_11 hfz17_12 hfz17_2 hfz17_3 hfz17_4 hfz17_5 hfz17_6 hfz17_7 hfz17_8 hfz17_9
      try clear hfz18_0 hfz18_1 hfz18_10 hfz18_11 hfz18_12 hfz18_2 hfz18_3 hfz18_4 hfz18_5 hfz18_6 hfz18_7 hfz18_8 hfz18_9
      try clear hfz20_0 hfz20_1 hfz20_10 hfz20_11 hfz20_12 hfz20_2 hfz20_3 hfz20_4 hfz20_5 hfz20_6 hfz20_7 hfz20_8 hfz20_9
      try clear hfz21_0 hfz21_1 hfz21_10 hfz21_11 hfz21_12 hfz21_2 hfz21_3 hfz21_4 hfz21_5 hfz21_6 hfz21_7 hfz21_8 hfz21_9
      try clear hfz23_0 hfz23_1 hfz23_10 hfz23_11 hfz23_12 hfz23_2 hfz23_3 hfz23_4 hfz23_5 hfz23_6 hfz23_7 hfz23_8 hfz23_9
      try clear hfz24_0 hfz24_1 hfz24_10 hfz24_11 hfz24_12 hfz24_2 hfz24_3 hfz24_4 hfz24_5 hfz24_6 hfz24_7 hfz24_8 hfz24_9
      try clear hfz27_0 hfz27_1 hfz27_10 hfz27_11 hfz27_12 hfz27_2 hfz27_3 hfz27_4 hfz27_5 hfz27_6 hfz27_7 hfz27_8 hfz27_9
      try clear p2
      obtain ⟨x44_2, rfl, HA, HK2, BK407, BK408, HB⟩ := hrel
      cases gk with
      | zero => exact absurd HA.out (by simp [medlarref16_Same.l0])
      | succ k2 =>
       have H := HA.out
       clear HA
       simp only [medlarref16_Same.l0] at H
       by_cases c28 : x44_2 < (l0_3.length : Int)
       ·rw [if_pos c28] at H
        have c28b0 := decide_eq_true c28
        clear c28
        by_cases c29 : 0 ≤ x44_2
        ·rw [if_pos c29] at H
         have c29b0 := decide_eq_true c29
         clear c29
         by_cases c30 : x44_2 < (l0_3.length : Int)
         ·rw [if_pos c30] at H
          have c30b0 := decide_eq_true c30
          clear c30
          by_cases c31 : x44_2 < (l1_3.length : Int)
          ·rw [if_pos c31] at H
           have c31b0 := decide_eq_true c31
           clear c31
           by_cases c32 : ((!(((rd_T41 l0_3 x44_2).f0.f0) == ((rd_T41 l1_3 x44_2).f0.f0)) || (!(((rd_T41 l0_3 x44_2).f0.f1) == ((rd_T41 l1_3 x44_2).f0.f1)))) || ((!(((rd_T41 l0_3 x44_2).f1.f0) == ((rd_T41 l1_3 x44_2).f1.f0)) || (!(((rd_T41 l0_3 x44_2).f1.f1) == ((rd_T41 l1_3 x44_2).f1.f1)) || ((!(((rd_T41 l0_3 x44_2).f1.f2.f0) == ((rd_T41 l1_3 x44_2).f1.f2.f0)) || (!(((rd_T41 l0_3 x44_2).f1.f2.f1) == ((rd_T41 l1_3 x44_2).f1.f2.f1)))) || (((!(((rd_T41 l0_3 x44_2).f1.f3.f0.f0) == ((rd_T41 l1_3 x44_2).f1.f3.f0.f0)) || (!(((rd_T41 l0_3 x44_2).f1.f3.f0.f1) == ((rd_T41 l1_3 x44_2).f1.f3.f0.f1)))) || ((!(((rd_T41 l0_3 x44_2).f1.f3.f1.f0) == ((rd_T41 l1_3 x44_2).f1.f3.f1.f0)) || (!(((rd_T41 l0_3 x44_2).f1.f3.f1.f1) == ((rd_T41 l1_3 x44_2).f1.f3.f1.f1)))))) || (!(((rd_T41 l0_3 x44_2).f1.f4) == ((rd_T41 l1_3 x44_2).f1.f4))))))))) = true
           ·rw [if_pos c32] at H
            have c32b0 : ((!(((rd_T41 l0_3 x44_2).f0.f0) == ((rd_T41 l1_3 x44_2).f0.f0)) || (!(((rd_T41 l0_3 x44_2).f0.f1) == ((rd_T41 l1_3 x44_2).f0.f1)))) || ((!(((rd_T41 l0_3 x44_2).f1.f0) == ((rd_T41 l1_3 x44_2).f1.f0)) || (!(((rd_T41 l0_3 x44_2).f1.f1) == ((rd_T41 l1_3 x44_2).f1.f1)) || ((!(((rd_T41 l0_3 x44_2).f1.f2.f0) == ((rd_T41 l1_3 x44_2).f1.f2.f0)) || (!(((rd_T41 l0_3 x44_2).f1.f2.f1) == ((rd_T41 l1_3 x44_2).f1.f2.f1)))) || (((!(((rd_T41 l0_3 x44_2).f1.f3.f0.f0) == ((rd_T41 l1_3 x44_2).f1.f3.f0.f0)) || (!(((rd_T41 l0_3 x44_2).f1.f3.f0.f1) == ((rd_T41 l1_3 x44_2).f1.f3.f0.f1)))) || ((!(((rd_T41 l0_3 x44_2).f1.f3.f1.f0) == ((rd_T41 l1_3 x44_2).f1.f3.f1.f0)) || (!(((rd_T41 l0_3 x44_2).f1.f3.f1.f1) == ((rd_T41 l1_3 x44_2).f1.f3.f1.f1)))))) || (!(((rd_T41 l0_3 x44_2).f1.f4) == ((rd_T41 l1_3 x44_2).f1.f4))))))))) = true := c32
            clear c32
            obtain rfl := Option.some.inj H
            have hnb33 := NB407_408.out
            have hnc33 := NB408_407.out
            obtain ⟨hcz34_0, hcz34_1, hcz34_2, hcz34_3, hcz34_4, hcz34_5, hcz34_6, hcz34_7, hcz34_8, hcz34_9, hcz34_10, hcz34_11, hcz34_12, hfz34_0, hfz34_1, hfz34_2, hfz34_3, hfz34_4, hfz34_5, hfz34_6, hfz34_7, hfz34_8, hfz34_9, hfz34_10, hfz34_11, hfz34_12⟩ := kc13_ BK407.out
            have p409 : 0 ≤ (x44_2 : Int) := od_ (by first | (with_reducible assumption) | assumption)
            have p409 : 0 ≤ (x44_2 : Int) := od_ (by first | (with_reducible assumption) | assumption)
            have q409 : x44_2 < (l0_3.length : Int) := od_ (by first | (with_reducible assumption) | assumption)
            obtain ⟨ad409, e409, hx409_0, hx409_1, hx409_2, hx409_3, hx409_4, hx409_5, hx409_6, hx409_7, hx409_8, hx409_9, hx409_10⟩ := at_T41 HR0_3.out x44_2 p409 q409
            cases e409
            replace hx409_0 := cx_ HB hx409_0
            replace hx409_1 := cx_ HB hx409_1
            replace hx409_2 := cx_ HB hx409_2
            replace hx409_3 := cx_ HB hx409_3
            replace hx409_4 := cx_ HB hx409_4
            replace hx409_5 := cx_ HB hx409_5
            replace hx409_6 := cx_ HB hx409_6
            replace hx409_7 := cx_ HB hx409_7
            replace hx409_8 := cx_ HB hx409_8
            replace hx409_9 := cx_ HB hx409_9
            replace hx409_10 := cx_ HB hx409_10
            replace p409 := eq_true p409
            replace q409 := eq_true q409
            obtain ⟨hcz35_0, hcz35_1, hcz35_2, hcz35_3, hcz35_4, hcz35_5, hcz35_6, hcz35_7, hcz35_8, hcz35_9, hcz35_10, hcz35_11, hcz35_12, hfz35_0, hfz35_1, hfz35_2, hfz35_3, hfz35_4, hfz35_5, hfz35_6, hfz35_7, hfz35_8, hfz35_9, hfz35_10, hfz35_11, hfz35_12⟩ := kc13_ BK408.out
            have p410 : 0 ≤ (x44_2 : Int) := od_ (by first | (with_reducible assumption) | assumption)
            have p410 : 0 ≤ (x44_2 : Int) := od_ (by first | (with_reducible assumption) | assumption)
            have q410 : x44_2 < (l1_3.length : Int) := od_ (by first | (with_reducible assumption) | assumption)
            obtain ⟨ad410, e410, hx410_0, hx410_1, hx410_2, hx410_3, hx410_4, hx410_5, hx410_6, hx410_7, hx410_8, hx410_9, hx410_10⟩ := at_T41 HR1_3.out x44_2 p410 q410
            cases e410
            replace hx410_0 := cx_ HB hx410_0
            replace hx410_1 := cx_ HB hx410_1
            replace hx410_2 := cx_ HB hx410_2
            replace hx410_3 := cx_ HB hx410_3
            replace hx410_4 := cx_ HB hx410_4
            replace hx410_5 := cx_ HB hx410_5
            replace hx410_6 := cx_ HB hx410_6
            replace hx410_7 := cx_ HB hx410_7
            replace hx410_8 := cx_ HB hx410_8
            replace hx410_9 := cx_ HB hx410_9
            replace hx410_10 := cx_ HB hx410_10
            replace p410 := eq_true p410
            replace q410 := eq_true q410
            go_wp2
            repeat (go_quiet (fail); try go_wp2)
            go_ret
            exact ea_ (bw2_ HB GE407 GE408)
           ·rw [if_neg c32] at H
            have c32b0 : ((!(((rd_T41 l0_3 x44_2).f0.f0) == ((rd_T41 l1_3 x44_2).f0.f0)) || (!(((rd_T41 l0_3 x44_2).f0.f1) == ((rd_T41 l1_3 x44_2).f0.f1)))) || ((!(((rd_T41 l0_3 x44_2).f1.f0) == ((rd_T41 l1_3 x44_2).f1.f0)) || (!(((rd_T41 l0_3 x44_2).f1.f1) == ((rd_T41 l1_3 x44_2).f1.f1)) || ((!(((rd_T41 l0_3 x44_2).f1.f2.f0) == ((rd_T41 l1_3 x44_2).f1.f2.f0)) || (!(((rd_T41 l0_3 x44_2).f1.f2.f1) == ((rd_T41 l1_3 x44_2).f1.f2.f1)))) || (((!(((rd_T41 l0_3 x44_2).f1.f3.f0.f0) == ((rd_T41 l1_3 x44_2).f1.f3.f0.f0)) || (!(((rd_T41 l0_3 x44_2).f1.f3.f0.f1) == ((rd_T41 l1_3 x44_2).f1.f3.f0.f1)))) || ((!(((rd_T41 l0_3 x44_2).f1.f3.f1.f0) == ((rd_T41 l1_3 x44_2).f1.f3.f1.f0)) || (!(((rd_T41 l0_3 x44_2).f1.f3.f1.f1) == ((rd_T41 l1_3 x44_2).f1.f3.f1.f1)))))) || (!(((rd_T41 l0_3 x44_2).f1.f4) == ((rd_T41 l1_3 x44_2).f1.f4))))))))) = false := by simpa using c32
            clear c32
            have H' := ak_ H
            clear H
            have hnb36 := NB407_408.out
            have hnc36 := NB408_407.out
            obtain ⟨hcz37_0, hcz37_1, hcz37_2, hcz37_3, hcz37_4, hcz37_5, hcz37_6, hcz37_7, hcz37_8, hcz37_9, hcz37_10, hcz37_11, hcz37_12, hfz37_0, hfz37_1, hfz37_2, hfz37_3, hfz37_4, hfz37_5, hfz37_6, hfz37_7, hfz37_8, hfz37_9, hfz37_10, hfz37_11, hfz37_12⟩ := kc13_ BK407.out
            have p409 : 0 ≤ (x44_2 : Int) := od_ (by first | (with_reducible assumption) | assumption)
            have p409 : 0 ≤ (x44_2 : Int) := od_ (by first | (with_reducible assumption) | assumption)
            have q409 : x44_2 < (l0_3.length : Int) := od_ (by first | (with_reducible assumption) | assumption)
            obtain ⟨ad409, e409, hx409_0, hx409_1, hx409_2, hx409_3, hx409_4, hx409_5, hx409_6, hx409_7, hx409_8, hx409_9, hx409_10⟩ := at_T41 HR0_3.out x44_2 p409 q409
            cases e409
            replace hx409_0 := cx_ HB hx409_0
            replace hx409_1 := cx_ HB hx409_1
            replace hx409_2 := cx_ HB hx409_2
            replace hx409_3 := cx_ HB hx409_3
            replace hx409_4 := cx_ HB hx409_4
            replace hx409_5 := cx_ HB hx409_5
            replace hx409_6 := cx_ HB hx409_6
            replace hx409_7 := cx_ HB hx409_7
            replace hx409_8 := cx_ HB hx409_8
            replace hx409_9 := cx_ HB hx409_9
            replace hx409_10 := cx_ HB hx409_10
            replace p409 := eq_true p409
            replace q409 := eq_true q409
            obtain ⟨hcz38_0, hcz38_1, hcz38_2, hcz38_3, hcz38_4, hcz38_5, hcz38_6, hcz38_7, hcz38_8, hcz38_9, hcz38_10, hcz38_11, hcz38_12, hfz38_0, hfz38_1, hfz38_2, hfz38_3, hfz38_4, hfz38_5, hfz38_6, hfz38_7, hfz38_8, hfz38_9, hfz38_10, hfz38_11, hfz38_12⟩ := kc13_ BK408.out
            have p410 : 0 ≤ (x44_2 : Int) := od_ (by first | (with_reducible assumption) | assumption)
            have p410 : 0 ≤ (x44_2 : Int) := od_ (by first | (with_reducible assumption) | assumption)
            have q410 : x44_2 < (l1_3.length : Int) := od_ (by first | (with_reducible assumption) | assumption)
            obtain ⟨ad410, e410, hx410_0, hx410_1, hx410_2, hx410_3, hx410_4, hx410_5, hx410_6, hx410_7, hx410_8, hx410_9, hx410_10⟩ := at_T41 HR1_3.out x44_2 p410 q410
            cases e410
            replace hx410_0 := cx_ HB hx410_0
            replace hx410_1 := cx_ HB hx410_1
            replace hx410_2 := cx_ HB hx410_2
            replace hx410_3 := cx_ HB hx410_3
            replace hx410_4 := cx_ HB hx410_4
            replace hx410_5 := cx_ HB hx410_5
            replace hx410_6 := cx_ HB hx410_6
            replace hx410_7 := cx_ HB hx410_7
            replace hx410_8 := cx_ HB hx410_8
            replace hx410_9 := cx_ HB hx410_9
            replace hx410_10 := cx_ HB hx410_10
            replace p410 := eq_true p410
            replace q410 := eq_true q410
            go_wp2
            repeat (go_quiet (fail); try go_wp2)
            go_roundg k2
            case measure => have := HJ2.out; have := HK2.out; omega
            case rel => exact ⟨(wrap64 (x44_2 + 1)), rf_, H', ⟨by have := HJ2.out; have := HK2.out; omega⟩, ⟨kl_ BK407⟩, ⟨kl_ BK408⟩, ⟨bw2_ HB GE407 GE408⟩⟩
          ·rw [if_neg c31] at H
           exact absurd H (by simp)
         ·rw [if_neg c30] at H
          exact absurd H (by simp)
        ·rw [if_neg c29] at H
         exact absurd H (by simp)
       ·rw [if_neg c28] at H
        have c28b0 := decide_eq_false c28
        clear c28
        obtain rfl := Option.some.inj H
        go_wp2
        repeat (go_quiet (fail); try go_wp2)
        go_ret
        exact ea_ (bw2_ HB GE407 GE408)
def api_Part.l0 : Nat → List (S41) → List (S41) → Int → Int → Option (Bool)
  | 0, _, _, _, _ => none
  | k + 1, x0, x1, x12, x13 => if x13 < x12 then (if 0 ≤ x13 then (if x13 < (x0.length : Int) then (if x13 < (x1.length : Int) then (if ((!(((rd_T41 x0 x13).f0.f0) == ((rd_T41 x1 x13).f0.f0)) || (!(((rd_T41 x0 x13).f0.f1) == ((rd_T41 x1 x13).f0.f1)))) || ((!(((rd_T41 x0 x13).f1.f0) == ((rd_T41 x1 x13).f1.f0)) || (!(((rd_T41 x0 x13).f1.f1) == ((rd_T41 x1 x13).f1.f1)) || ((!(((rd_T41 x0 x13).f1.f2.f0) == ((rd_T41 x1 x13).f1.f2.f0)) || (!(((rd_T41 x0 x13).f1.f2.f1) == ((rd_T41 x1 x13).f1.f2.f1)))) || (((!(((rd_T41 x0 x13).f1.f3.f0.f0) == ((rd_T41 x1 x13).f1.f3.f0.f0)) || (!(((rd_T41 x0 x13).f1.f3.f0.f1) == ((rd_T41 x1 x13).f1.f3.f0.f1)))) || ((!(((rd_T41 x0 x13).f1.f3.f1.f0) == ((rd_T41 x1 x13).f1.f3.f1.f0)) || (!(((rd_T41 x0 x13).f1.f3.f1.f1) == ((rd_T41 x1 x13).f1.f3.f1.f1)))))) || (!(((rd_T41 x0 x13).f1.f4) == ((rd_T41 x1 x13).f1.f4))))))))) = true then (some false) else (api_Part.l0 k x0 x1 x12 (wrap64 (x13 + 1)))) else (none)) else (none)) else (none)) else (some true)
def api_Part.f (k : Nat) (l0 : List (S41)) (l1 : List (S41)) : Option (Bool) := if (l0.length : Int) = (l1.length : Int) then (api_Part.l0 k l0 l1 (l0.length : Int) 0) else (some false)
theorem api_Part.mono_l : ∀ k, (∀ y0 y1 y2 y3, LeO (api_Part.l0 k y0 y1 y2 y3) (api_Part.l0 (k + 1) y0 y1 y2 y3))
  | 0 => fun _ _ _ _ r h => by simp [api_Part.l0] at h
  | k + 1 => by
   have ih0 := api_Part.mono_l k
   ·intro y0 y1 y2 y3
    unfold api_Part.l0
    repeat' first | (with_reducible first | exact ih0 .. | exact LeO.refl _ | exact LeO.none _ | refine LeO.ite ?_ ?_ | refine LeO.bind ?_ (fun _ => ?_)) | exact ih0 .. | refine LeO.ite ?_ ?_ | refine LeO.bind ?_ (fun _ => ?_)
theorem api_Part.mono : ∀ a0 a1 k, LeO (api_Part.f k a0 a1) (api_Part.f (k + 1) a0 a1) := by
  intro a0 a1 k
  have ih0 := api_Part.mono_l k
  unfold api_Part.f
  repeat' first | (with_reducible first | exact ih0 .. | exact LeO.refl _ | exact LeO.none _ | refine LeO.ite ?_ ?_ | refine LeO.bind ?_ (fun _ => ?_)) | exact ih0 .. | refine LeO.ite ?_ ?_ | refine LeO.bind ?_ (fun _ => ?_)
set_option maxHeartbeats 8000000 in
set_option maxRecDepth 100000 in
theorem api_Part.calls (k : Nat) (A0 : Option Addr) (c0 : Nat) (l0 : List (S41)) (A1 : Option Addr) (c1 : Nat) (l1 : List (S41)) (r : Bool) (w : World) (hr0 : Kd.C k41 w A0 l0.length l0) (hc0 : l0.length ≤ c0) (hr1 : Kd.C k41 w A1 l1.length l1) (hc1 : l1.length ≤ c1) (h : api_Part.f k l0 l1 = some r) :
   Calls Try.prog 64 #[.slice A0 l0.length c0, .slice A1 l1.length c1] w fun e w' => e = .returned (.bool r) ∧ Drawn0 w w' := by
  have hu41 := underlying41
  have HR0 := ak_ hr0
  have HC0 := ak_ hc0
  clear hr0 hc0
  have HR1 := ak_ hr1
  have HC1 := ak_ hc1
  clear hr1 hc1
  have H : (if (l0.length : Int) = (l1.length : Int) then (api_Part.l0 k l0 l1 (l0.length : Int) 0) else (some false)) = some r := h
  clear h
  by_cases c3 : (l0.length : Int) = (l1.length : Int)
  ·rw [if_pos c3] at H
   have c3b0 : ((l0.length : Int) == (l1.length : Int)) = true := beq_iff_eq.mpr c3
   have c3b1 : ((l0.length : Int) != (l1.length : Int)) = false := bne_eq_false_iff_eq.mpr c3
   have c3b2 : (l0.length == l1.length) = true := by first | simpa using c3 | (simp at c3 ⊢; omega)
   clear c3
   have H' := ak_ H
   clear H
   go_enter func64, ntmps64
   go_wp2
   repeat (go_quiet (fail); try go_wp2)
   go_loopg [13] k (fun kq v13 w' => ∃ (x13_1 : Int), v13 = .int .i64 x13_1 ∧ Aside0 (api_Part.l0 kq l0 l1 (l0.length : Int) x13_1 = some r) ∧ Aside0 (kq ≤ k) ∧ Drawn0 w w')
   case atStart => exact ⟨(0), rf_, H', ⟨Nat.le_refl _⟩, by repeat (first | exact Drawn0.refl _ | apply Drawn0.step)⟩
   case round =>
    clear H'
    try clear c1
    try clear p2
    try clear c3
    try clear c3b0
    try clear c3b1
    try clear c3b2
    obtain ⟨x13_1, rfl, HA, HK1, ⟨m1, rfl⟩⟩ := hrel
    cases gk with
    | zero => exact absurd HA.out (by simp [api_Part.l0])
    | succ k1 =>
     have H := HA.out
     clear HA
     simp only [api_Part.l0] at H
     by_cases c4 : x13_1 < (l0.length : Int)
     ·rw [if_pos c4] at H
      have c4b0 := decide_eq_true c4
      clear c4
      by_cases c5 : 0 ≤ x13_1
      ·rw [if_pos c5] at H
       have c5b0 := decide_eq_true c5
       clear c5
       by_cases c6 : x13_1 < (l0.length : Int)
       ·rw [if_pos c6] at H
        have c6b0 := decide_eq_true c6
        clear c6
        by_cases c7 : x13_1 < (l1.length : Int)
        ·rw [if_pos c7] at H
         have c7b0 := decide_eq_true c7
         clear c7
         by_cases c8 : ((!(((rd_T41 l0 x13_1).f0.f0) == ((rd_T41 l1 x13_1).f0.f0)) || (!(((rd_T41 l0 x13_1).f0.f1) == ((rd_T41 l1 x13_1).f0.f1)))) || ((!(((rd_T41 l0 x13_1).f1.f0) == ((rd_T41 l1 x13_1).f1.f0)) || (!(((rd_T41 l0 x13_1).f1.f1) == ((rd_T41 l1 x13_1).f1.f1)) || ((!(((rd_T41 l0 x13_1).f1.f2.f0) == ((rd_T41 l1 x13_1).f1.f2.f0)) || (!(((rd_T41 l0 x13_1).f1.f2.f1) == ((rd_T41 l1 x13_1).f1.f2.f1)))) || (((!(((rd_T41 l0 x13_1).f1.f3.f0.f0) == ((rd_T41 l1 x13_1).f1.f3.f0.f0)) || (!(((rd_T41 l0 x13_1).f1.f3.f0.f1) == ((rd_T41 l1 x13_1).f1.f3.f0.f1)))) || ((!(((rd_T41 l0 x13_1).f1.f3.f1.f0) == ((rd_T41 l1 x13_1).f1.f3.f1.f0)) || (!(((rd_T41 l0 x13_1).f1.f3.f1.f1) == ((rd_T41 l1 x13_1).f1.f3.f1.f1)))))) || (!(((rd_T41 l0 x13_1).f1.f4) == ((rd_T41 l1 x13_1).f1.f4))))))))) = true
         ·rw [if_pos c8] at H
          have c8b0 : ((!(((rd_T41 l0 x13_1).f0.f0) == ((rd_T41 l1 x13_1).f0.f0)) || (!(((rd_T41 l0 x13_1).f0.f1) == ((rd_T41 l1 x13_1).f0.f1)))) || ((!(((rd_T41 l0 x13_1).f1.f0) == ((rd_T41 l1 x13_1).f1.f0)) || (!(((rd_T41 l0 x13_1).f1.f1) == ((rd_T41 l1 x13_1).f1.f1)) || ((!(((rd_T41 l0 x13_1).f1.f2.f0) == ((rd_T41 l1 x13_1).f1.f2.f0)) || (!(((rd_T41 l0 x13_1).f1.f2.f1) == ((rd_T41 l1 x13_1).f1.f2.f1)))) || (((!(((rd_T41 l0 x13_1).f1.f3.f0.f0) == ((rd_T41 l1 x13_1).f1.f3.f0.f0)) || (!(((rd_T41 l0 x13_1).f1.f3.f0.f1) == ((rd_T41 l1 x13_1).f1.f3.f0.f1)))) || ((!(((rd_T41 l0 x13_1).f1.f3.f1.f0) == ((rd_T41 l1 x13_1).f1.f3.f1.f0)) || (!(((rd_T41 l0 x13_1).f1.f3.f1.f1) == ((rd_T41 l1 x13_1).f1.f3.f1.f1)))))) || (!(((rd_T41 l0 x13_1).f1.f4) == ((rd_T41 l1 x13_1).f1.f4))))))))) = true := c8
          clear c8
          obtain rfl := Option.some.inj H
          have p411 : 0 ≤ (x13_1 : Int) := od_ (by first | (with_reducible assumption) | assumption)
          have q411 : x13_1 < (l0.length : Int) := od_ (by first | (with_reducible assumption) | assumption)
          obtain ⟨ad411, e411, hx411_0, hx411_1, hx411_2, hx411_3, hx411_4, hx411_5, hx411_6, hx411_7, hx411_8, hx411_9, hx411_10⟩ := at_T41 HR0.out x13_1 p411 q411
          cases e411
          replace p411 := eq_true p411
          replace q411 := eq_true q411
          have p412 : 0 ≤ (x13_1 : Int) := od_ (by first | (with_reducible assumption) | assumption)
          have q412 : x13_1 < (l1.length : Int) := od_ (by first | (with_reducible assumption) | assumption)
          obtain ⟨ad412, e412, hx412_0, hx412_1, hx412_2, hx412_3, hx412_4, hx412_5, hx412_6, hx412_7, hx412_8, hx412_9, hx412_10⟩ := at_T41 HR1.out x13_1 p412 q412
          cases e412
          replace p412 := eq_true p412
          replace q412 := eq_true q412
          go_wp2
          repeat (go_quiet (fail); try go_wp2)
          go_ret
          exact ⟨by first | rfl | (simp; done) | (simp [*]; done), by repeat (first | exact Drawn0.refl _ | apply Drawn0.step)⟩
         ·rw [if_neg c8] at H
          have c8b0 : ((!(((rd_T41 l0 x13_1).f0.f0) == ((rd_T41 l1 x13_1).f0.f0)) || (!(((rd_T41 l0 x13_1).f0.f1) == ((rd_T41 l1 x13_1).f0.f1)))) || ((!(((rd_T41 l0 x13_1).f1.f0) == ((rd_T41 l1 x13_1).f1.f0)) || (!(((rd_T41 l0 x13_1).f1.f1) == ((rd_T41 l1 x13_1).f1.f1)) || ((!(((rd_T41 l0 x13_1).f1.f2.f0) == ((rd_T41 l1 x13_1).f1.f2.f0)) || (!(((rd_T41 l0 x13_1).f1.f2.f1) == ((rd_T41 l1 x13_1).f1.f2.f1)))) || (((!(((rd_T41 l0 x13_1).f1.f3.f0.f0) == ((rd_T41 l1 x13_1).f1.f3.f0.f0)) || (!(((rd_T41 l0 x13_1).f1.f3.f0.f1) == ((rd_T41 l1 x13_1).f1.f3.f0.f1)))) || ((!(((rd_T41 l0 x13_1).f1.f3.f1.f0) == ((rd_T41 l1 x13_1).f1.f3.f1.f0)) || (!(((rd_T41 l0 x13_1).f1.f3.f1.f1) == ((rd_T41 l1 x13_1).f1.f3.f1.f1)))))) || (!(((rd_T41 l0 x13_1).f1.f4) == ((rd_T41 l1 x13_1).f1.f4))))))))) = false := by simpa using c8
          clear c8
          have H' := ak_ H
          clear H
          have p411 : 0 ≤ (x13_1 : Int) := od_ (by first | (with_reducible assumption) | assumption)
          have q411 : x13_1 < (l0.length : Int) := od_ (by first | (with_reducible assumption) | assumption)
          obtain ⟨ad411, e411, hx411_0, hx411_1, hx411_2, hx411_3, hx411_4, hx411_5, hx411_6, hx411_7, hx411_8, hx411_9, hx411_10⟩ := at_T41 HR0.out x13_1 p411 q411
          cases e411
          replace p411 := eq_true p411
          replace q411 := eq_true q411
          have p412 : 0 ≤ (x13_1 : Int) := od_ (by first | (with_reducible assumption) | assumption)
          have q412 : x13_1 < (l1.length : Int) := od_ (by first | (with_reducible assumption) | assumption)
          obtain ⟨ad412, e412, hx412_0, hx412_1, hx412_2, hx412_3, hx412_4, hx412_5, hx412_6, hx412_7, hx412_8, hx412_9, hx412_10⟩ := at_T41 HR1.out x13_1 p412 q412
          cases e412
          replace p412 := eq_true p412
          replace q412 := eq_true q412
          go_wp2
          repeat (go_quiet (fail); try go_wp2)
          go_roundg k1
          case measure => have := HK1.out; omega
          case rel => exact ⟨(wrap64 (x13_1 + 1)), rf_, H', ⟨by have := HK1.out; omega⟩, by repeat (first | exact Drawn0.refl _ | apply Drawn0.step)⟩
        ·rw [if_neg c7] at H
         exact absurd H (by simp)
       ·rw [if_neg c6] at H
        exact absurd H (by simp)
      ·rw [if_neg c5] at H
       exact absurd H (by simp)
     ·rw [if_neg c4] at H
      have c4b0 := decide_eq_false c4
      clear c4
      obtain rfl := Option.some.inj H
      go_wp2
      repeat (go_quiet (fail); try go_wp2)
      go_ret
      exact ⟨by first | rfl | (simp; done) | (simp [*]; done), by repeat (first | exact Drawn0.refl _ | apply Drawn0.step)⟩
  ·rw [if_neg c3] at H
   have c3b0 : ((l0.length : Int) == (l1.length : Int)) = false := beq_eq_false_iff_ne.mpr c3
   have c3b1 : ((l0.length : Int) != (l1.length : Int)) = true := bne_iff_ne.mpr c3
   have c3b2 : (l0.length == l1.length) = false := by first | simpa using c3 | (simp at c3 ⊢; omega)
   obtain rfl := Option.some.inj H
   go_enter func64, ntmps64
   go_wp2
   repeat (go_quiet (fail); try go_wp2)
   go_ret
   exact ⟨by first | rfl | (simp; done) | (simp [*]; done), by repeat (first | exact Drawn0.refl _ | apply Drawn0.step)⟩
end Go.Proofs.Ytoljdfgkkkpnbaa.MP
