-- written by a program of this session (wip/tools/mprint.sh) for this seat
import Derived.Test.YtoljdfgkkkpnbaaMPx0
import Derived.Test.YtoljdfgkkkpnbaaMPx2
namespace Go.Proofs.Ytoljdfgkkkpnbaa.MP
open Go.RowKit Go.Proofs.YtoljdfgkkkpnbaaW.PrintWords Go.Proofs.YtoljdfgkkkpnbaaW.PrintLast Go.Proofs.YtoljdfgkkkpnbaaW.PrintMore
open List (setIfInBounds_toArray set_cons_zero set_cons_succ map_toArray map_cons map_nil length_drop length_take)
attribute [local go_sem] max2_int min2_int max_two min_two max_three min_three max_four min_four   -- for this text's walks alone
set_option linter.unusedVariables false
set_option linter.unusedSimpArgs false

def bA3 (k n : Nat) : Array Bool := (Array.range n).map fun i => decide (i < k)
/-! ### head_Check: function 16 -/
mutual
def head_Check.j0 : Nat → Bool → Int → Int → Int → List (S41) → Bool → Bool → Int → Int → Int → Int → Int → Int → Int → Option (Int)
  | 0, _, _, _, _, _, _, _, _, _, _, _, _, _, _ => none
  | k + 1, x34, x152000, x152001, x152002, x152003, x152004, x152005, x152006, x152007, x152008, x152009, x152010, x152011, x152012 => if x34 = true then (some 1) else ((layer_May.f k x152001 x152000 1 0).bind fun bt154 => (if bt154.2 = 0 then (head_Check.l0 k x152003 (x152003.length : Int) 0 x152000 x152001 x152002 x152003 x152004 x152005 x152006 x152007 x152008 x152009 x152010 x152011 x152012) else (some bt154.2)))
def head_Check.l0 : Nat → List (S41) → Int → Int → Int → Int → Int → List (S41) → Bool → Bool → Int → Int → Int → Int → Int → Int → Int → Option (Int)
  | 0, _, _, _, _, _, _, _, _, _, _, _, _, _, _, _, _ => none
  | k + 1, x48, x49, x50, x152000, x152001, x152002, x152003, x152004, x152005, x152006, x152007, x152008, x152009, x152010, x152011, x152012 => if x50 < x49 then (if 0 ≤ x50 then (if x50 < (x48.length : Int) then ((layer_May.f k x152001 x152000 ((rd_T41 x48 x50).f0.f0) ((rd_T41 x48 x50).f0.f1)).bind fun bt158 => (if bt158.2 = 0 then (if bt158.1 = true then ((head_shut.f ((rd_T41 x48 x50).f1.f0) ((rd_T41 x48 x50).f1.f1) ((rd_T41 x48 x50).f1.f2.f0) ((rd_T41 x48 x50).f1.f2.f1) ((rd_T41 x48 x50).f1.f3.f0.f0) ((rd_T41 x48 x50).f1.f3.f0.f1) ((rd_T41 x48 x50).f1.f3.f1.f0) ((rd_T41 x48 x50).f1.f3.f1.f1) ((rd_T41 x48 x50).f1.f4)).bind fun t160 => (if t160 = true then (if x50 > 0 then (if 0 ≤ (wrap64 (x50 - 1)) then (if (wrap64 (x50 - 1)) < (x152003.length : Int) then ((sub_Less.f k ((rd_T41 x152003 (wrap64 (x50 - 1))).f0.f0) ((rd_T41 x152003 (wrap64 (x50 - 1))).f0.f1) ((rd_T41 x48 x50).f0.f0) ((rd_T41 x48 x50).f0.f1)).bind fun t162 => (if t162 = true then (head_Check.l0 k x48 x49 (wrap64 (x50 + 1)) x152000 x152001 x152002 x152003 x152004 x152005 x152006 x152007 x152008 x152009 x152010 x152011 x152012) else (some 1))) else (none)) else (none)) else (head_Check.l0 k x48 x49 (wrap64 (x50 + 1)) x152000 x152001 x152002 x152003 x152004 x152005 x152006 x152007 x152008 x152009 x152010 x152011 x152012)) else (some 1))) else (some 1)) else (some 1))) else (none)) else (none)) else (some 0)
end
def head_Check.f (k : Nat) (a0_0 : Int) (a0_1 : Int) (a0_2 : Int) (l0_3 : List (S41)) (a0_4 : Bool) (a0_5 : Bool) (a0_6 : Int) (a0_7 : Int) (a0_8 : Int) (a0_9 : Int) (a0_10 : Int) (a0_11 : Int) (a0_12 : Int) : Option (Int) := (node_Check.f k a0_1 1).bind fun t152 => (if t152 = 0 then (if a0_2 < 1 then (head_Check.j0 k true a0_0 a0_1 a0_2 l0_3 a0_4 a0_5 a0_6 a0_7 a0_8 a0_9 a0_10 a0_11 a0_12) else (if a0_2 > 1099511627776 then (head_Check.j0 k true a0_0 a0_1 a0_2 l0_3 a0_4 a0_5 a0_6 a0_7 a0_8 a0_9 a0_10 a0_11 a0_12) else (if (l0_3.length : Int) > 32768 then (head_Check.j0 k true a0_0 a0_1 a0_2 l0_3 a0_4 a0_5 a0_6 a0_7 a0_8 a0_9 a0_10 a0_11 a0_12) else ((head_shut.f a0_4 a0_5 a0_6 a0_7 a0_8 a0_9 a0_10 a0_11 a0_12).bind fun t153 => (head_Check.j0 k (!t153) a0_0 a0_1 a0_2 l0_3 a0_4 a0_5 a0_6 a0_7 a0_8 a0_9 a0_10 a0_11 a0_12))))) else (head_Check.j0 k true a0_0 a0_1 a0_2 l0_3 a0_4 a0_5 a0_6 a0_7 a0_8 a0_9 a0_10 a0_11 a0_12))
theorem head_Check.mono_l : ∀ k, (∀ y0 y1 y2 y3 y4 y5 y6 y7 y8 y9 y10 y11 y12 y13, LeO (head_Check.j0 k y0 y1 y2 y3 y4 y5 y6 y7 y8 y9 y10 y11 y12 y13) (head_Check.j0 (k + 1) y0 y1 y2 y3 y4 y5 y6 y7 y8 y9 y10 y11 y12 y13)) ∧ (∀ y0 y1 y2 y3 y4 y5 y6 y7 y8 y9 y10 y11 y12 y13 y14 y15, LeO (head_Check.l0 k y0 y1 y2 y3 y4 y5 y6 y7 y8 y9 y10 y11 y12 y13 y14 y15) (head_Check.l0 (k + 1) y0 y1 y2 y3 y4 y5 y6 y7 y8 y9 y10 y11 y12 y13 y14 y15))
  | 0 => ⟨fun _ _ _ _ _ _ _ _ _ _ _ _ _ _ r h => by simp [head_Check.j0] at h, fun _ _ _ _ _ _ _ _ _ _ _ _ _ _ _ _ r h => by simp [head_Check.l0] at h⟩
  | k + 1 => by
   obtain ⟨ih0, ih1⟩ := head_Check.mono_l k
   refine ⟨?_, ?_⟩
   ·intro y0 y1 y2 y3 y4 y5 y6 y7 y8 y9 y10 y11 y12 y13
    unfold head_Check.j0
    repeat' first
    | (with_reducible exact ih0 _ _ _ _ _ _ _ _ _ _ _ _ _ _)
    | (with_reducible exact ih1 _ _ _ _ _ _ _ _ _ _ _ _ _ _ _ _)
    | (with_reducible exact layer_May.mono _ _ _ _ _)
    | (with_reducible exact node_Check.mono _ _ _)
    | (with_reducible exact sub_Less.mono _ _ _ _ _)
    | (with_reducible exact LeO.refl _)
    | (with_reducible exact LeO.none _)
    | (with_reducible refine LeO.ite ?_ ?_)
    | (with_reducible refine LeO.bind ?_ (fun _ => ?_))
    | exact ih0 _ _ _ _ _ _ _ _ _ _ _ _ _ _
    | exact ih1 _ _ _ _ _ _ _ _ _ _ _ _ _ _ _ _
    | exact layer_May.mono _ _ _ _ _
    | exact node_Check.mono _ _ _
    | exact sub_Less.mono _ _ _ _ _
    | exact LeO.none _
    | refine LeO.ite ?_ ?_
    | refine LeO.bind ?_ (fun _ => ?_)
   ·intro y0 y1 y2 y3 y4 y5 y6 y7 y8 y9 y10 y11 y12 y13 y14 y15
    unfold head_Check.l0
    repeat' first
    | (with_reducible exact ih0 _ _ _ _ _ _ _ _ _ _ _ _ _ _)
    | (with_reducible exact ih1 _ _ _ _ _ _ _ _ _ _ _ _ _ _ _ _)
    | (with_reducible exact layer_May.mono _ _ _ _ _)
    | (with_reducible exact node_Check.mono _ _ _)
    | (with_reducible exact sub_Less.mono _ _ _ _ _)
    | (with_reducible exact LeO.refl _)
    | (with_reducible exact LeO.none _)
    | (with_reducible refine LeO.ite ?_ ?_)
    | (with_reducible refine LeO.bind ?_ (fun _ => ?_))
    | exact ih0 _ _ _ _ _ _ _ _ _ _ _ _ _ _
    | exact ih1 _ _ _ _ _ _ _ _ _ _ _ _ _ _ _ _
    | exact layer_May.mono _ _ _ _ _
    | exact node_Check.mono _ _ _
    | exact sub_Less.mono _ _ _ _ _
    | exact LeO.none _
    | refine LeO.ite ?_ ?_
    | refine LeO.bind ?_ (fun _ => ?_)
theorem head_Check.mono : ∀ a0 a1 a2 a3 a4 a5 a6 a7 a8 a9 a10 a11 a12 k, LeO (head_Check.f k a0 a1 a2 a3 a4 a5 a6 a7 a8 a9 a10 a11 a12) (head_Check.f (k + 1) a0 a1 a2 a3 a4 a5 a6 a7 a8 a9 a10 a11 a12) := by
  intro a0 a1 a2 a3 a4 a5 a6 a7 a8 a9 a10 a11 a12 k
  obtain ⟨ih0, ih1⟩ := head_Check.mono_l k
  unfold head_Check.f
  repeat' first
    | (with_reducible exact ih0 _ _ _ _ _ _ _ _ _ _ _ _ _ _)
    | (with_reducible exact ih1 _ _ _ _ _ _ _ _ _ _ _ _ _ _ _ _)
    | (with_reducible exact layer_May.mono _ _ _ _ _)
    | (with_reducible exact node_Check.mono _ _ _)
    | (with_reducible exact sub_Less.mono _ _ _ _ _)
    | (with_reducible exact LeO.refl _)
    | (with_reducible exact LeO.none _)
    | (with_reducible refine LeO.ite ?_ ?_)
    | (with_reducible refine LeO.bind ?_ (fun _ => ?_))
    | exact ih0 _ _ _ _ _ _ _ _ _ _ _ _ _ _
    | exact ih1 _ _ _ _ _ _ _ _ _ _ _ _ _ _ _ _
    | exact layer_May.mono _ _ _ _ _
    | exact node_Check.mono _ _ _
    | exact sub_Less.mono _ _ _ _ _
    | exact LeO.none _
    | refine LeO.ite ?_ ?_
    | refine LeO.bind ?_ (fun _ => ?_)
def head_Check.T10 : Bool × List (List Nat × List Nat) := (true, [([], []), ([0], [0]), ([1], [1]), ([2], [2]), ([3, 2], [2, 3]), ([2, 4], [2, 4]), ([5, 2], [5]), ([6], [6]), ([7, 6], [6, 7]), ([8, 6, 6], [6, 8]), ([9, 6], [6, 9]), ([6, 10], [6, 10]), ([11, 9], [11]), ([12], [12]), ([13, 12], [12, 13]), ([14, 12, 12], [12, 14]), ([15], [15]), ([16, 15], [15, 16]), ([15], [15]), ([18, 15], [15, 18]), ([17, 19, 15], [15, 17, 19]), ([20, 15], [15, 20]), ([21, 15], [15, 21]), ([15], [15]), ([23, 15], [15, 23]), ([22, 24, 15, 15], [15, 22, 24]), ([25, 15], [15, 25]), ([15, 26, 12], [12, 15, 26]), ([12, 27], [12, 27])])
def head_Check.B10 : List Nat := [0, 1, 3, 7, 15, 31, 63, 127, 255, 511, 1023, 2047, 4095, 8191, 16383, 32767, 65535, 131071, 65535, 327679, 1048575, 2097151, 4194303, 65535, 8454143, 33554431, 67108863, 134217727, 268435455]
theorem head_Check.tab10 : rtab .any (opsOf Try.f16 10) = head_Check.T10 := by kernel_rfl
theorem head_Check.bits10 : waitsOk head_Check.T10.2 head_Check.B10 = true := by kernel_rfl
set_option maxHeartbeats 8000000 in
set_option maxRecDepth 100000 in
theorem head_Check.calls (k : Nat) (a0_0 : Int) (a0_1 : Int) (a0_2 : Int) (A0_3 : Option Addr) (c0_3 : Nat) (l0_3 : List (S41)) (a0_4 : Bool) (a0_5 : Bool) (a0_6 : Int) (a0_7 : Int) (a0_8 : Int) (a0_9 : Int) (a0_10 : Int) (a0_11 : Int) (a0_12 : Int) (r : Int) (w : World) (hr0_3 : Kd.C k41 w A0_3 l0_3.length l0_3) (hc0_3 : l0_3.length ≤ c0_3) (h : head_Check.f k a0_0 a0_1 a0_2 l0_3 a0_4 a0_5 a0_6 a0_7 a0_8 a0_9 a0_10 a0_11 a0_12 = some r) :
   Calls Try.prog 16 #[.agg #[.int .i64 a0_0, .int .i64 a0_1, .int .i64 a0_2, .slice A0_3 l0_3.length c0_3, .bool a0_4, .bool a0_5, .int .u64 a0_6, .int .u64 a0_7, .int .u64 a0_8, .int .u64 a0_9, .int .u64 a0_10, .int .u64 a0_11, .int .i64 a0_12]] w fun e w' => e = .returned (.int .i64 r) ∧ Below w.heap.size w w' := by
  have hu31 := Try.underlying31
  have hu29 := Try.underlying29
  have hu39 := Try.underlying39
  have hu41 := Try.underlying41
  have HR0_3 := ak_ hr0_3
  have HC0_3 := ak_ hc0_3
  clear hr0_3 hc0_3
  have HB := ak_ (Below.refl w.heap.size w)
  have H : ((node_Check.f k a0_1 1).bind fun t152 => (if t152 = 0 then (if a0_2 < 1 then (head_Check.j0 k true a0_0 a0_1 a0_2 l0_3 a0_4 a0_5 a0_6 a0_7 a0_8 a0_9 a0_10 a0_11 a0_12) else (if a0_2 > 1099511627776 then (head_Check.j0 k true a0_0 a0_1 a0_2 l0_3 a0_4 a0_5 a0_6 a0_7 a0_8 a0_9 a0_10 a0_11 a0_12) else (if (l0_3.length : Int) > 32768 then (head_Check.j0 k true a0_0 a0_1 a0_2 l0_3 a0_4 a0_5 a0_6 a0_7 a0_8 a0_9 a0_10 a0_11 a0_12) else ((head_shut.f a0_4 a0_5 a0_6 a0_7 a0_8 a0_9 a0_10 a0_11 a0_12).bind fun t153 => (head_Check.j0 k (!t153) a0_0 a0_1 a0_2 l0_3 a0_4 a0_5 a0_6 a0_7 a0_8 a0_9 a0_10 a0_11 a0_12))))) else (head_Check.j0 k true a0_0 a0_1 a0_2 l0_3 a0_4 a0_5 a0_6 a0_7 a0_8 a0_9 a0_10 a0_11 a0_12))) = some r := h
  clear h
  have HC2 := ak_ H
  clear H
  go_enter Try.func16, Try.ntmps16
  go_upto_region 1 with (first | ((with_reducible refine gate_dst (N := 1) rfl ?_); (try (refine gate_guard (by rfl) ?_; dsimp only)); refine box_event ?hg (N := 1) ?hd (cs := #[.int .i64 a0_0, .int .i64 a0_1, .int .i64 a0_2, .slice A0_3 l0_3.length c0_3, .bool a0_4, .bool a0_5, .int .u64 a0_6, .int .u64 a0_7, .int .u64 a0_8, .int .u64 a0_9, .int .u64 a0_10, .int .u64 a0_11, .int .i64 a0_12]) (t := 31) ?hr ?_; (case hd => rfl); (case hg => rfl); (case hr => first | (go_simp; done) | (go_simp; rfl)); intro gb151 hg w3 hbox hb; have n0_ := ak_ (bt_ (by repeat (first | (with_reducible first | exact HB.out | apply ba_ | apply bn_ | apply bd_) | exact HB.out)) hb); have n1_ := ak_ (hbox); have n2_ := ak_ ((by rw [hg]; exact (bz_ (by repeat (first | (with_reducible first | exact HB.out | apply ba_ | apply bn_ | apply bd_) | exact HB.out))) : w.heap.size ≤ gb151)); have n3_ := ak_ ((by rw [hg]; exact (bz_ (by repeat (first | (with_reducible first | exact HB.out | apply ba_ | apply bn_ | apply bd_) | exact HB.out))) : w.heap.size ≤ gb151)); clear HB; have HB := n0_; have BK151 := n1_; have GW151 := n2_; have GE151 := n3_; clear n0_ n1_ n2_ n3_; clear hb hbox hg))
  (try simp only [Act.put, setIfInBounds_toArray, set_cons_zero, set_cons_succ])
  go_cut [34] (fun v34 wc => ∃ (kq : Nat) (x34_1 : Bool), v34 = .bool x34_1 ∧ Aside0 (head_Check.j0 kq x34_1 a0_0 a0_1 a0_2 l0_3 a0_4 a0_5 a0_6 a0_7 a0_8 a0_9 a0_10 a0_11 a0_12 = some r) ∧ Aside0 (kq ≤ k) ∧ Aside0 (wc.heap[gb151]? = some (.cells #[.int .i64 a0_0, .int .i64 a0_1, .int .i64 a0_2, (.slice A0_3 l0_3.length c0_3), .bool a0_4, .bool a0_5, .int .u64 a0_6, .int .u64 a0_7, .int .u64 a0_8, .int .u64 a0_9, .int .u64 a0_10, .int .u64 a0_11, .int .i64 a0_12] 31 (0, 0))) ∧ Aside0 (Below w.heap.size w wc))
  case first =>
   have H := HC2.out
   clear HC2
   replace H := Option.bind_eq_some_iff.mp H
   obtain ⟨t152, A40, H⟩ := H
   replace H : (if t152 = 0 then (if a0_2 < 1 then (head_Check.j0 k true a0_0 a0_1 a0_2 l0_3 a0_4 a0_5 a0_6 a0_7 a0_8 a0_9 a0_10 a0_11 a0_12) else (if a0_2 > 1099511627776 then (head_Check.j0 k true a0_0 a0_1 a0_2 l0_3 a0_4 a0_5 a0_6 a0_7 a0_8 a0_9 a0_10 a0_11 a0_12) else (if (l0_3.length : Int) > 32768 then (head_Check.j0 k true a0_0 a0_1 a0_2 l0_3 a0_4 a0_5 a0_6 a0_7 a0_8 a0_9 a0_10 a0_11 a0_12) else ((head_shut.f a0_4 a0_5 a0_6 a0_7 a0_8 a0_9 a0_10 a0_11 a0_12).bind fun t153 => (head_Check.j0 k (!t153) a0_0 a0_1 a0_2 l0_3 a0_4 a0_5 a0_6 a0_7 a0_8 a0_9 a0_10 a0_11 a0_12))))) else (head_Check.j0 k true a0_0 a0_1 a0_2 l0_3 a0_4 a0_5 a0_6 a0_7 a0_8 a0_9 a0_10 a0_11 a0_12)) = some r := H
   have A4 := ak_ A40
   clear A40
   by_cases c5 : t152 = 0
   ·rw [if_pos c5] at H
    have c5b0 : (t152 == 0) = true := beq_iff_eq.mpr c5
    have c5b1 : (t152 != 0) = false := bne_eq_false_iff_eq.mpr c5
    clear c5
    (first | rw [c5b0] | (simp only [i64_w, i32_w]; rw [c5b0]) | skip)
    by_cases c6 : a0_2 < 1
    ·rw [if_pos c6] at H
     have c6b0 : decide (a0_2 < 1) = true := decide_eq_true c6
     clear c6
     have H' := ak_ H
     clear H
     have hcz7_0 : w3.cell? ⟨gb151, 0, none⟩ = some (.int .i64 a0_0) := (kc_ BK151.out 0).trans rfl
     have hcz7_1 : w3.cell? ⟨gb151, 1, none⟩ = some (.int .i64 a0_1) := (kc_ BK151.out 1).trans rfl
     have hcz7_2 : w3.cell? ⟨gb151, 2, none⟩ = some (.int .i64 a0_2) := (kc_ BK151.out 2).trans rfl
     have hcz7_3 : w3.cell? ⟨gb151, 3, none⟩ = some (.slice A0_3 l0_3.length c0_3) := (kc_ BK151.out 3).trans rfl
     have hcz7_4 : w3.cell? ⟨gb151, 4, none⟩ = some (.bool a0_4) := (kc_ BK151.out 4).trans rfl
     have hcz7_5 : w3.cell? ⟨gb151, 5, none⟩ = some (.bool a0_5) := (kc_ BK151.out 5).trans rfl
     have hcz7_6 : w3.cell? ⟨gb151, 6, none⟩ = some (.int .u64 a0_6) := (kc_ BK151.out 6).trans rfl
     have hcz7_7 : w3.cell? ⟨gb151, 7, none⟩ = some (.int .u64 a0_7) := (kc_ BK151.out 7).trans rfl
     have hcz7_8 : w3.cell? ⟨gb151, 8, none⟩ = some (.int .u64 a0_8) := (kc_ BK151.out 8).trans rfl
     have hcz7_9 : w3.cell? ⟨gb151, 9, none⟩ = some (.int .u64 a0_9) := (kc_ BK151.out 9).trans rfl
     have hcz7_10 : w3.cell? ⟨gb151, 10, none⟩ = some (.int .u64 a0_10) := (kc_ BK151.out 10).trans rfl
     have hcz7_11 : w3.cell? ⟨gb151, 11, none⟩ = some (.int .u64 a0_11) := (kc_ BK151.out 11).trans rfl
     have hcz7_12 : w3.cell? ⟨gb151, 12, none⟩ = some (.int .i64 a0_12) := (kc_ BK151.out 12).trans rfl
     have hfz7_0 := kf_ BK151.out 0
     have hfz7_1 := kf_ BK151.out 1
     have hfz7_2 := kf_ BK151.out 2
     have hfz7_3 := kf_ BK151.out 3
     have hfz7_4 := kf_ BK151.out 4
     have hfz7_5 := kf_ BK151.out 5
     have hfz7_6 := kf_ BK151.out 6
     have hfz7_7 := kf_ BK151.out 7
     have hfz7_8 := kf_ BK151.out 8
     have hfz7_9 := kf_ BK151.out 9
     have hfz7_10 := kf_ BK151.out 10
     have hfz7_11 := kf_ BK151.out 11
     have hfz7_12 := kf_ BK151.out 12
     go_wp2_with (first | ((with_reducible refine gate_callee (f := 46) rfl ?_); refine goesL_ (some 11) rfl rfl Try.func46 (by kernel_rfl) rfl #[.int .i64 a0_1, .int .u64 1] rfl (by (try simp only [map_toArray, map_cons, map_nil]); first | done | rfl | (simp only [length_drop, length_take]; rfl)) ?_; (with_reducible refine (node_Check.calls k a0_1 1 t152 _ A4.out).mono ?_); rintro e w' ⟨rfl, ⟨nd, rfl⟩⟩; refine ⟨_, rfl, ?_⟩))
     go_meet
     case rel => exact ⟨_, (true), (by first | rfl | (simp; done) | (simp [*]; done)), H', ⟨by first | omega | exact Nat.le_refl _⟩, ⟨by (with_reducible repeat (first | refine kn_ ?_ _ | refine kd_ ?_ | refine ka_ ?_ _)); exact BK151.out⟩, ⟨by repeat (first | (with_reducible first | exact HB.out | apply ba_ | apply bn_ | apply bd_ | refine below_set ?_ GE151.out) | exact HB.out)⟩⟩
    ·rw [if_neg c6] at H
     have c6b0 : decide (a0_2 < 1) = false := decide_eq_false c6
     clear c6
     by_cases c8 : a0_2 > 1099511627776
     ·rw [if_pos c8] at H
      have c8b0 : decide (1099511627776 < a0_2) = true := decide_eq_true c8
      clear c8
      have H' := ak_ H
      clear H
      have hcz9_0 : w3.cell? ⟨gb151, 0, none⟩ = some (.int .i64 a0_0) := (kc_ BK151.out 0).trans rfl
      have hcz9_1 : w3.cell? ⟨gb151, 1, none⟩ = some (.int .i64 a0_1) := (kc_ BK151.out 1).trans rfl
      have hcz9_2 : w3.cell? ⟨gb151, 2, none⟩ = some (.int .i64 a0_2) := (kc_ BK151.out 2).trans rfl
      have hcz9_3 : w3.cell? ⟨gb151, 3, none⟩ = some (.slice A0_3 l0_3.length c0_3) := (kc_ BK151.out 3).trans rfl
      have hcz9_4 : w3.cell? ⟨gb151, 4, none⟩ = some (.bool a0_4) := (kc_ BK151.out 4).trans rfl
      have hcz9_5 : w3.cell? ⟨gb151, 5, none⟩ = some (.bool a0_5) := (kc_ BK151.out 5).trans rfl
      have hcz9_6 : w3.cell? ⟨gb151, 6, none⟩ = some (.int .u64 a0_6) := (kc_ BK151.out 6).trans rfl
      have hcz9_7 : w3.cell? ⟨gb151, 7, none⟩ = some (.int .u64 a0_7) := (kc_ BK151.out 7).trans rfl
      have hcz9_8 : w3.cell? ⟨gb151, 8, none⟩ = some (.int .u64 a0_8) := (kc_ BK151.out 8).trans rfl
      have hcz9_9 : w3.cell? ⟨gb151, 9, none⟩ = some (.int .u64 a0_9) := (kc_ BK151.out 9).trans rfl
      have hcz9_10 : w3.cell? ⟨gb151, 10, none⟩ = some (.int .u64 a0_10) := (kc_ BK151.out 10).trans rfl
      have hcz9_11 : w3.cell? ⟨gb151, 11, none⟩ = some (.int .u64 a0_11) := (kc_ BK151.out 11).trans rfl
      have hcz9_12 : w3.cell? ⟨gb151, 12, none⟩ = some (.int .i64 a0_12) := (kc_ BK151.out 12).trans rfl
      have hfz9_0 := kf_ BK151.out 0
      have hfz9_1 := kf_ BK151.out 1
      have hfz9_2 := kf_ BK151.out 2
      have hfz9_3 := kf_ BK151.out 3
      have hfz9_4 := kf_ BK151.out 4
      have hfz9_5 := kf_ BK151.out 5
      have hfz9_6 := kf_ BK151.out 6
      have hfz9_7 := kf_ BK151.out 7
      have hfz9_8 := kf_ BK151.out 8
      have hfz9_9 := kf_ BK151.out 9
      have hfz9_10 := kf_ BK151.out 10
      have hfz9_11 := kf_ BK151.out 11
      have hfz9_12 := kf_ BK151.out 12
      go_wp2_with (first | ((with_reducible refine gate_callee (f := 46) rfl ?_); refine goesL_ (some 11) rfl rfl Try.func46 (by kernel_rfl) rfl #[.int .i64 a0_1, .int .u64 1] rfl (by (try simp only [map_toArray, map_cons, map_nil]); first | done | rfl | (simp only [length_drop, length_take]; rfl)) ?_; (with_reducible refine (node_Check.calls k a0_1 1 t152 _ A4.out).mono ?_); rintro e w' ⟨rfl, ⟨nd, rfl⟩⟩; refine ⟨_, rfl, ?_⟩))
      go_meet
      case rel => exact ⟨_, (true), (by first | rfl | (simp; done) | (simp [*]; done)), H', ⟨by first | omega | exact Nat.le_refl _⟩, ⟨by (with_reducible repeat (first | refine kn_ ?_ _ | refine kd_ ?_ | refine ka_ ?_ _)); exact BK151.out⟩, ⟨by repeat (first | (with_reducible first | exact HB.out | apply ba_ | apply bn_ | apply bd_ | refine below_set ?_ GE151.out) | exact HB.out)⟩⟩
     ·rw [if_neg c8] at H
      have c8b0 : decide (1099511627776 < a0_2) = false := decide_eq_false c8
      clear c8
      by_cases c10 : (l0_3.length : Int) > 32768
      ·rw [if_pos c10] at H
       have c10b0 : decide (32768 < (l0_3.length : Int)) = true := decide_eq_true c10
       have c10b1 : decide (32768 < l0_3.length) = true := decide_eq_true (by omega)
       clear c10
       have H' := ak_ H
       clear H
       have hcz11_0 : w3.cell? ⟨gb151, 0, none⟩ = some (.int .i64 a0_0) := (kc_ BK151.out 0).trans rfl
       have hcz11_1 : w3.cell? ⟨gb151, 1, none⟩ = some (.int .i64 a0_1) := (kc_ BK151.out 1).trans rfl
       have hcz11_2 : w3.cell? ⟨gb151, 2, none⟩ = some (.int .i64 a0_2) := (kc_ BK151.out 2).trans rfl
       have hcz11_3 : w3.cell? ⟨gb151, 3, none⟩ = some (.slice A0_3 l0_3.length c0_3) := (kc_ BK151.out 3).trans rfl
       have hcz11_4 : w3.cell? ⟨gb151, 4, none⟩ = some (.bool a0_4) := (kc_ BK151.out 4).trans rfl
       have hcz11_5 : w3.cell? ⟨gb151, 5, none⟩ = some (.bool a0_5) := (kc_ BK151.out 5).trans rfl
       have hcz11_6 : w3.cell? ⟨gb151, 6, none⟩ = some (.int .u64 a0_6) := (kc_ BK151.out 6).trans rfl
       have hcz11_7 : w3.cell? ⟨gb151, 7, none⟩ = some (.int .u64 a0_7) := (kc_ BK151.out 7).trans rfl
       have hcz11_8 : w3.cell? ⟨gb151, 8, none⟩ = some (.int .u64 a0_8) := (kc_ BK151.out 8).trans rfl
       have hcz11_9 : w3.cell? ⟨gb151, 9, none⟩ = some (.int .u64 a0_9) := (kc_ BK151.out 9).trans rfl
       have hcz11_10 : w3.cell? ⟨gb151, 10, none⟩ = some (.int .u64 a0_10) := (kc_ BK151.out 10).trans rfl
       have hcz11_11 : w3.cell? ⟨gb151, 11, none⟩ = some (.int .u64 a0_11) := (kc_ BK151.out 11).trans rfl
       have hcz11_12 : w3.cell? ⟨gb151, 12, none⟩ = some (.int .i64 a0_12) := (kc_ BK151.out 12).trans rfl
       have hfz11_0 := kf_ BK151.out 0
       have hfz11_1 := kf_ BK151.out 1
       have hfz11_2 := kf_ BK151.out 2
       have hfz11_3 := kf_ BK151.out 3
       have hfz11_4 := kf_ BK151.out 4
       have hfz11_5 := kf_ BK151.out 5
       have hfz11_6 := kf_ BK151.out 6
       have hfz11_7 := kf_ BK151.out 7
       have hfz11_8 := kf_ BK151.out 8
       have hfz11_9 := kf_ BK151.out 9
       have hfz11_10 := kf_ BK151.out 10
       have hfz11_11 := kf_ BK151.out 11
       have hfz11_12 := kf_ BK151.out 12
       go_wp2_with (first | ((with_reducible refine gate_callee (f := 46) rfl ?_); refine goesL_ (some 11) rfl rfl Try.func46 (by kernel_rfl) rfl #[.int .i64 a0_1, .int .u64 1] rfl (by (try simp only [map_toArray, map_cons, map_nil]); first | done | rfl | (simp only [length_drop, length_take]; rfl)) ?_; (with_reducible refine (node_Check.calls k a0_1 1 t152 _ A4.out).mono ?_); rintro e w' ⟨rfl, ⟨nd, rfl⟩⟩; refine ⟨_, rfl, ?_⟩))
       go_meet
       case rel => exact ⟨_, (true), (by first | rfl | (simp; done) | (simp [*]; done)), H', ⟨by first | omega | exact Nat.le_refl _⟩, ⟨by (with_reducible repeat (first | refine kn_ ?_ _ | refine kd_ ?_ | refine ka_ ?_ _)); exact BK151.out⟩, ⟨by repeat (first | (with_reducible first | exact HB.out | apply ba_ | apply bn_ | apply bd_ | refine below_set ?_ GE151.out) | exact HB.out)⟩⟩
      ·rw [if_neg c10] at H
       have c10b0 : decide (32768 < (l0_3.length : Int)) = false := decide_eq_false c10
       have c10b1 : decide (32768 < l0_3.length) = false := decide_eq_false (by omega)
       clear c10
       replace H := Option.bind_eq_some_iff.mp H
       obtain ⟨t153, A120, H⟩ := H
       replace H : (head_Check.j0 k (!t153) a0_0 a0_1 a0_2 l0_3 a0_4 a0_5 a0_6 a0_7 a0_8 a0_9 a0_10 a0_11 a0_12) = some r := H
       have A12 := ak_ A120
       clear A120
       have H' := ak_ H
       clear H
       have hcz13_0 : w3.cell? ⟨gb151, 0, none⟩ = some (.int .i64 a0_0) := (kc_ BK151.out 0).trans rfl
       have hcz13_1 : w3.cell? ⟨gb151, 1, none⟩ = some (.int .i64 a0_1) := (kc_ BK151.out 1).trans rfl
       have hcz13_2 : w3.cell? ⟨gb151, 2, none⟩ = some (.int .i64 a0_2) := (kc_ BK151.out 2).trans rfl
       have hcz13_3 : w3.cell? ⟨gb151, 3, none⟩ = some (.slice A0_3 l0_3.length c0_3) := (kc_ BK151.out 3).trans rfl
       have hcz13_4 : w3.cell? ⟨gb151, 4, none⟩ = some (.bool a0_4) := (kc_ BK151.out 4).trans rfl
       have hcz13_5 : w3.cell? ⟨gb151, 5, none⟩ = some (.bool a0_5) := (kc_ BK151.out 5).trans rfl
       have hcz13_6 : w3.cell? ⟨gb151, 6, none⟩ = some (.int .u64 a0_6) := (kc_ BK151.out 6).trans rfl
       have hcz13_7 : w3.cell? ⟨gb151, 7, none⟩ = some (.int .u64 a0_7) := (kc_ BK151.out 7).trans rfl
       have hcz13_8 : w3.cell? ⟨gb151, 8, none⟩ = some (.int .u64 a0_8) := (kc_ BK151.out 8).trans rfl
       have hcz13_9 : w3.cell? ⟨gb151, 9, none⟩ = some (.int .u64 a0_9) := (kc_ BK151.out 9).trans rfl
       have hcz13_10 : w3.cell? ⟨gb151, 10, none⟩ = some (.int .u64 a0_10) := (kc_ BK151.out 10).trans rfl
       have hcz13_11 : w3.cell? ⟨gb151, 11, none⟩ = some (.int .u64 a0_11) := (kc_ BK151.out 11).trans rfl
       have hcz13_12 : w3.cell? ⟨gb151, 12, none⟩ = some (.int .i64 a0_12) := (kc_ BK151.out 12).trans rfl
       have hfz13_0 := kf_ BK151.out 0
       have hfz13_1 := kf_ BK151.out 1
       have hfz13_2 := kf_ BK151.out 2
       have hfz13_3 := kf_ BK151.out 3
       have hfz13_4 := kf_ BK151.out 4
       have hfz13_5 := kf_ BK151.out 5
       have hfz13_6 := kf_ BK151.out 6
       have hfz13_7 := kf_ BK151.out 7
       have hfz13_8 := kf_ BK151.out 8
       have hfz13_9 := kf_ BK151.out 9
       have hfz13_10 := kf_ BK151.out 10
       have hfz13_11 := kf_ BK151.out 11
       have hfz13_12 := kf_ BK151.out 12
       go_wp2_with (first | ((with_reducible refine gate_callee (f := 46) rfl ?_); refine goesL_ (some 11) rfl rfl Try.func46 (by kernel_rfl) rfl #[.int .i64 a0_1, .int .u64 1] rfl (by (try simp only [map_toArray, map_cons, map_nil]); first | done | rfl | (simp only [length_drop, length_take]; rfl)) ?_; (with_reducible refine (node_Check.calls k a0_1 1 t152 _ A4.out).mono ?_); rintro e w' ⟨rfl, ⟨nd, rfl⟩⟩; refine ⟨_, rfl, ?_⟩) | (go_at_call 47; (with_reducible refine (head_shut.calls a0_4 a0_5 a0_6 a0_7 a0_8 a0_9 a0_10 a0_11 a0_12 t153 _ A12.out).mono ?_); rintro e w14 ⟨rfl, hb⟩; have n0_ := ak_ (kb_ (g := gb151) (o := .cells #[.int .i64 a0_0, .int .i64 a0_1, .int .i64 a0_2, .slice A0_3 l0_3.length c0_3, .bool a0_4, .bool a0_5, .int .u64 a0_6, .int .u64 a0_7, .int .u64 a0_8, .int .u64 a0_9, .int .u64 a0_10, .int .u64 a0_11, .int .i64 a0_12] 31 (0, 0)) (by (with_reducible repeat (first | refine kn_ ?_ _ | refine kd_ ?_ | refine ka_ ?_ _)); exact BK151.out) hb); have n1_ := ak_ (bt_ (by repeat (first | (with_reducible first | exact HB.out | apply ba_ | apply bn_ | apply bd_ | refine below_set ?_ GE151.out) | exact HB.out)) hb); clear BK151; clear HB; have BK151 := n0_; have HB := n1_; clear n0_ n1_; (try clear hb); (try clear hb2); (try clear hk); (try clear hi)))
       go_meet
       case rel => exact ⟨_, (!t153), (by first | rfl | (simp; done) | (simp [*]; done)), H', ⟨by first | omega | exact Nat.le_refl _⟩, ⟨by (with_reducible repeat (first | refine kn_ ?_ _ | refine kd_ ?_ | refine ka_ ?_ _)); exact BK151.out⟩, ⟨by repeat (first | (with_reducible first | exact HB.out | apply ba_ | apply bn_ | apply bd_ | refine below_set ?_ GE151.out) | exact HB.out)⟩⟩
   ·rw [if_neg c5] at H
    have c5b0 : (t152 == 0) = false := beq_eq_false_iff_ne.mpr c5
    have c5b1 : (t152 != 0) = true := bne_iff_ne.mpr c5
    (first | rw [c5b0] | (simp only [i64_w, i32_w]; rw [c5b0]) | skip)
    have H' := ak_ H
    clear H
    have hcz15_0 : w3.cell? ⟨gb151, 0, none⟩ = some (.int .i64 a0_0) := (kc_ BK151.out 0).trans rfl
    have hcz15_1 : w3.cell? ⟨gb151, 1, none⟩ = some (.int .i64 a0_1) := (kc_ BK151.out 1).trans rfl
    have hcz15_2 : w3.cell? ⟨gb151, 2, none⟩ = some (.int .i64 a0_2) := (kc_ BK151.out 2).trans rfl
    have hcz15_3 : w3.cell? ⟨gb151, 3, none⟩ = some (.slice A0_3 l0_3.length c0_3) := (kc_ BK151.out 3).trans rfl
    have hcz15_4 : w3.cell? ⟨gb151, 4, none⟩ = some (.bool a0_4) := (kc_ BK151.out 4).trans rfl
    have hcz15_5 : w3.cell? ⟨gb151, 5, none⟩ = some (.bool a0_5) := (kc_ BK151.out 5).trans rfl
    have hcz15_6 : w3.cell? ⟨gb151, 6, none⟩ = some (.int .u64 a0_6) := (kc_ BK151.out 6).trans rfl
    have hcz15_7 : w3.cell? ⟨gb151, 7, none⟩ = some (.int .u64 a0_7) := (kc_ BK151.out 7).trans rfl
    have hcz15_8 : w3.cell? ⟨gb151, 8, none⟩ = some (.int .u64 a0_8) := (kc_ BK151.out 8).trans rfl
    have hcz15_9 : w3.cell? ⟨gb151, 9, none⟩ = some (.int .u64 a0_9) := (kc_ BK151.out 9).trans rfl
    have hcz15_10 : w3.cell? ⟨gb151, 10, none⟩ = some (.int .u64 a0_10) := (kc_ BK151.out 10).trans rfl
    have hcz15_11 : w3.cell? ⟨gb151, 11, none⟩ = some (.int .u64 a0_11) := (kc_ BK151.out 11).trans rfl
    have hcz15_12 : w3.cell? ⟨gb151, 12, none⟩ = some (.int .i64 a0_12) := (kc_ BK151.out 12).trans rfl
    have hfz15_0 := kf_ BK151.out 0
    have hfz15_1 := kf_ BK151.out 1
    have hfz15_2 := kf_ BK151.out 2
    have hfz15_3 := kf_ BK151.out 3
    have hfz15_4 := kf_ BK151.out 4
    have hfz15_5 := kf_ BK151.out 5
    have hfz15_6 := kf_ BK151.out 6
    have hfz15_7 := kf_ BK151.out 7
    have hfz15_8 := kf_ BK151.out 8
    have hfz15_9 := kf_ BK151.out 9
    have hfz15_10 := kf_ BK151.out 10
    have hfz15_11 := kf_ BK151.out 11
    have hfz15_12 := kf_ BK151.out 12
    go_wp2_with (first | ((with_reducible refine gate_callee (f := 46) rfl ?_); refine goesL_ (some 11) rfl rfl Try.func46 (by kernel_rfl) rfl #[.int .i64 a0_1, .int .u64 1] rfl (by (try simp only [map_toArray, map_cons, map_nil]); first | done | rfl | (simp only [length_drop, length_take]; rfl)) ?_; (with_reducible refine (node_Check.calls k a0_1 1 t152 _ A4.out).mono ?_); rintro e w' ⟨rfl, ⟨nd, rfl⟩⟩; refine ⟨_, rfl, ?_⟩))
    go_meet
    case rel => exact ⟨_, (true), (by first | rfl | (simp; done) | (simp [*]; done)), H', ⟨by first | omega | exact Nat.le_refl _⟩, ⟨by (with_reducible repeat (first | refine kn_ ?_ _ | refine kd_ ?_ | refine ka_ ?_ _)); exact BK151.out⟩, ⟨by repeat (first | (with_reducible first | exact HB.out | apply ba_ | apply bn_ | apply bd_ | refine below_set ?_ GE151.out) | exact HB.out)⟩⟩
  case rest =>
   clear HC2
   try clear c1
   try clear p2
   try clear c4
   try clear c5
   try clear c5b0
   try clear c5b1
   try clear c6
   try clear c6b0
   try clear c8
   try clear c8b0
   try clear c10
   try clear c10b0
   try clear c10b1
   try clear hcz11_0
   try clear hcz11_1
   try clear hcz11_10
   try clear hcz11_11
   try clear hcz11_12
   try clear hcz11_2
   try clear hcz11_3
   try clear hcz11_4
   try clear hcz11_5
   try clear hcz11_6
   try clear hcz11_7
   try clear hcz11_8
   try clear hcz11_9
   try clear hcz13_0
   try clear hcz13_1
   try clear hcz13_10
   try clear hcz13_11
   try clear hcz13_12
   try clear hcz13_2
   try clear hcz13_3
   try clear hcz13_4
   try clear hcz13_5
   try clear hcz13_6
   try clear hcz13_7
   try clear hcz13_8
   try clear hcz13_9
   try clear hcz15_0
   try clear hcz15_1
   try clear hcz15_10
   try clear hcz15_11
   try clear hcz15_12
   try clear hcz15_2
   try clear hcz15_3
   try clear hcz15_4
   try clear hcz15_5
   try clear hcz15_6
   try clear hcz15_7
   try clear hcz15_8
   try clear hcz15_9
   try clear hcz7_0
   try clear hcz7_1
   try clear hcz7_10
   try clear hcz7_11
   try clear hcz7_12
   try clear hcz7_2
   try clear hcz7_3
   try clear hcz7_4
   try clear hcz7_5
   try clear hcz7_6
   try clear hcz7_7
   try clear hcz7_8
   try clear hcz7_9
   try clear hcz9_0
   try clear hcz9_1
   try clear hcz9_10
   try clear hcz9_11
   try clear hcz9_12
   try clear hcz9_2
   try clear hcz9_3
   try clear hcz9_4
   try clear hcz9_5
   try clear hcz9_6
   try clear hcz9_7
   try clear hcz9_8
   try clear hcz9_9
   try clear hfz11_0
   try clear hfz11_1
   try clear hfz11_10
   try clear hfz11_11
   try clear hfz11_12
   try clear hfz11_2
   try clear hfz11_3
   try clear hfz11_4
   try clear hfz11_5
   try clear hfz11_6
   try clear hfz11_7
   try clear hfz11_8
   try clear hfz11_9
   try clear hfz13_0
   try clear hfz13_1
   try clear hfz13_10
   try clear hfz13_11
   try clear hfz13_12
   try clear hfz13_2
   try clear hfz13_3
   try clear hfz13_4
   try clear hfz13_5
   try clear hfz13_6
   try clear hfz13_7
   try clear hfz13_8
   try clear hfz13_9
   try clear hfz15_0
   try clear hfz15_1
   try clear hfz15_10
   try clear hfz15_11
   try clear hfz15_12
   try clear hfz15_2
   try clear hfz15_3
   try clear hfz15_4
   try clear hfz15_5
   try clear hfz15_6
   try clear hfz15_7
   try clear hfz15_8
   try clear hfz15_9
   try clear hfz7_0
   try clear hfz7_1
   try clear hfz7_10
   try clear hfz7_11
   try clear hfz7_12
   try clear hfz7_2
   try clear hfz7_3
   try clear hfz7_4
   try clear hfz7_5
   try clear hfz7_6
   try clear hfz7_7
   try clear hfz7_8
   try clear hfz7_9
   try clear hfz9_0
   try clear hfz9_1
   try clear hfz9_10
   try clear hfz9_11
   try clear hfz9_12
   try clear hfz9_2
   try clear hfz9_3
   try clear hfz9_4
   try clear hfz9_5
   try clear hfz9_6
   try clear hfz9_7
   try clear hfz9_8
   try clear hfz9_9
   obtain ⟨kq, x34_1, rfl, HA, HJ1, BK151, HB⟩ := hcut
   cases kq with
   | zero => exact absurd HA.out (by simp [head_Check.j0])
   | succ kj1 =>
    have H := HA.out
    clear HA
    simp only [head_Check.j0] at H
    by_cases c16 : x34_1 = true
    ·subst c16
     have H1 : (some 1) = some r := by rw [if_pos rfl] at H; exact H
     clear H
     have H := H1
     clear H1
     obtain rfl := Option.some.inj H
     go_wp2
     go_ret
     exact ⟨by first | rfl | (simp <;> rfl) | (simp [*] <;> rfl), by repeat (first | (with_reducible first | exact HB.out | apply ba_ | apply bn_ | apply bd_ | refine below_set ?_ GE151.out) | exact HB.out)⟩
    ·replace c16 := Bool.eq_false_iff.mpr c16
     subst c16
     have H1 : ((layer_May.f kj1 a0_1 a0_0 1 0).bind fun bt154 => (if bt154.2 = 0 then (head_Check.l0 kj1 l0_3 (l0_3.length : Int) 0 a0_0 a0_1 a0_2 l0_3 a0_4 a0_5 a0_6 a0_7 a0_8 a0_9 a0_10 a0_11 a0_12) else (some bt154.2))) = some r := by rw [if_neg (show ¬ (false = true) by decide)] at H; exact H
     clear H
     have H := H1
     clear H1
     replace H := Option.bind_eq_some_iff.mp H
     obtain ⟨⟨t154, t155⟩, A170, H⟩ := H
     replace H : (if t155 = 0 then (head_Check.l0 kj1 l0_3 (l0_3.length : Int) 0 a0_0 a0_1 a0_2 l0_3 a0_4 a0_5 a0_6 a0_7 a0_8 a0_9 a0_10 a0_11 a0_12) else (some t155)) = some r := H
     have A17 := ak_ A170
     clear A170
     by_cases c18 : t155 = 0
     ·rw [if_pos c18] at H
      have c18b0 : (t155 == 0) = true := beq_iff_eq.mpr c18
      have c18b1 : (t155 != 0) = false := bne_eq_false_iff_eq.mpr c18
      clear c18
      have H' := ak_ H
      clear H
      have hcz19_0 : wc.cell? ⟨gb151, 0, none⟩ = some (.int .i64 a0_0) := (kc_ BK151.out 0).trans rfl
      have hcz19_1 : wc.cell? ⟨gb151, 1, none⟩ = some (.int .i64 a0_1) := (kc_ BK151.out 1).trans rfl
      have hcz19_2 : wc.cell? ⟨gb151, 2, none⟩ = some (.int .i64 a0_2) := (kc_ BK151.out 2).trans rfl
      have hcz19_3 : wc.cell? ⟨gb151, 3, none⟩ = some (.slice A0_3 l0_3.length c0_3) := (kc_ BK151.out 3).trans rfl
      have hcz19_4 : wc.cell? ⟨gb151, 4, none⟩ = some (.bool a0_4) := (kc_ BK151.out 4).trans rfl
      have hcz19_5 : wc.cell? ⟨gb151, 5, none⟩ = some (.bool a0_5) := (kc_ BK151.out 5).trans rfl
      have hcz19_6 : wc.cell? ⟨gb151, 6, none⟩ = some (.int .u64 a0_6) := (kc_ BK151.out 6).trans rfl
      have hcz19_7 : wc.cell? ⟨gb151, 7, none⟩ = some (.int .u64 a0_7) := (kc_ BK151.out 7).trans rfl
      have hcz19_8 : wc.cell? ⟨gb151, 8, none⟩ = some (.int .u64 a0_8) := (kc_ BK151.out 8).trans rfl
      have hcz19_9 : wc.cell? ⟨gb151, 9, none⟩ = some (.int .u64 a0_9) := (kc_ BK151.out 9).trans rfl
      have hcz19_10 : wc.cell? ⟨gb151, 10, none⟩ = some (.int .u64 a0_10) := (kc_ BK151.out 10).trans rfl
      have hcz19_11 : wc.cell? ⟨gb151, 11, none⟩ = some (.int .u64 a0_11) := (kc_ BK151.out 11).trans rfl
      have hcz19_12 : wc.cell? ⟨gb151, 12, none⟩ = some (.int .i64 a0_12) := (kc_ BK151.out 12).trans rfl
      have hfz19_0 := kf_ BK151.out 0
      have hfz19_1 := kf_ BK151.out 1
      have hfz19_2 := kf_ BK151.out 2
      have hfz19_3 := kf_ BK151.out 3
      have hfz19_4 := kf_ BK151.out 4
      have hfz19_5 := kf_ BK151.out 5
      have hfz19_6 := kf_ BK151.out 6
      have hfz19_7 := kf_ BK151.out 7
      have hfz19_8 := kf_ BK151.out 8
      have hfz19_9 := kf_ BK151.out 9
      have hfz19_10 := kf_ BK151.out 10
      have hfz19_11 := kf_ BK151.out 11
      have hfz19_12 := kf_ BK151.out 12
      go_wp2_with (first | ((with_reducible refine gate_callee (f := 48) rfl ?_); refine goesL_ (some 41) rfl rfl Try.func48 (by kernel_rfl) rfl #[.int .i64 a0_1, .int .i64 a0_0, .agg #[.int .u64 1, .int .u64 0]] rfl (by (try simp only [map_toArray, map_cons, map_nil]); first | done | rfl | (simp only [length_drop, length_take]; rfl)) ?_; (with_reducible refine (layer_May.calls kj1 a0_1 a0_0 1 0 t154 t155 _ A17.out).mono ?_); rintro e w20 ⟨rfl, hb⟩; refine ⟨_, rfl, ?_⟩; have n0_ := ak_ (kb_ (g := gb151) (o := .cells #[.int .i64 a0_0, .int .i64 a0_1, .int .i64 a0_2, .slice A0_3 l0_3.length c0_3, .bool a0_4, .bool a0_5, .int .u64 a0_6, .int .u64 a0_7, .int .u64 a0_8, .int .u64 a0_9, .int .u64 a0_10, .int .u64 a0_11, .int .i64 a0_12] 31 (0, 0)) (by (with_reducible repeat (first | refine kn_ ?_ _ | refine kd_ ?_ | refine ka_ ?_ _)); exact BK151.out) hb); have n1_ := ak_ (bt_ (by repeat (first | (with_reducible first | exact HB.out | apply ba_ | apply bn_ | apply bd_ | refine below_set ?_ GE151.out) | exact HB.out)) hb); clear BK151; clear HB; have BK151 := n0_; have HB := n1_; clear n0_ n1_; (try clear hb); (try clear hb2); (try clear hk); (try clear hi); have hcz21_0 : w20.cell? ⟨gb151, 0, none⟩ = some (.int .i64 a0_0) := (kc_ BK151.out 0).trans rfl; have hcz21_1 : w20.cell? ⟨gb151, 1, none⟩ = some (.int .i64 a0_1) := (kc_ BK151.out 1).trans rfl; have hcz21_2 : w20.cell? ⟨gb151, 2, none⟩ = some (.int .i64 a0_2) := (kc_ BK151.out 2).trans rfl; have hcz21_3 : w20.cell? ⟨gb151, 3, none⟩ = some (.slice A0_3 l0_3.length c0_3) := (kc_ BK151.out 3).trans rfl; have hcz21_4 : w20.cell? ⟨gb151, 4, none⟩ = some (.bool a0_4) := (kc_ BK151.out 4).trans rfl; have hcz21_5 : w20.cell? ⟨gb151, 5, none⟩ = some (.bool a0_5) := (kc_ BK151.out 5).trans rfl; have hcz21_6 : w20.cell? ⟨gb151, 6, none⟩ = some (.int .u64 a0_6) := (kc_ BK151.out 6).trans rfl; have hcz21_7 : w20.cell? ⟨gb151, 7, none⟩ = some (.int .u64 a0_7) := (kc_ BK151.out 7).trans rfl; have hcz21_8 : w20.cell? ⟨gb151, 8, none⟩ = some (.int .u64 a0_8) := (kc_ BK151.out 8).trans rfl; have hcz21_9 : w20.cell? ⟨gb151, 9, none⟩ = some (.int .u64 a0_9) := (kc_ BK151.out 9).trans rfl; have hcz21_10 : w20.cell? ⟨gb151, 10, none⟩ = some (.int .u64 a0_10) := (kc_ BK151.out 10).trans rfl; have hcz21_11 : w20.cell? ⟨gb151, 11, none⟩ = some (.int .u64 a0_11) := (kc_ BK151.out 11).trans rfl; have hcz21_12 : w20.cell? ⟨gb151, 12, none⟩ = some (.int .i64 a0_12) := (kc_ BK151.out 12).trans rfl; have hfz21_0 := kf_ BK151.out 0; have hfz21_1 := kf_ BK151.out 1; have hfz21_2 := kf_ BK151.out 2; have hfz21_3 := kf_ BK151.out 3; have hfz21_4 := kf_ BK151.out 4; have hfz21_5 := kf_ BK151.out 5; have hfz21_6 := kf_ BK151.out 6; have hfz21_7 := kf_ BK151.out 7; have hfz21_8 := kf_ BK151.out 8; have hfz21_9 := kf_ BK151.out 9; have hfz21_10 := kf_ BK151.out 10; have hfz21_11 := kf_ BK151.out 11; have hfz21_12 := kf_ BK151.out 12))
      go_loopg [50] kj1 (fun kq v50 w' => ∃ (x50_2 : Int), v50 = .int .i64 x50_2 ∧ Aside0 (head_Check.l0 kq l0_3 (l0_3.length : Int) x50_2 a0_0 a0_1 a0_2 l0_3 a0_4 a0_5 a0_6 a0_7 a0_8 a0_9 a0_10 a0_11 a0_12 = some r) ∧ Aside0 (kq ≤ kj1) ∧ Aside0 (w'.heap[gb151]? = some (.cells #[.int .i64 a0_0, .int .i64 a0_1, .int .i64 a0_2, (.slice A0_3 l0_3.length c0_3), .bool a0_4, .bool a0_5, .int .u64 a0_6, .int .u64 a0_7, .int .u64 a0_8, .int .u64 a0_9, .int .u64 a0_10, .int .u64 a0_11, .int .i64 a0_12] 31 (0, 0))) ∧ Aside0 (Below w.heap.size w w'))
      case atStart => exact ⟨(0), (by first | rfl | (simp; done) | (simp [*]; done)), H', ⟨Nat.le_refl _⟩, ⟨by (with_reducible repeat (first | refine kn_ ?_ _ | refine kd_ ?_ | refine ka_ ?_ _)); exact BK151.out⟩, ⟨by repeat (first | (with_reducible first | exact HB.out | apply ba_ | apply bn_ | apply bd_ | refine below_set ?_ GE151.out) | exact HB.out)⟩⟩
      case round =>
       clear H'
       try clear c1
       try clear p2
       try clear c4
       try clear c5
       try clear c5b0
       try clear c5b1
       try clear c6
       try clear c6b0
       try clear c8
       try clear c8b0
       try clear c10
       try clear c10b0
       try clear c10b1
       try clear c16
       try clear c18
       try clear c18b0
       try clear c18b1
       try clear hcz11_0
       try clear hcz11_1
       try clear hcz11_10
       try clear hcz11_11
       try clear hcz11_12
       try clear hcz11_2
       try clear hcz11_3
       try clear hcz11_4
       try clear hcz11_5
       try clear hcz11_6
       try clear hcz11_7
       try clear hcz11_8
       try clear hcz11_9
       try clear hcz13_0
       try clear hcz13_1
       try clear hcz13_10
       try clear hcz13_11
       try clear hcz13_12
       try clear hcz13_2
       try clear hcz13_3
       try clear hcz13_4
       try clear hcz13_5
       try clear hcz13_6
       try clear hcz13_7
       try clear hcz13_8
       try clear hcz13_9
       try clear hcz15_0
       try clear hcz15_1
       try clear hcz15_10
       try clear hcz15_11
       try clear hcz15_12
       try clear hcz15_2
       try clear hcz15_3
       try clear hcz15_4
       try clear hcz15_5
       try clear hcz15_6
       try clear hcz15_7
       try clear hcz15_8
       try clear hcz15_9
       try clear hcz19_0
       try clear hcz19_1
       try clear hcz19_10
       try clear hcz19_11
       try clear hcz19_12
       try clear hcz19_2
       try clear hcz19_3
       try clear hcz19_4
       try clear hcz19_5
       try clear hcz19_6
       try clear hcz19_7
       try clear hcz19_8
       try clear hcz19_9
       try clear hcz21_0
       try clear hcz21_1
       try clear hcz21_10
       try clear hcz21_11
       try clear hcz21_12
       try clear hcz21_2
       try clear hcz21_3
       try clear hcz21_4
       try clear hcz21_5
       try clear hcz21_6
       try clear hcz21_7
       try clear hcz21_8
       try clear hcz21_9
       try clear hcz7_0
       try clear hcz7_1
       try clear hcz7_10
       try clear hcz7_11
       try clear hcz7_12
       try clear hcz7_2
       try clear hcz7_3
       try clear hcz7_4
       try clear hcz7_5
       try clear hcz7_6
       try clear hcz7_7
       try clear hcz7_8
       try clear hcz7_9
       try clear hcz9_0
       try clear hcz9_1
       try clear hcz9_10
       try clear hcz9_11
       try clear hcz9_12
       try clear hcz9_2
       try clear hcz9_3
       try clear hcz9_4
       try clear hcz9_5
       try clear hcz9_6
       try clear hcz9_7
       try clear hcz9_8
       try clear hcz9_9
       try clear hfz11_0
       try clear hfz11_1
       try clear hfz11_10
       try clear hfz11_11
       try clear hfz11_12
       try clear hfz11_2
       try clear hfz11_3
       try clear hfz11_4
       try clear hfz11_5
       try clear hfz11_6
       try clear hfz11_7
       try clear hfz11_8
       try clear hfz11_9
       try clear hfz13_0
       try clear hfz13_1
       try clear hfz13_10
       try clear hfz13_11
       try clear hfz13_12
       try clear hfz13_2
       try clear hfz13_3
       try clear hfz13_4
       try clear hfz13_5
       try clear hfz13_6
       try clear hfz13_7
       try clear hfz13_8
       try clear hfz13_9
       try clear hfz15_0
       try clear hfz15_1
       try clear hfz15_10
       try clear hfz15_11
       try clear hfz15_12
       try clear hfz15_2
       try clear hfz15_3
       try clear hfz15_4
       try clear hfz15_5
       try clear hfz15_6
       try clear hfz15_7
       try clear hfz15_8
       try clear hfz15_9
       try clear hfz19_0
       try clear hfz19_1
       try clear hfz19_10
       try clear hfz19_11
       try clear hfz19_12
       try clear hfz19_2
       try clear hfz19_3
       try clear hfz19_4
       try clear hfz19_5
       try clear hfz19_6
       try clear hfz19_7
       try clear hfz19_8
       try clear hfz19_9
       try clear hfz21_0
       try clear hfz21_1
       try clear hfz21_10
       try clear hfz21_11
       try clear hfz21_12
       try clear hfz21_2
       try clear hfz21_3
       try clear hfz21_4
       try clear hfz21_5
       try clear hfz21_6
       try clear hfz21_7
       try clear hfz21_8
       try clear hfz21_9
       try clear hfz7_0
       try clear hfz7_1
       try clear hfz7_10
       try clear hfz7_11
       try clear hfz7_12
       try clear hfz7_2
       try clear hfz7_3
       try clear hfz7_4
       try clear hfz7_5
       try clear hfz7_6
       try clear hfz7_7
       try clear hfz7_8
       try clear hfz7_9
       try clear hfz9_0
       try clear hfz9_1
       try clear hfz9_10
       try clear hfz9_11
       try clear hfz9_12
       try clear hfz9_2
       try clear hfz9_3
       try clear hfz9_4
       try clear hfz9_5
       try clear hfz9_6
       try clear hfz9_7
       try clear hfz9_8
       try clear hfz9_9
       try clear p2
       obtain ⟨x50_2, rfl, HA, HK2, BK151, HB⟩ := hrel
       cases gk with
       | zero => exact absurd HA.out (by simp [head_Check.l0])
       | succ k2 =>
        have H := HA.out
        clear HA
        simp only [head_Check.l0] at H
        by_cases c22 : x50_2 < (l0_3.length : Int)
        ·rw [if_pos c22] at H
         have c22b0 : decide (x50_2 < (l0_3.length : Int)) = true := decide_eq_true c22
         clear c22
         by_cases c23 : 0 ≤ x50_2
         ·rw [if_pos c23] at H
          have c23b0 : decide (0 ≤ x50_2) = true := decide_eq_true c23
          clear c23
          by_cases c24 : x50_2 < (l0_3.length : Int)
          ·rw [if_pos c24] at H
           have c24b0 : decide (x50_2 < (l0_3.length : Int)) = true := decide_eq_true c24
           clear c24
           replace H := Option.bind_eq_some_iff.mp H
           obtain ⟨⟨t158, t159⟩, A250, H⟩ := H
           replace H : (if t159 = 0 then (if t158 = true then ((head_shut.f ((rd_T41 l0_3 x50_2).f1.f0) ((rd_T41 l0_3 x50_2).f1.f1) ((rd_T41 l0_3 x50_2).f1.f2.f0) ((rd_T41 l0_3 x50_2).f1.f2.f1) ((rd_T41 l0_3 x50_2).f1.f3.f0.f0) ((rd_T41 l0_3 x50_2).f1.f3.f0.f1) ((rd_T41 l0_3 x50_2).f1.f3.f1.f0) ((rd_T41 l0_3 x50_2).f1.f3.f1.f1) ((rd_T41 l0_3 x50_2).f1.f4)).bind fun t160 => (if t160 = true then (if x50_2 > 0 then (if 0 ≤ (wrap64 (x50_2 - 1)) then (if (wrap64 (x50_2 - 1)) < (l0_3.length : Int) then ((sub_Less.f k2 ((rd_T41 l0_3 (wrap64 (x50_2 - 1))).f0.f0) ((rd_T41 l0_3 (wrap64 (x50_2 - 1))).f0.f1) ((rd_T41 l0_3 x50_2).f0.f0) ((rd_T41 l0_3 x50_2).f0.f1)).bind fun t162 => (if t162 = true then (head_Check.l0 k2 l0_3 (l0_3.length : Int) (wrap64 (x50_2 + 1)) a0_0 a0_1 a0_2 l0_3 a0_4 a0_5 a0_6 a0_7 a0_8 a0_9 a0_10 a0_11 a0_12) else (some 1))) else (none)) else (none)) else (head_Check.l0 k2 l0_3 (l0_3.length : Int) (wrap64 (x50_2 + 1)) a0_0 a0_1 a0_2 l0_3 a0_4 a0_5 a0_6 a0_7 a0_8 a0_9 a0_10 a0_11 a0_12)) else (some 1))) else (some 1)) else (some 1)) = some r := H
           have A25 := ak_ A250
           clear A250
           by_cases c26 : t159 = 0
           ·rw [if_pos c26] at H
            have c26b0 : (t159 == 0) = true := beq_iff_eq.mpr c26
            have c26b1 : (t159 != 0) = false := bne_eq_false_iff_eq.mpr c26
            clear c26
            by_cases c27 : t158 = true
            ·subst c27
             have H1 : ((head_shut.f ((rd_T41 l0_3 x50_2).f1.f0) ((rd_T41 l0_3 x50_2).f1.f1) ((rd_T41 l0_3 x50_2).f1.f2.f0) ((rd_T41 l0_3 x50_2).f1.f2.f1) ((rd_T41 l0_3 x50_2).f1.f3.f0.f0) ((rd_T41 l0_3 x50_2).f1.f3.f0.f1) ((rd_T41 l0_3 x50_2).f1.f3.f1.f0) ((rd_T41 l0_3 x50_2).f1.f3.f1.f1) ((rd_T41 l0_3 x50_2).f1.f4)).bind fun t160 => (if t160 = true then (if x50_2 > 0 then (if 0 ≤ (wrap64 (x50_2 - 1)) then (if (wrap64 (x50_2 - 1)) < (l0_3.length : Int) then ((sub_Less.f k2 ((rd_T41 l0_3 (wrap64 (x50_2 - 1))).f0.f0) ((rd_T41 l0_3 (wrap64 (x50_2 - 1))).f0.f1) ((rd_T41 l0_3 x50_2).f0.f0) ((rd_T41 l0_3 x50_2).f0.f1)).bind fun t162 => (if t162 = true then (head_Check.l0 k2 l0_3 (l0_3.length : Int) (wrap64 (x50_2 + 1)) a0_0 a0_1 a0_2 l0_3 a0_4 a0_5 a0_6 a0_7 a0_8 a0_9 a0_10 a0_11 a0_12) else (some 1))) else (none)) else (none)) else (head_Check.l0 k2 l0_3 (l0_3.length : Int) (wrap64 (x50_2 + 1)) a0_0 a0_1 a0_2 l0_3 a0_4 a0_5 a0_6 a0_7 a0_8 a0_9 a0_10 a0_11 a0_12)) else (some 1))) = some r := by rw [if_pos rfl] at H; exact H
             clear H
             have H := H1
             clear H1
             replace H := Option.bind_eq_some_iff.mp H
             obtain ⟨t160, A280, H⟩ := H
             replace H : (if t160 = true then (if x50_2 > 0 then (if 0 ≤ (wrap64 (x50_2 - 1)) then (if (wrap64 (x50_2 - 1)) < (l0_3.length : Int) then ((sub_Less.f k2 ((rd_T41 l0_3 (wrap64 (x50_2 - 1))).f0.f0) ((rd_T41 l0_3 (wrap64 (x50_2 - 1))).f0.f1) ((rd_T41 l0_3 x50_2).f0.f0) ((rd_T41 l0_3 x50_2).f0.f1)).bind fun t162 => (if t162 = true then (head_Check.l0 k2 l0_3 (l0_3.length : Int) (wrap64 (x50_2 + 1)) a0_0 a0_1 a0_2 l0_3 a0_4 a0_5 a0_6 a0_7 a0_8 a0_9 a0_10 a0_11 a0_12) else (some 1))) else (none)) else (none)) else (head_Check.l0 k2 l0_3 (l0_3.length : Int) (wrap64 (x50_2 + 1)) a0_0 a0_1 a0_2 l0_3 a0_4 a0_5 a0_6 a0_7 a0_8 a0_9 a0_10 a0_11 a0_12)) else (some 1)) = some r := H
             have A28 := ak_ A280
             clear A280
             by_cases c29 : t160 = true
             ·subst c29
              have H1 : (if x50_2 > 0 then (if 0 ≤ (wrap64 (x50_2 - 1)) then (if (wrap64 (x50_2 - 1)) < (l0_3.length : Int) then ((sub_Less.f k2 ((rd_T41 l0_3 (wrap64 (x50_2 - 1))).f0.f0) ((rd_T41 l0_3 (wrap64 (x50_2 - 1))).f0.f1) ((rd_T41 l0_3 x50_2).f0.f0) ((rd_T41 l0_3 x50_2).f0.f1)).bind fun t162 => (if t162 = true then (head_Check.l0 k2 l0_3 (l0_3.length : Int) (wrap64 (x50_2 + 1)) a0_0 a0_1 a0_2 l0_3 a0_4 a0_5 a0_6 a0_7 a0_8 a0_9 a0_10 a0_11 a0_12) else (some 1))) else (none)) else (none)) else (head_Check.l0 k2 l0_3 (l0_3.length : Int) (wrap64 (x50_2 + 1)) a0_0 a0_1 a0_2 l0_3 a0_4 a0_5 a0_6 a0_7 a0_8 a0_9 a0_10 a0_11 a0_12)) = some r := by rw [if_pos rfl] at H; exact H
              clear H
              have H := H1
              clear H1
              by_cases c30 : x50_2 > 0
              ·rw [if_pos c30] at H
               have c30b0 : decide (0 < x50_2) = true := decide_eq_true c30
               clear c30
               obtain ⟨ji31, hji31⟩ : ∃ j_ : Int, (wrap64 (x50_2 - 1)) = j_ := ⟨_, rfl⟩
               replace H : (if 0 ≤ (ji31) then (if (ji31) < (l0_3.length : Int) then ((sub_Less.f k2 ((rd_T41 l0_3 (ji31)).f0.f0) ((rd_T41 l0_3 (ji31)).f0.f1) ((rd_T41 l0_3 x50_2).f0.f0) ((rd_T41 l0_3 x50_2).f0.f1)).bind fun t162 => (if t162 = true then (head_Check.l0 k2 l0_3 (l0_3.length : Int) (wrap64 (x50_2 + 1)) a0_0 a0_1 a0_2 l0_3 a0_4 a0_5 a0_6 a0_7 a0_8 a0_9 a0_10 a0_11 a0_12) else (some 1))) else (none)) else (none)) = some r := by first | (rw [hji31] at H; exact H) | (simp only [hji31] at H ⊢; exact H)
               (try rw [hji31] at A25)
               (try rw [hji31] at A28)
               have hji31w : (IntKind.i64.wrap (x50_2 - 1)) = ji31 := (i64_w _).trans hji31
               by_cases c32 : 0 ≤ (ji31)
               ·rw [if_pos c32] at H
                have c32b0 : decide (0 ≤ (ji31)) = true := decide_eq_true c32
                clear c32
                by_cases c33 : (ji31) < (l0_3.length : Int)
                ·rw [if_pos c33] at H
                 have c33b0 : decide ((ji31) < (l0_3.length : Int)) = true := decide_eq_true c33
                 clear c33
                 replace H := Option.bind_eq_some_iff.mp H
                 obtain ⟨t162, A340, H⟩ := H
                 replace H : (if t162 = true then (head_Check.l0 k2 l0_3 (l0_3.length : Int) (wrap64 (x50_2 + 1)) a0_0 a0_1 a0_2 l0_3 a0_4 a0_5 a0_6 a0_7 a0_8 a0_9 a0_10 a0_11 a0_12) else (some 1)) = some r := H
                 have A34 := ak_ A340
                 clear A340
                 by_cases c35 : t162 = true
                 ·subst c35
                  have H1 : (head_Check.l0 k2 l0_3 (l0_3.length : Int) (wrap64 (x50_2 + 1)) a0_0 a0_1 a0_2 l0_3 a0_4 a0_5 a0_6 a0_7 a0_8 a0_9 a0_10 a0_11 a0_12) = some r := by rw [if_pos rfl] at H; exact H
                  clear H
                  have H := H1
                  clear H1
                  have H' := ak_ H
                  clear H
                  have p156 : 0 ≤ (x50_2 : Int) := od_ (by first | (with_reducible assumption) | assumption)
                  have q156 : x50_2 < (l0_3.length : Int) := od_ (by first | (with_reducible assumption) | assumption)
                  obtain ⟨ad156, e156, hx156_0, hx156_1, hx156_2, hx156_3, hx156_4, hx156_5, hx156_6, hx156_7, hx156_8, hx156_9, hx156_10⟩ := at_T41 HR0_3.out x50_2 p156 q156
                  cases e156
                  replace hx156_0 := (HB.out.cell (World.block_lt_of_cell? w _ hx156_0)).trans hx156_0
                  replace hx156_1 := (HB.out.cell (World.block_lt_of_cell? w _ hx156_1)).trans hx156_1
                  replace hx156_2 := (HB.out.cell (World.block_lt_of_cell? w _ hx156_2)).trans hx156_2
                  replace hx156_3 := (HB.out.cell (World.block_lt_of_cell? w _ hx156_3)).trans hx156_3
                  replace hx156_4 := (HB.out.cell (World.block_lt_of_cell? w _ hx156_4)).trans hx156_4
                  replace hx156_5 := (HB.out.cell (World.block_lt_of_cell? w _ hx156_5)).trans hx156_5
                  replace hx156_6 := (HB.out.cell (World.block_lt_of_cell? w _ hx156_6)).trans hx156_6
                  replace hx156_7 := (HB.out.cell (World.block_lt_of_cell? w _ hx156_7)).trans hx156_7
                  replace hx156_8 := (HB.out.cell (World.block_lt_of_cell? w _ hx156_8)).trans hx156_8
                  replace hx156_9 := (HB.out.cell (World.block_lt_of_cell? w _ hx156_9)).trans hx156_9
                  replace hx156_10 := (HB.out.cell (World.block_lt_of_cell? w _ hx156_10)).trans hx156_10
                  replace p156 := eq_true p156
                  replace q156 := eq_true q156
                  try go_wp2_with (first | ((with_reducible refine gate_dst (N := 6) rfl ?_); (try (refine gate_guard (by rfl) ?_; dsimp only)); refine box_event ?hg (N := 6) ?hd (cs := #[.int .u64 0, .int .u64 0, .bool false, .bool false, .int .u64 0, .int .u64 0, .int .u64 0, .int .u64 0, .int .u64 0, .int .u64 0, .int .i64 0]) (t := 41) ?hr ?_; (case hd => rfl); (case hg => rfl); (case hr => first | (go_simp; done) | (go_simp; rfl)); intro gb157 hg w36 hbox hb; have n0_ := ak_ (kb_ (g := gb151) (o := .cells #[.int .i64 a0_0, .int .i64 a0_1, .int .i64 a0_2, .slice (some ad156) l0_3.length c0_3, .bool a0_4, .bool a0_5, .int .u64 a0_6, .int .u64 a0_7, .int .u64 a0_8, .int .u64 a0_9, .int .u64 a0_10, .int .u64 a0_11, .int .i64 a0_12] 31 (0, 0)) (by (with_reducible repeat (first | refine kn_ ?_ _ | refine kd_ ?_ | refine ka_ ?_ _)); exact BK151.out) hb); have n1_ := ak_ (bt_ (by repeat (first | (with_reducible first | exact HB.out | apply ba_ | apply bn_ | apply bd_ | refine below_set ?_ GE151.out) | exact HB.out)) hb); have n2_ := ak_ (hbox); have n3_ := ak_ ((by rw [hg]; exact (bz_ (by repeat (first | (with_reducible first | exact HB.out | apply ba_ | apply bn_ | apply bd_ | refine below_set ?_ GE151.out) | exact HB.out))) : w.heap.size ≤ gb157)); have n4_ := ak_ ((by rw [hg]; exact (bz_ (by repeat (first | (with_reducible first | exact HB.out | apply ba_ | apply bn_ | apply bd_ | refine below_set ?_ GE151.out) | exact HB.out))) : w.heap.size ≤ gb157)); have n5_ := ak_ ((by rw [hg]; exact Nat.ne_of_lt (blk_lt (g := gb151) (o := .cells #[.int .i64 a0_0, .int .i64 a0_1, .int .i64 a0_2, .slice (some ad156) l0_3.length c0_3, .bool a0_4, .bool a0_5, .int .u64 a0_6, .int .u64 a0_7, .int .u64 a0_8, .int .u64 a0_9, .int .u64 a0_10, .int .u64 a0_11, .int .i64 a0_12] 31 (0, 0)) (by (with_reducible repeat (first | refine kn_ ?_ _ | refine kd_ ?_ | refine ka_ ?_ _)); exact BK151.out)) : gb151 ≠ gb157)); have n6_ := ak_ ((by rw [hg]; exact Nat.ne_of_gt (blk_lt (g := gb151) (o := .cells #[.int .i64 a0_0, .int .i64 a0_1, .int .i64 a0_2, .slice (some ad156) l0_3.length c0_3, .bool a0_4, .bool a0_5, .int .u64 a0_6, .int .u64 a0_7, .int .u64 a0_8, .int .u64 a0_9, .int .u64 a0_10, .int .u64 a0_11, .int .i64 a0_12] 31 (0, 0)) (by (with_reducible repeat (first | refine kn_ ?_ _ | refine kd_ ?_ | refine ka_ ?_ _)); exact BK151.out)) : gb157 ≠ gb151)); clear BK151; clear HB; have BK151 := n0_; have HB := n1_; have BK157 := n2_; have GW157 := n3_; have GE157 := n4_; have NB151_157 := n5_; have NB157_151 := n6_; clear n0_ n1_ n2_ n3_ n4_ n5_ n6_; clear hb hbox hg; have hnb37 := NB157_151.out; have hnc37 := NB151_157.out; have hcz38_0 : w36.cell? ⟨gb157, 0, none⟩ = some (.int .u64 0) := (kc_ BK157.out 0).trans rfl; have hcz38_1 : w36.cell? ⟨gb157, 1, none⟩ = some (.int .u64 0) := (kc_ BK157.out 1).trans rfl; have hcz38_2 : w36.cell? ⟨gb157, 2, none⟩ = some (.bool false) := (kc_ BK157.out 2).trans rfl; have hcz38_3 : w36.cell? ⟨gb157, 3, none⟩ = some (.bool false) := (kc_ BK157.out 3).trans rfl; have hcz38_4 : w36.cell? ⟨gb157, 4, none⟩ = some (.int .u64 0) := (kc_ BK157.out 4).trans rfl; have hcz38_5 : w36.cell? ⟨gb157, 5, none⟩ = some (.int .u64 0) := (kc_ BK157.out 5).trans rfl; have hcz38_6 : w36.cell? ⟨gb157, 6, none⟩ = some (.int .u64 0) := (kc_ BK157.out 6).trans rfl; have hcz38_7 : w36.cell? ⟨gb157, 7, none⟩ = some (.int .u64 0) := (kc_ BK157.out 7).trans rfl; have hcz38_8 : w36.cell? ⟨gb157, 8, none⟩ = some (.int .u64 0) := (kc_ BK157.out 8).trans rfl; have hcz38_9 : w36.cell? ⟨gb157, 9, none⟩ = some (.int .u64 0) := (kc_ BK157.out 9).trans rfl; have hcz38_10 : w36.cell? ⟨gb157, 10, none⟩ = some (.int .i64 0) := (kc_ BK157.out 10).trans rfl; have hfz38_0 := kf_ BK157.out 0; have hfz38_1 := kf_ BK157.out 1; have hfz38_2 := kf_ BK157.out 2; have hfz38_3 := kf_ BK157.out 3; have hfz38_4 := kf_ BK157.out 4; have hfz38_5 := kf_ BK157.out 5; have hfz38_6 := kf_ BK157.out 6; have hfz38_7 := kf_ BK157.out 7; have hfz38_8 := kf_ BK157.out 8; have hfz38_9 := kf_ BK157.out 9; have hfz38_10 := kf_ BK157.out 10; have hcz39_0 : w36.cell? ⟨gb151, 0, none⟩ = some (.int .i64 a0_0) := (kc_ BK151.out 0).trans rfl; have hcz39_1 : w36.cell? ⟨gb151, 1, none⟩ = some (.int .i64 a0_1) := (kc_ BK151.out 1).trans rfl; have hcz39_2 : w36.cell? ⟨gb151, 2, none⟩ = some (.int .i64 a0_2) := (kc_ BK151.out 2).trans rfl; have hcz39_3 : w36.cell? ⟨gb151, 3, none⟩ = some (.slice (some ad156) l0_3.length c0_3) := (kc_ BK151.out 3).trans rfl; have hcz39_4 : w36.cell? ⟨gb151, 4, none⟩ = some (.bool a0_4) := (kc_ BK151.out 4).trans rfl; have hcz39_5 : w36.cell? ⟨gb151, 5, none⟩ = some (.bool a0_5) := (kc_ BK151.out 5).trans rfl; have hcz39_6 : w36.cell? ⟨gb151, 6, none⟩ = some (.int .u64 a0_6) := (kc_ BK151.out 6).trans rfl; have hcz39_7 : w36.cell? ⟨gb151, 7, none⟩ = some (.int .u64 a0_7) := (kc_ BK151.out 7).trans rfl; have hcz39_8 : w36.cell? ⟨gb151, 8, none⟩ = some (.int .u64 a0_8) := (kc_ BK151.out 8).trans rfl; have hcz39_9 : w36.cell? ⟨gb151, 9, none⟩ = some (.int .u64 a0_9) := (kc_ BK151.out 9).trans rfl; have hcz39_10 : w36.cell? ⟨gb151, 10, none⟩ = some (.int .u64 a0_10) := (kc_ BK151.out 10).trans rfl; have hcz39_11 : w36.cell? ⟨gb151, 11, none⟩ = some (.int .u64 a0_11) := (kc_ BK151.out 11).trans rfl; have hcz39_12 : w36.cell? ⟨gb151, 12, none⟩ = some (.int .i64 a0_12) := (kc_ BK151.out 12).trans rfl; have hfz39_0 := kf_ BK151.out 0; have hfz39_1 := kf_ BK151.out 1; have hfz39_2 := kf_ BK151.out 2; have hfz39_3 := kf_ BK151.out 3; have hfz39_4 := kf_ BK151.out 4; have hfz39_5 := kf_ BK151.out 5; have hfz39_6 := kf_ BK151.out 6; have hfz39_7 := kf_ BK151.out 7; have hfz39_8 := kf_ BK151.out 8; have hfz39_9 := kf_ BK151.out 9; have hfz39_10 := kf_ BK151.out 10; have hfz39_11 := kf_ BK151.out 11; have hfz39_12 := kf_ BK151.out 12) | ((with_reducible refine gate_callee (f := 48) rfl ?_); refine goesL_ (some 62) rfl rfl Try.func48 (by kernel_rfl) rfl #[.int .i64 a0_1, .int .i64 a0_0, .agg #[.int .u64 ((rd_T41 l0_3 x50_2).f0.f0), .int .u64 ((rd_T41 l0_3 x50_2).f0.f1)]] rfl (by (try simp only [map_toArray, map_cons, map_nil]); first | done | rfl | (simp only [length_drop, length_take]; rfl)) ?_; (with_reducible refine (layer_May.calls k2 a0_1 a0_0 ((rd_T41 l0_3 x50_2).f0.f0) ((rd_T41 l0_3 x50_2).f0.f1) true t159 _ A25.out).mono ?_); rintro e w40 ⟨rfl, hb⟩; refine ⟨_, rfl, ?_⟩; have n0_ := ak_ (kb_ (g := gb151) (o := .cells #[.int .i64 a0_0, .int .i64 a0_1, .int .i64 a0_2, .slice (some ad156) l0_3.length c0_3, .bool a0_4, .bool a0_5, .int .u64 a0_6, .int .u64 a0_7, .int .u64 a0_8, .int .u64 a0_9, .int .u64 a0_10, .int .u64 a0_11, .int .i64 a0_12] 31 (0, 0)) (by (with_reducible repeat (first | refine kn_ ?_ _ | refine kd_ ?_ | refine ka_ ?_ _)); refine blk_far ?_ NB151_157.out _; (with_reducible repeat (first | refine kn_ ?_ _ | refine kd_ ?_ | refine ka_ ?_ _)); refine blk_far ?_ NB151_157.out _; (with_reducible repeat (first | refine kn_ ?_ _ | refine kd_ ?_ | refine ka_ ?_ _)); refine blk_far ?_ NB151_157.out _; (with_reducible repeat (first | refine kn_ ?_ _ | refine kd_ ?_ | refine ka_ ?_ _)); refine blk_far ?_ NB151_157.out _; (with_reducible repeat (first | refine kn_ ?_ _ | refine kd_ ?_ | refine ka_ ?_ _)); refine blk_far ?_ NB151_157.out _; (with_reducible repeat (first | refine kn_ ?_ _ | refine kd_ ?_ | refine ka_ ?_ _)); refine blk_far ?_ NB151_157.out _; (with_reducible repeat (first | refine kn_ ?_ _ | refine kd_ ?_ | refine ka_ ?_ _)); refine blk_far ?_ NB151_157.out _; (with_reducible repeat (first | refine kn_ ?_ _ | refine kd_ ?_ | refine ka_ ?_ _)); refine blk_far ?_ NB151_157.out _; (with_reducible repeat (first | refine kn_ ?_ _ | refine kd_ ?_ | refine ka_ ?_ _)); refine blk_far ?_ NB151_157.out _; (with_reducible repeat (first | refine kn_ ?_ _ | refine kd_ ?_ | refine ka_ ?_ _)); refine blk_far ?_ NB151_157.out _; (with_reducible repeat (first | refine kn_ ?_ _ | refine kd_ ?_ | refine ka_ ?_ _)); refine blk_far ?_ NB151_157.out _; (with_reducible repeat (first | refine kn_ ?_ _ | refine kd_ ?_ | refine ka_ ?_ _)); exact BK151.out) hb); have n1_ := ak_ (kb_ (g := gb157) (o := .cells #[.int .u64 ((rd_T41 l0_3 x50_2).f0.f0), .int .u64 ((rd_T41 l0_3 x50_2).f0.f1), .bool ((rd_T41 l0_3 x50_2).f1.f0), .bool ((rd_T41 l0_3 x50_2).f1.f1), .int .u64 ((rd_T41 l0_3 x50_2).f1.f2.f0), .int .u64 ((rd_T41 l0_3 x50_2).f1.f2.f1), .int .u64 ((rd_T41 l0_3 x50_2).f1.f3.f0.f0), .int .u64 ((rd_T41 l0_3 x50_2).f1.f3.f0.f1), .int .u64 ((rd_T41 l0_3 x50_2).f1.f3.f1.f0), .int .u64 ((rd_T41 l0_3 x50_2).f1.f3.f1.f1), .int .i64 ((rd_T41 l0_3 x50_2).f1.f4)] 41 (0, 0)) (by (with_reducible repeat (first | refine kn_ ?_ _ | refine kd_ ?_ | refine ka_ ?_ _)); refine blk_put (cs := #[.int .u64 ((rd_T41 l0_3 x50_2).f0.f0), .int .u64 ((rd_T41 l0_3 x50_2).f0.f1), .bool ((rd_T41 l0_3 x50_2).f1.f0), .bool ((rd_T41 l0_3 x50_2).f1.f1), .int .u64 ((rd_T41 l0_3 x50_2).f1.f2.f0), .int .u64 ((rd_T41 l0_3 x50_2).f1.f2.f1), .int .u64 ((rd_T41 l0_3 x50_2).f1.f3.f0.f0), .int .u64 ((rd_T41 l0_3 x50_2).f1.f3.f0.f1), .int .u64 ((rd_T41 l0_3 x50_2).f1.f3.f1.f0), .int .u64 ((rd_T41 l0_3 x50_2).f1.f3.f1.f1), .int .i64 0]) ?_ 10 _ rfl; (with_reducible repeat (first | refine kn_ ?_ _ | refine kd_ ?_ | refine ka_ ?_ _)); refine blk_put (cs := #[.int .u64 ((rd_T41 l0_3 x50_2).f0.f0), .int .u64 ((rd_T41 l0_3 x50_2).f0.f1), .bool ((rd_T41 l0_3 x50_2).f1.f0), .bool ((rd_T41 l0_3 x50_2).f1.f1), .int .u64 ((rd_T41 l0_3 x50_2).f1.f2.f0), .int .u64 ((rd_T41 l0_3 x50_2).f1.f2.f1), .int .u64 ((rd_T41 l0_3 x50_2).f1.f3.f0.f0), .int .u64 ((rd_T41 l0_3 x50_2).f1.f3.f0.f1), .int .u64 ((rd_T41 l0_3 x50_2).f1.f3.f1.f0), .int .u64 0, .int .i64 0]) ?_ 9 _ rfl; (with_reducible repeat (first | refine kn_ ?_ _ | refine kd_ ?_ | refine ka_ ?_ _)); refine blk_put (cs := #[.int .u64 ((rd_T41 l0_3 x50_2).f0.f0), .int .u64 ((rd_T41 l0_3 x50_2).f0.f1), .bool ((rd_T41 l0_3 x50_2).f1.f0), .bool ((rd_T41 l0_3 x50_2).f1.f1), .int .u64 ((rd_T41 l0_3 x50_2).f1.f2.f0), .int .u64 ((rd_T41 l0_3 x50_2).f1.f2.f1), .int .u64 ((rd_T41 l0_3 x50_2).f1.f3.f0.f0), .int .u64 ((rd_T41 l0_3 x50_2).f1.f3.f0.f1), .int .u64 0, .int .u64 0, .int .i64 0]) ?_ 8 _ rfl; (with_reducible repeat (first | refine kn_ ?_ _ | refine kd_ ?_ | refine ka_ ?_ _)); refine blk_put (cs := #[.int .u64 ((rd_T41 l0_3 x50_2).f0.f0), .int .u64 ((rd_T41 l0_3 x50_2).f0.f1), .bool ((rd_T41 l0_3 x50_2).f1.f0), .bool ((rd_T41 l0_3 x50_2).f1.f1), .int .u64 ((rd_T41 l0_3 x50_2).f1.f2.f0), .int .u64 ((rd_T41 l0_3 x50_2).f1.f2.f1), .int .u64 ((rd_T41 l0_3 x50_2).f1.f3.f0.f0), .int .u64 0, .int .u64 0, .int .u64 0, .int .i64 0]) ?_ 7 _ rfl; (with_reducible repeat (first | refine kn_ ?_ _ | refine kd_ ?_ | refine ka_ ?_ _)); refine blk_put (cs := #[.int .u64 ((rd_T41 l0_3 x50_2).f0.f0), .int .u64 ((rd_T41 l0_3 x50_2).f0.f1), .bool ((rd_T41 l0_3 x50_2).f1.f0), .bool ((rd_T41 l0_3 x50_2).f1.f1), .int .u64 ((rd_T41 l0_3 x50_2).f1.f2.f0), .int .u64 ((rd_T41 l0_3 x50_2).f1.f2.f1), .int .u64 0, .int .u64 0, .int .u64 0, .int .u64 0, .int .i64 0]) ?_ 6 _ rfl; (with_reducible repeat (first | refine kn_ ?_ _ | refine kd_ ?_ | refine ka_ ?_ _)); refine blk_put (cs := #[.int .u64 ((rd_T41 l0_3 x50_2).f0.f0), .int .u64 ((rd_T41 l0_3 x50_2).f0.f1), .bool ((rd_T41 l0_3 x50_2).f1.f0), .bool ((rd_T41 l0_3 x50_2).f1.f1), .int .u64 ((rd_T41 l0_3 x50_2).f1.f2.f0), .int .u64 0, .int .u64 0, .int .u64 0, .int .u64 0, .int .u64 0, .int .i64 0]) ?_ 5 _ rfl; (with_reducible repeat (first | refine kn_ ?_ _ | refine kd_ ?_ | refine ka_ ?_ _)); refine blk_put (cs := #[.int .u64 ((rd_T41 l0_3 x50_2).f0.f0), .int .u64 ((rd_T41 l0_3 x50_2).f0.f1), .bool ((rd_T41 l0_3 x50_2).f1.f0), .bool ((rd_T41 l0_3 x50_2).f1.f1), .int .u64 0, .int .u64 0, .int .u64 0, .int .u64 0, .int .u64 0, .int .u64 0, .int .i64 0]) ?_ 4 _ rfl; (with_reducible repeat (first | refine kn_ ?_ _ | refine kd_ ?_ | refine ka_ ?_ _)); refine blk_put (cs := #[.int .u64 ((rd_T41 l0_3 x50_2).f0.f0), .int .u64 ((rd_T41 l0_3 x50_2).f0.f1), .bool ((rd_T41 l0_3 x50_2).f1.f0), .bool false, .int .u64 0, .int .u64 0, .int .u64 0, .int .u64 0, .int .u64 0, .int .u64 0, .int .i64 0]) ?_ 3 _ rfl; (with_reducible repeat (first | refine kn_ ?_ _ | refine kd_ ?_ | refine ka_ ?_ _)); refine blk_put (cs := #[.int .u64 ((rd_T41 l0_3 x50_2).f0.f0), .int .u64 ((rd_T41 l0_3 x50_2).f0.f1), .bool false, .bool false, .int .u64 0, .int .u64 0, .int .u64 0, .int .u64 0, .int .u64 0, .int .u64 0, .int .i64 0]) ?_ 2 _ rfl; (with_reducible repeat (first | refine kn_ ?_ _ | refine kd_ ?_ | refine ka_ ?_ _)); refine blk_put (cs := #[.int .u64 ((rd_T41 l0_3 x50_2).f0.f0), .int .u64 0, .bool false, .bool false, .int .u64 0, .int .u64 0, .int .u64 0, .int .u64 0, .int .u64 0, .int .u64 0, .int .i64 0]) ?_ 1 _ rfl; (with_reducible repeat (first | refine kn_ ?_ _ | refine kd_ ?_ | refine ka_ ?_ _)); refine blk_put (cs := #[.int .u64 0, .int .u64 0, .bool false, .bool false, .int .u64 0, .int .u64 0, .int .u64 0, .int .u64 0, .int .u64 0, .int .u64 0, .int .i64 0]) ?_ 0 _ rfl; (with_reducible repeat (first | refine kn_ ?_ _ | refine kd_ ?_ | refine ka_ ?_ _)); exact BK157.out) hb); have n2_ := ak_ (bt_ (by repeat (first | (with_reducible first | exact HB.out | apply ba_ | apply bn_ | apply bd_ | refine below_set ?_ GE151.out | refine below_set ?_ GE157.out) | exact HB.out)) hb); clear BK151; clear BK157; clear HB; have BK151 := n0_; have BK157 := n1_; have HB := n2_; clear n0_ n1_ n2_; (try clear hb); (try clear hb2); (try clear hk); (try clear hi)))
                  have n0_ := ak_ (kd_ BK151.out)
                  have n1_ := ak_ (kd_ BK157.out)
                  have n2_ := ak_ (bd_ HB.out)
                  clear BK151
                  clear BK157
                  clear HB
                  have BK151 := n0_
                  have BK157 := n1_
                  have HB := n2_
                  clear n0_ n1_ n2_
                  have p161 : 0 ≤ ((ji31) : Int) := od_ (by first | (with_reducible assumption) | assumption)
                  have q161 : (ji31) < (l0_3.length : Int) := od_ (by first | (with_reducible assumption) | assumption)
                  obtain ⟨ad161, e161, hx161_0, hx161_1, hx161_2, hx161_3, hx161_4, hx161_5, hx161_6, hx161_7, hx161_8, hx161_9, hx161_10⟩ := at_T41 HR0_3.out (ji31) p161 q161
                  have hw161_10 := hx161_10
                  have hw161_9 := hx161_9
                  have hw161_8 := hx161_8
                  have hw161_7 := hx161_7
                  have hw161_6 := hx161_6
                  have hw161_5 := hx161_5
                  have hw161_4 := hx161_4
                  have hw161_3 := hx161_3
                  have hw161_2 := hx161_2
                  have hw161_1 := hx161_1
                  have hw161_0 := hx161_0
                  obtain rfl : ad156 = ad161 := (by injection e161)
                  replace hx161_0 := (HB.out.cell (World.block_lt_of_cell? w _ hx161_0)).trans hx161_0
                  replace hx161_1 := (HB.out.cell (World.block_lt_of_cell? w _ hx161_1)).trans hx161_1
                  replace hx161_2 := (HB.out.cell (World.block_lt_of_cell? w _ hx161_2)).trans hx161_2
                  replace hx161_3 := (HB.out.cell (World.block_lt_of_cell? w _ hx161_3)).trans hx161_3
                  replace hx161_4 := (HB.out.cell (World.block_lt_of_cell? w _ hx161_4)).trans hx161_4
                  replace hx161_5 := (HB.out.cell (World.block_lt_of_cell? w _ hx161_5)).trans hx161_5
                  replace hx161_6 := (HB.out.cell (World.block_lt_of_cell? w _ hx161_6)).trans hx161_6
                  replace hx161_7 := (HB.out.cell (World.block_lt_of_cell? w _ hx161_7)).trans hx161_7
                  replace hx161_8 := (HB.out.cell (World.block_lt_of_cell? w _ hx161_8)).trans hx161_8
                  replace hx161_9 := (HB.out.cell (World.block_lt_of_cell? w _ hx161_9)).trans hx161_9
                  replace hx161_10 := (HB.out.cell (World.block_lt_of_cell? w _ hx161_10)).trans hx161_10
                  replace p161 := eq_true p161
                  replace q161 := eq_true q161
                  refine start_ (n := 29) (S := fun w' => w'.cell? ⟨gb157, 0, none⟩ = some (.int .u64 ((rd_T41 l0_3 x50_2).f0.f0)) ∧ w'.cell? ⟨gb157, 1, none⟩ = some (.int .u64 ((rd_T41 l0_3 x50_2).f0.f1)) ∧ w'.cell? ⟨gb157, 2, none⟩ = some (.bool ((rd_T41 l0_3 x50_2).f1.f0)) ∧ w'.cell? ⟨gb157, 3, none⟩ = some (.bool ((rd_T41 l0_3 x50_2).f1.f1)) ∧ w'.cell? ⟨gb157, 4, none⟩ = some (.int .u64 ((rd_T41 l0_3 x50_2).f1.f2.f0)) ∧ w'.cell? ⟨gb157, 5, none⟩ = some (.int .u64 ((rd_T41 l0_3 x50_2).f1.f2.f1)) ∧ w'.cell? ⟨gb157, 6, none⟩ = some (.int .u64 ((rd_T41 l0_3 x50_2).f1.f3.f0.f0)) ∧ w'.cell? ⟨gb157, 7, none⟩ = some (.int .u64 ((rd_T41 l0_3 x50_2).f1.f3.f0.f1)) ∧ w'.cell? ⟨gb157, 8, none⟩ = some (.int .u64 ((rd_T41 l0_3 x50_2).f1.f3.f1.f0)) ∧ w'.cell? ⟨gb157, 9, none⟩ = some (.int .u64 ((rd_T41 l0_3 x50_2).f1.f3.f1.f1)) ∧ w'.cell? ⟨gb157, 10, none⟩ = some (.int .i64 ((rd_T41 l0_3 x50_2).f1.f4)) ∧ w'.cell? ⟨gb151, 0, none⟩ = some (.int .i64 a0_0) ∧ w'.cell? ⟨gb151, 1, none⟩ = some (.int .i64 a0_1) ∧ w'.cell? ⟨gb151, 2, none⟩ = some (.int .i64 a0_2) ∧ w'.cell? ⟨gb151, 3, none⟩ = some (.slice (some ad156) l0_3.length c0_3) ∧ w'.cell? ⟨gb151, 4, none⟩ = some (.bool a0_4) ∧ w'.cell? ⟨gb151, 5, none⟩ = some (.bool a0_5) ∧ w'.cell? ⟨gb151, 6, none⟩ = some (.int .u64 a0_6) ∧ w'.cell? ⟨gb151, 7, none⟩ = some (.int .u64 a0_7) ∧ w'.cell? ⟨gb151, 8, none⟩ = some (.int .u64 a0_8) ∧ w'.cell? ⟨gb151, 9, none⟩ = some (.int .u64 a0_9) ∧ w'.cell? ⟨gb151, 10, none⟩ = some (.int .u64 a0_10) ∧ w'.cell? ⟨gb151, 11, none⟩ = some (.int .u64 a0_11) ∧ w'.cell? ⟨gb151, 12, none⟩ = some (.int .i64 a0_12) ∧ w'.cell? (ad156.add (((ji31)).toNat * 11)) = some (.int .u64 ((rd_T41 l0_3 (ji31)).f0.f0)) ∧ w'.cell? ⟨(ad156.add (((ji31)).toNat * 11)).block, (ad156.add (((ji31)).toNat * 11)).off + 1, none⟩ = some (.int .u64 ((rd_T41 l0_3 (ji31)).f0.f1)) ∧ w'.cell? ⟨(ad156.add (((ji31)).toNat * 11)).block, (ad156.add (((ji31)).toNat * 11)).off + 2, none⟩ = some (.bool ((rd_T41 l0_3 (ji31)).f1.f0)) ∧ w'.cell? ⟨(ad156.add (((ji31)).toNat * 11)).block, (ad156.add (((ji31)).toNat * 11)).off + 3, none⟩ = some (.bool ((rd_T41 l0_3 (ji31)).f1.f1)) ∧ w'.cell? ⟨(ad156.add (((ji31)).toNat * 11)).block, (ad156.add (((ji31)).toNat * 11)).off + 4, none⟩ = some (.int .u64 ((rd_T41 l0_3 (ji31)).f1.f2.f0)) ∧ w'.cell? ⟨(ad156.add (((ji31)).toNat * 11)).block, (ad156.add (((ji31)).toNat * 11)).off + 5, none⟩ = some (.int .u64 ((rd_T41 l0_3 (ji31)).f1.f2.f1)) ∧ w'.cell? ⟨(ad156.add (((ji31)).toNat * 11)).block, (ad156.add (((ji31)).toNat * 11)).off + 6, none⟩ = some (.int .u64 ((rd_T41 l0_3 (ji31)).f1.f3.f0.f0)) ∧ w'.cell? ⟨(ad156.add (((ji31)).toNat * 11)).block, (ad156.add (((ji31)).toNat * 11)).off + 7, none⟩ = some (.int .u64 ((rd_T41 l0_3 (ji31)).f1.f3.f0.f1)) ∧ w'.cell? ⟨(ad156.add (((ji31)).toNat * 11)).block, (ad156.add (((ji31)).toNat * 11)).off + 8, none⟩ = some (.int .u64 ((rd_T41 l0_3 (ji31)).f1.f3.f1.f0)) ∧ w'.cell? ⟨(ad156.add (((ji31)).toNat * 11)).block, (ad156.add (((ji31)).toNat * 11)).off + 9, none⟩ = some (.int .u64 ((rd_T41 l0_3 (ji31)).f1.f3.f1.f1)) ∧ w'.cell? ⟨(ad156.add (((ji31)).toNat * 11)).block, (ad156.add (((ji31)).toNat * 11)).off + 10, none⟩ = some (.int .i64 ((rd_T41 l0_3 (ji31)).f1.f4))) (ds := []) #[false, false, false, false, false, false, false, false, false, false, false, false, false, false, false, false, false, false, false, false, false, false, false, false, false, false, false, false, false] (by kernel_rfl) rfl rfl ⟨(kc_ BK157.out 0).trans rfl, (kc_ BK157.out 1).trans rfl, (kc_ BK157.out 2).trans rfl, (kc_ BK157.out 3).trans rfl, (kc_ BK157.out 4).trans rfl, (kc_ BK157.out 5).trans rfl, (kc_ BK157.out 6).trans rfl, (kc_ BK157.out 7).trans rfl, (kc_ BK157.out 8).trans rfl, (kc_ BK157.out 9).trans rfl, (kc_ BK157.out 10).trans rfl, (kc_ BK151.out 0).trans rfl, (kc_ BK151.out 1).trans rfl, (kc_ BK151.out 2).trans rfl, (kc_ BK151.out 3).trans rfl, (kc_ BK151.out 4).trans rfl, (kc_ BK151.out 5).trans rfl, (kc_ BK151.out 6).trans rfl, (kc_ BK151.out 7).trans rfl, (kc_ BK151.out 8).trans rfl, (kc_ BK151.out 9).trans rfl, (kc_ BK151.out 10).trans rfl, (kc_ BK151.out 11).trans rfl, (kc_ BK151.out 12).trans rfl, ((HB.out.cell (World.block_lt_of_cell? w _ hw161_0)).trans hw161_0), ((HB.out.cell (World.block_lt_of_cell? w _ hw161_1)).trans hw161_1), ((HB.out.cell (World.block_lt_of_cell? w _ hw161_2)).trans hw161_2), ((HB.out.cell (World.block_lt_of_cell? w _ hw161_3)).trans hw161_3), ((HB.out.cell (World.block_lt_of_cell? w _ hw161_4)).trans hw161_4), ((HB.out.cell (World.block_lt_of_cell? w _ hw161_5)).trans hw161_5), ((HB.out.cell (World.block_lt_of_cell? w _ hw161_6)).trans hw161_6), ((HB.out.cell (World.block_lt_of_cell? w _ hw161_7)).trans hw161_7), ((HB.out.cell (World.block_lt_of_cell? w _ hw161_8)).trans hw161_8), ((HB.out.cell (World.block_lt_of_cell? w _ hw161_9)).trans hw161_9), ((HB.out.cell (World.block_lt_of_cell? w _ hw161_10)).trans hw161_10)⟩ (fun hHeld => ?_); refine with_tabW head_Check.tab10 head_Check.bits10 (fun HT_ HW_ => ?_)
                  generalize w40.drew = w41 at BK151 BK157 HB hx161_0 hx161_1 hx161_10 hx161_2 hx161_3 hx161_4 hx161_5 hx161_6 hx161_7 hx161_8 hx161_9 hHeld ⊢
                  refine pure_ (i := 0) (N := some 65) (v := ?_) (a' := ?_) (bA3 1 29) rfl rfl (any_of HT_.out (by kernel_rfl)) (fun _ _ _ h => h) (Or.inl ⟨by rfl, ?_⟩) ?_ ?_; rotate_left; (intro w'; go_simp; with_reducible rfl); rotate_left; (simp only [Act.put, setIfInBounds_toArray, set_cons_zero, set_cons_succ, i64_w, i32_w]; rfl)
                  refine pure_ (i := 1) (N := some 66) (v := ?_) (a' := ?_) (bA3 2 29) rfl rfl (any_of HT_.out (by kernel_rfl)) (fun _ _ _ h => h) (Or.inl ⟨by rfl, ?_⟩) ?_ ?_; rotate_left; (intro w'; go_simp; with_reducible rfl); rotate_left; (simp only [Act.put, setIfInBounds_toArray, set_cons_zero, set_cons_succ, i64_w, i32_w]; rfl)
                  refine pure_ (i := 2) (N := some 67) (v := ?_) (a' := ?_) (bA3 3 29) rfl rfl (any_of HT_.out (by kernel_rfl)) (fun _ _ _ h => h) (Or.inl ⟨by rfl, ?_⟩) ?_ ?_; rotate_left; (intro w'; go_simp; with_reducible rfl); rotate_left; (simp only [Act.put, setIfInBounds_toArray, set_cons_zero, set_cons_succ, i64_w, i32_w]; rfl)
                  refine pure_ (i := 3) (N := some 68) (v := ?_) (a' := ?_) (bA3 4 29) rfl rfl (any_of HT_.out (by kernel_rfl)) (fun _ _ _ h => h) (Or.inl ⟨by rfl, ?_⟩) ?_ ?_; rotate_left; (intro w'; go_simp; with_reducible rfl); rotate_left; (simp only [Act.put, setIfInBounds_toArray, set_cons_zero, set_cons_succ, i64_w, i32_w]; rfl)
                  refine pure_ (i := 4) (N := some 69) (v := ?_) (a' := ?_) (bA3 5 29) rfl rfl (any_of HT_.out (by kernel_rfl)) (fun _ _ _ h => h) (Or.inl ⟨by rfl, ?_⟩) ?_ ?_; rotate_left; (intro w'; go_simp; with_reducible rfl); rotate_left; (simp only [Act.put, setIfInBounds_toArray, set_cons_zero, set_cons_succ, i64_w, i32_w]; rfl)
                  refine pure_ (i := 5) (N := some 70) (v := ?_) (a' := ?_) (bA3 6 29) rfl rfl (any_of HT_.out (by kernel_rfl)) (fun _ _ _ h => h) (Or.inl ⟨by rfl, ?_⟩) ?_ ?_; rotate_left; (intro w'; go_simp; with_reducible rfl); rotate_left; (simp only [Act.put, setIfInBounds_toArray, set_cons_zero, set_cons_succ, i64_w, i32_w]; rfl)
                  refine pure_ (i := 6) (N := some 71) (v := ?_) (a' := ?_) (bA3 7 29) rfl rfl (any_of HT_.out (by kernel_rfl)) (fun _ _ _ h => h) (Or.inl ⟨by rfl, ?_⟩) ?_ ?_; rotate_left; (intro w'; go_simp; with_reducible rfl); rotate_left; (simp only [Act.put, setIfInBounds_toArray, set_cons_zero, set_cons_succ, i64_w, i32_w]; rfl)
                  refine pure_ (i := 7) (N := some 72) (v := ?_) (a' := ?_) (bA3 8 29) rfl rfl (any_of HT_.out (by kernel_rfl)) (fun _ _ _ h => h) (Or.inl ⟨by rfl, ?_⟩) ?_ ?_; rotate_left; (intro w'; go_simp; with_reducible rfl); rotate_left; (simp only [Act.put, setIfInBounds_toArray, set_cons_zero, set_cons_succ, i64_w, i32_w]; rfl)
                  refine take_ (i := 8) (N := some 73) (v := ?_) (a' := ?_) (bA3 9 29) rfl rfl (take_ofW HT_.out HW_.out (by kernel_rfl)) (fun _ _ _ h => h) (Or.inl ⟨by rfl, ?_⟩) hHeld ?_ ?_
                  rotate_left
                  ·rintro w' ⟨s0, s1, s2, s3, s4, s5, s6, s7, s8, s9, s10, s11, s12, s13, s14, s15, s16, s17, s18, s19, s20, s21, s22, s23, s24, s25, s26, s27, s28, s29, s30, s31, s32, s33, s34⟩
                   go_simp
                   with_reducible rfl
                  rotate_left
                  ·simp only [Act.put, setIfInBounds_toArray, set_cons_zero, set_cons_succ, i64_w, i32_w]
                   rfl
                  refine one_ (i := 9) (N := some 74) (bA3 10 29) rfl rfl (one_of HT_.out (by kernel_rfl)) (by decide) (fun K hK => ?_)
                  refine goes_ Try.func47 (by kernel_rfl) rfl #[.agg #[.bool ((rd_T41 l0_3 x50_2).f1.f0), .bool ((rd_T41 l0_3 x50_2).f1.f1), .int .u64 ((rd_T41 l0_3 x50_2).f1.f2.f0), .int .u64 ((rd_T41 l0_3 x50_2).f1.f2.f1), .int .u64 ((rd_T41 l0_3 x50_2).f1.f3.f0.f0), .int .u64 ((rd_T41 l0_3 x50_2).f1.f3.f0.f1), .int .u64 ((rd_T41 l0_3 x50_2).f1.f3.f1.f0), .int .u64 ((rd_T41 l0_3 x50_2).f1.f3.f1.f1), .int .i64 ((rd_T41 l0_3 x50_2).f1.f4)]] (by rfl) rfl rfl (by (try simp only [map_toArray, map_cons, map_nil]); first | done | rfl | (simp only [length_drop, length_take]; rfl)) ?_
                  with_reducible refine (head_shut.calls ((rd_T41 l0_3 x50_2).f1.f0) ((rd_T41 l0_3 x50_2).f1.f1) ((rd_T41 l0_3 x50_2).f1.f2.f0) ((rd_T41 l0_3 x50_2).f1.f2.f1) ((rd_T41 l0_3 x50_2).f1.f3.f0.f0) ((rd_T41 l0_3 x50_2).f1.f3.f0.f1) ((rd_T41 l0_3 x50_2).f1.f3.f1.f0) ((rd_T41 l0_3 x50_2).f1.f3.f1.f1) ((rd_T41 l0_3 x50_2).f1.f4) true _ A28.out).mono ?_
                  rintro e w42 ⟨rfl, hb⟩
                  refine ⟨_, rfl, ?_⟩
                  have n0_ := ak_ (kb_ (g := gb151) (o := .cells #[.int .i64 a0_0, .int .i64 a0_1, .int .i64 a0_2, .slice (some ad156) l0_3.length c0_3, .bool a0_4, .bool a0_5, .int .u64 a0_6, .int .u64 a0_7, .int .u64 a0_8, .int .u64 a0_9, .int .u64 a0_10, .int .u64 a0_11, .int .i64 a0_12] 31 (0, 0)) (by (with_reducible repeat (first | refine kn_ ?_ _ | refine kd_ ?_ | refine ka_ ?_ _)); exact BK151.out) hb)
                  have n1_ := ak_ (kb_ (g := gb157) (o := .cells #[.int .u64 ((rd_T41 l0_3 x50_2).f0.f0), .int .u64 ((rd_T41 l0_3 x50_2).f0.f1), .bool ((rd_T41 l0_3 x50_2).f1.f0), .bool ((rd_T41 l0_3 x50_2).f1.f1), .int .u64 ((rd_T41 l0_3 x50_2).f1.f2.f0), .int .u64 ((rd_T41 l0_3 x50_2).f1.f2.f1), .int .u64 ((rd_T41 l0_3 x50_2).f1.f3.f0.f0), .int .u64 ((rd_T41 l0_3 x50_2).f1.f3.f0.f1), .int .u64 ((rd_T41 l0_3 x50_2).f1.f3.f1.f0), .int .u64 ((rd_T41 l0_3 x50_2).f1.f3.f1.f1), .int .i64 ((rd_T41 l0_3 x50_2).f1.f4)] 41 (0, 0)) (by (with_reducible repeat (first | refine kn_ ?_ _ | refine kd_ ?_ | refine ka_ ?_ _)); exact BK157.out) hb)
                  have n2_ := ak_ (bt_ (by repeat (first | (with_reducible first | exact HB.out | apply ba_ | apply bn_ | apply bd_ | refine below_set ?_ GE151.out | refine below_set ?_ GE157.out) | exact HB.out)) hb)
                  clear BK151
                  clear BK157
                  clear HB
                  have BK151 := n0_
                  have BK157 := n1_
                  have HB := n2_
                  clear n0_ n1_ n2_
                  (try clear hb)
                  (try clear hb2)
                  (try clear hk)
                  (try clear hi)
                  refine hK.out _ _ ⟨(kc_ BK157.out 0).trans rfl, (kc_ BK157.out 1).trans rfl, (kc_ BK157.out 2).trans rfl, (kc_ BK157.out 3).trans rfl, (kc_ BK157.out 4).trans rfl, (kc_ BK157.out 5).trans rfl, (kc_ BK157.out 6).trans rfl, (kc_ BK157.out 7).trans rfl, (kc_ BK157.out 8).trans rfl, (kc_ BK157.out 9).trans rfl, (kc_ BK157.out 10).trans rfl, (kc_ BK151.out 0).trans rfl, (kc_ BK151.out 1).trans rfl, (kc_ BK151.out 2).trans rfl, (kc_ BK151.out 3).trans rfl, (kc_ BK151.out 4).trans rfl, (kc_ BK151.out 5).trans rfl, (kc_ BK151.out 6).trans rfl, (kc_ BK151.out 7).trans rfl, (kc_ BK151.out 8).trans rfl, (kc_ BK151.out 9).trans rfl, (kc_ BK151.out 10).trans rfl, (kc_ BK151.out 11).trans rfl, (kc_ BK151.out 12).trans rfl, ((HB.out.cell (World.block_lt_of_cell? w _ hw161_0)).trans hw161_0), ((HB.out.cell (World.block_lt_of_cell? w _ hw161_1)).trans hw161_1), ((HB.out.cell (World.block_lt_of_cell? w _ hw161_2)).trans hw161_2), ((HB.out.cell (World.block_lt_of_cell? w _ hw161_3)).trans hw161_3), ((HB.out.cell (World.block_lt_of_cell? w _ hw161_4)).trans hw161_4), ((HB.out.cell (World.block_lt_of_cell? w _ hw161_5)).trans hw161_5), ((HB.out.cell (World.block_lt_of_cell? w _ hw161_6)).trans hw161_6), ((HB.out.cell (World.block_lt_of_cell? w _ hw161_7)).trans hw161_7), ((HB.out.cell (World.block_lt_of_cell? w _ hw161_8)).trans hw161_8), ((HB.out.cell (World.block_lt_of_cell? w _ hw161_9)).trans hw161_9), ((HB.out.cell (World.block_lt_of_cell? w _ hw161_10)).trans hw161_10)⟩ (fun hHeld => ?_)
                  clear hK K
                  refine norm_ (a' := ?_) ?_ ?_
                  rotate_left
                  ·show Act.put _ (some 74) _ = _
                   simp only [Act.put, setIfInBounds_toArray, set_cons_zero, set_cons_succ, i64_w, i32_w]
                   rfl
                  refine pure_ (i := 10) (N := some 75) (v := ?_) (a' := ?_) (bA3 11 29) rfl rfl (any_of HT_.out (by kernel_rfl)) (fun _ _ _ h => h) (Or.inl ⟨by rfl, ?_⟩) ?_ ?_; rotate_left; (intro w'; go_simp; with_reducible rfl); rotate_left; (simp only [Act.put, setIfInBounds_toArray, set_cons_zero, set_cons_succ, i64_w, i32_w]; rfl)
                  refine pure_ (i := 11) (N := some 76) (v := ?_) (a' := ?_) (bA3 12 29) rfl rfl (any_of HT_.out (by kernel_rfl)) (fun _ _ _ h => h) (Or.inl ⟨by rfl, ?_⟩) ?_ ?_; rotate_left; (intro w'; go_simp; with_reducible rfl); rotate_left; (simp only [Act.put, setIfInBounds_toArray, set_cons_zero, set_cons_succ, i64_w, i32_w]; rfl)
                  refine pure_ (i := 12) (N := some 77) (v := ?_) (a' := ?_) (bA3 13 29) rfl rfl (any_of HT_.out (by kernel_rfl)) (fun _ _ _ h => h) (Or.inl ⟨by rfl, ?_⟩) ?_ ?_; rotate_left; (intro w'; go_simp; with_reducible rfl); rotate_left; (simp only [Act.put, setIfInBounds_toArray, set_cons_zero, set_cons_succ, i64_w, i32_w]; rfl)
                  refine pure_ (i := 13) (N := some 78) (v := ?_) (a' := ?_) (bA3 14 29) rfl rfl (any_of HT_.out (by kernel_rfl)) (fun _ _ _ h => h) (Or.inl ⟨by rfl, ?_⟩) ?_ ?_; rotate_left; (intro w'; go_simp; with_reducible rfl); rotate_left; (simp only [Act.put, setIfInBounds_toArray, set_cons_zero, set_cons_succ, i64_w, i32_w]; rfl)
                  refine pure_ (i := 14) (N := some 79) (v := ?_) (a' := ?_) (bA3 15 29) rfl rfl (any_of HT_.out (by kernel_rfl)) (fun _ _ _ h => h) (Or.inl ⟨by rfl, ?_⟩) ?_ ?_; rotate_left; (intro w'; go_simp; with_reducible rfl); rotate_left; (simp only [Act.put, setIfInBounds_toArray, set_cons_zero, set_cons_succ, i64_w, i32_w]; rfl)
                  refine pure_ (i := 15) (N := some 80) (v := ?_) (a' := ?_) (bA3 16 29) rfl rfl (any_of HT_.out (by kernel_rfl)) (fun _ _ _ h => h) (Or.inl ⟨by rfl, ?_⟩) ?_ ?_; rotate_left; (intro w'; go_simp; with_reducible rfl); rotate_left; (simp only [Act.put, setIfInBounds_toArray, set_cons_zero, set_cons_succ, i64_w, i32_w]; rfl)
                  refine pure_ (i := 16) (N := some 81) (v := ?_) (a' := ?_) (bA3 17 29) rfl rfl (any_of HT_.out (by kernel_rfl)) (fun _ _ _ h => h) (Or.inl ⟨by rfl, ?_⟩) ?_ ?_; rotate_left; (intro w'; go_simp; with_reducible rfl); rotate_left; (simp only [Act.put, setIfInBounds_toArray, set_cons_zero, set_cons_succ, i64_w, i32_w]; rfl)
                  refine pure_ (i := 18) (N := some 83) (v := ?_) (a' := ?_) #[true, true, true, true, true, true, true, true, true, true, true, true, true, true, true, true, true, false, true, false, false, false, false, false, false, false, false, false, false] rfl rfl (any_of HT_.out (by kernel_rfl)) (fun _ _ _ h => h) (Or.inl ⟨by rfl, ?_⟩) ?_ ?_; rotate_left; (intro w'; go_simp; with_reducible rfl); rotate_left; (simp only [Act.put, setIfInBounds_toArray, set_cons_zero, set_cons_succ, i64_w, i32_w]; rfl)
                  refine pure_ (i := 19) (N := some 84) (v := ?_) (a' := ?_) #[true, true, true, true, true, true, true, true, true, true, true, true, true, true, true, true, true, false, true, true, false, false, false, false, false, false, false, false, false] rfl rfl (any_of HT_.out (by kernel_rfl)) (fun _ _ _ h => h) (Or.inl ⟨by rfl, ?_⟩) ?_ ?_; rotate_left; (intro w'; go_simp; with_reducible rfl); rotate_left; (simp only [Act.put, setIfInBounds_toArray, set_cons_zero, set_cons_succ, i64_w, i32_w]; rfl)
                  refine pure_ (i := 23) (N := some 88) (v := ?_) (a' := ?_) #[true, true, true, true, true, true, true, true, true, true, true, true, true, true, true, true, true, false, true, true, false, false, false, true, false, false, false, false, false] rfl rfl (any_of HT_.out (by kernel_rfl)) (fun _ _ _ h => h) (Or.inl ⟨by rfl, ?_⟩) ?_ ?_; rotate_left; (intro w'; go_simp; with_reducible rfl); rotate_left; (simp only [Act.put, setIfInBounds_toArray, set_cons_zero, set_cons_succ, i64_w, i32_w]; rfl)
                  refine take_ (i := 17) (N := some 82) (v := ?_) (a' := ?_) #[true, true, true, true, true, true, true, true, true, true, true, true, true, true, true, true, true, true, true, true, false, false, false, true, false, false, false, false, false] rfl rfl (take_ofW HT_.out HW_.out (by kernel_rfl)) (fun _ _ _ h => h) (Or.inl ⟨by rfl, ?_⟩) hHeld ?_ ?_
                  rotate_left
                  ·rintro w' ⟨s0, s1, s2, s3, s4, s5, s6, s7, s8, s9, s10, s11, s12, s13, s14, s15, s16, s17, s18, s19, s20, s21, s22, s23, s24, s25, s26, s27, s28, s29, s30, s31, s32, s33, s34⟩
                   go_simp
                   with_reducible rfl
                  rotate_left
                  ·simp only [Act.put, setIfInBounds_toArray, set_cons_zero, set_cons_succ, i64_w, i32_w]
                   rfl
                  refine pure_ (i := 20) (N := some 85) (v := ?_) (a' := ?_) #[true, true, true, true, true, true, true, true, true, true, true, true, true, true, true, true, true, true, true, true, true, false, false, true, false, false, false, false, false] rfl rfl (any_of HT_.out (by kernel_rfl)) (fun _ _ _ h => h) (Or.inl ⟨by rfl, ?_⟩) ?_ ?_; rotate_left; (intro w'; go_simp; with_reducible rfl); rotate_left; (simp only [Act.put, setIfInBounds_toArray, set_cons_zero, set_cons_succ, i64_w, i32_w]; rfl)
                  refine pure_ (i := 21) (N := some 86) (v := ?_) (a' := ?_) #[true, true, true, true, true, true, true, true, true, true, true, true, true, true, true, true, true, true, true, true, true, true, false, true, false, false, false, false, false] rfl rfl (any_of HT_.out (by kernel_rfl)) (fun _ _ _ h => h) (Or.inl ⟨by rfl, ?_⟩) ?_ ?_; rotate_left; (intro w'; go_simp; with_reducible rfl); rotate_left; (simp only [Act.put, setIfInBounds_toArray, set_cons_zero, set_cons_succ, i64_w, i32_w]; rfl)
                  refine take_ (i := 22) (N := some 87) (v := ?_) (a' := ?_) (bA3 24 29) rfl rfl (take_ofW HT_.out HW_.out (by kernel_rfl)) (fun _ _ _ h => h) (Or.inl ⟨by rfl, ?_⟩) hHeld ?_ ?_
                  rotate_left
                  ·rintro w' ⟨s0, s1, s2, s3, s4, s5, s6, s7, s8, s9, s10, s11, s12, s13, s14, s15, s16, s17, s18, s19, s20, s21, s22, s23, s24, s25, s26, s27, s28, s29, s30, s31, s32, s33, s34⟩
                   go_simp
                   with_reducible rfl
                  rotate_left
                  ·simp only [Act.put, setIfInBounds_toArray, set_cons_zero, set_cons_succ, i64_w, i32_w]
                   rfl
                  refine take_ (i := 24) (N := some 89) (v := ?_) (a' := ?_) (bA3 25 29) rfl rfl (take_ofW HT_.out HW_.out (by kernel_rfl)) (fun _ _ _ h => h) (Or.inl ⟨by rfl, ?_⟩) hHeld ?_ ?_
                  rotate_left
                  ·rintro w' ⟨s0, s1, s2, s3, s4, s5, s6, s7, s8, s9, s10, s11, s12, s13, s14, s15, s16, s17, s18, s19, s20, s21, s22, s23, s24, s25, s26, s27, s28, s29, s30, s31, s32, s33, s34⟩
                   go_simp
                   with_reducible rfl
                  rotate_left
                  ·simp only [Act.put, setIfInBounds_toArray, set_cons_zero, set_cons_succ, i64_w, i32_w]
                   rfl
                  refine one_ (i := 25) (N := some 90) (bA3 26 29) rfl rfl (one_of HT_.out (by kernel_rfl)) (by decide) (fun K hK => ?_)
                  refine goes_ Try.func49 (by kernel_rfl) rfl #[.agg #[.int .u64 ((rd_T41 l0_3 (ji31)).f0.f0), .int .u64 ((rd_T41 l0_3 (ji31)).f0.f1)], .agg #[.int .u64 ((rd_T41 l0_3 x50_2).f0.f0), .int .u64 ((rd_T41 l0_3 x50_2).f0.f1)]] (by rfl) rfl rfl (by (try simp only [map_toArray, map_cons, map_nil]); first | done | (simp only [hji31]; rfl) | rfl | (simp only [length_drop, length_take]; rfl)) ?_
                  with_reducible refine (sub_Less.calls k2 ((rd_T41 l0_3 (ji31)).f0.f0) ((rd_T41 l0_3 (ji31)).f0.f1) ((rd_T41 l0_3 x50_2).f0.f0) ((rd_T41 l0_3 x50_2).f0.f1) true _ A34.out).mono ?_
                  rintro e w43 ⟨rfl, hb⟩
                  refine ⟨_, rfl, ?_⟩
                  have n0_ := ak_ (kb_ (g := gb151) (o := .cells #[.int .i64 a0_0, .int .i64 a0_1, .int .i64 a0_2, .slice (some ad156) l0_3.length c0_3, .bool a0_4, .bool a0_5, .int .u64 a0_6, .int .u64 a0_7, .int .u64 a0_8, .int .u64 a0_9, .int .u64 a0_10, .int .u64 a0_11, .int .i64 a0_12] 31 (0, 0)) (by (with_reducible repeat (first | refine kn_ ?_ _ | refine kd_ ?_ | refine ka_ ?_ _)); exact BK151.out) hb)
                  have n1_ := ak_ (kb_ (g := gb157) (o := .cells #[.int .u64 ((rd_T41 l0_3 x50_2).f0.f0), .int .u64 ((rd_T41 l0_3 x50_2).f0.f1), .bool ((rd_T41 l0_3 x50_2).f1.f0), .bool ((rd_T41 l0_3 x50_2).f1.f1), .int .u64 ((rd_T41 l0_3 x50_2).f1.f2.f0), .int .u64 ((rd_T41 l0_3 x50_2).f1.f2.f1), .int .u64 ((rd_T41 l0_3 x50_2).f1.f3.f0.f0), .int .u64 ((rd_T41 l0_3 x50_2).f1.f3.f0.f1), .int .u64 ((rd_T41 l0_3 x50_2).f1.f3.f1.f0), .int .u64 ((rd_T41 l0_3 x50_2).f1.f3.f1.f1), .int .i64 ((rd_T41 l0_3 x50_2).f1.f4)] 41 (0, 0)) (by (with_reducible repeat (first | refine kn_ ?_ _ | refine kd_ ?_ | refine ka_ ?_ _)); exact BK157.out) hb)
                  have n2_ := ak_ (bt_ (by repeat (first | (with_reducible first | exact HB.out | apply ba_ | apply bn_ | apply bd_ | refine below_set ?_ GE151.out | refine below_set ?_ GE157.out) | exact HB.out)) hb)
                  clear BK151
                  clear BK157
                  clear HB
                  have BK151 := n0_
                  have BK157 := n1_
                  have HB := n2_
                  clear n0_ n1_ n2_
                  (try clear hb)
                  (try clear hb2)
                  (try clear hk)
                  (try clear hi)
                  refine hK.out _ _ ⟨(kc_ BK157.out 0).trans rfl, (kc_ BK157.out 1).trans rfl, (kc_ BK157.out 2).trans rfl, (kc_ BK157.out 3).trans rfl, (kc_ BK157.out 4).trans rfl, (kc_ BK157.out 5).trans rfl, (kc_ BK157.out 6).trans rfl, (kc_ BK157.out 7).trans rfl, (kc_ BK157.out 8).trans rfl, (kc_ BK157.out 9).trans rfl, (kc_ BK157.out 10).trans rfl, (kc_ BK151.out 0).trans rfl, (kc_ BK151.out 1).trans rfl, (kc_ BK151.out 2).trans rfl, (kc_ BK151.out 3).trans rfl, (kc_ BK151.out 4).trans rfl, (kc_ BK151.out 5).trans rfl, (kc_ BK151.out 6).trans rfl, (kc_ BK151.out 7).trans rfl, (kc_ BK151.out 8).trans rfl, (kc_ BK151.out 9).trans rfl, (kc_ BK151.out 10).trans rfl, (kc_ BK151.out 11).trans rfl, (kc_ BK151.out 12).trans rfl, ((HB.out.cell (World.block_lt_of_cell? w _ hw161_0)).trans hw161_0), ((HB.out.cell (World.block_lt_of_cell? w _ hw161_1)).trans hw161_1), ((HB.out.cell (World.block_lt_of_cell? w _ hw161_2)).trans hw161_2), ((HB.out.cell (World.block_lt_of_cell? w _ hw161_3)).trans hw161_3), ((HB.out.cell (World.block_lt_of_cell? w _ hw161_4)).trans hw161_4), ((HB.out.cell (World.block_lt_of_cell? w _ hw161_5)).trans hw161_5), ((HB.out.cell (World.block_lt_of_cell? w _ hw161_6)).trans hw161_6), ((HB.out.cell (World.block_lt_of_cell? w _ hw161_7)).trans hw161_7), ((HB.out.cell (World.block_lt_of_cell? w _ hw161_8)).trans hw161_8), ((HB.out.cell (World.block_lt_of_cell? w _ hw161_9)).trans hw161_9), ((HB.out.cell (World.block_lt_of_cell? w _ hw161_10)).trans hw161_10)⟩ (fun hHeld => ?_)
                  clear hK K
                  refine norm_ (a' := ?_) ?_ ?_
                  rotate_left
                  ·show Act.put _ (some 90) _ = _
                   simp only [Act.put, setIfInBounds_toArray, set_cons_zero, set_cons_succ, i64_w, i32_w]
                   rfl
                  refine pure_ (i := 26) (N := some 91) (v := ?_) (a' := ?_) (bA3 27 29) rfl rfl (any_of HT_.out (by kernel_rfl)) (fun _ _ _ h => h) (Or.inl ⟨by rfl, ?_⟩) ?_ ?_; rotate_left; (intro w'; go_simp; with_reducible rfl); rotate_left; (simp only [Act.put, setIfInBounds_toArray, set_cons_zero, set_cons_succ, i64_w, i32_w]; rfl)
                  refine pure_ (i := 27) (N := some 92) (v := ?_) (a' := ?_) (bA3 28 29) rfl rfl (any_of HT_.out (by kernel_rfl)) (fun _ _ _ h => h) (Or.inl ⟨by rfl, ?_⟩) ?_ ?_; rotate_left; (intro w'; go_simp; with_reducible rfl); rotate_left; (simp only [Act.put, setIfInBounds_toArray, set_cons_zero, set_cons_succ, i64_w, i32_w]; rfl)
                  refine pure_ (i := 28) (N := some 93) (v := ?_) (a' := ?_) (bA3 29 29) rfl rfl (any_of HT_.out (by kernel_rfl)) (fun _ _ _ h => h) (Or.inl ⟨by rfl, ?_⟩) ?_ ?_; rotate_left; (intro w'; go_simp; with_reducible rfl); rotate_left; (simp only [Act.put, setIfInBounds_toArray, set_cons_zero, set_cons_succ, i64_w, i32_w]; rfl)
                  refine done_ (done_of HT_.out (by kernel_rfl)) ?_
                  try go_wp2
                  go_roundg k2
                  case measure => have := HJ1.out; have := HK2.out; omega
                  case rel => exact ⟨(wrap64 (x50_2 + 1)), (by first | rfl | (simp; done) | (simp [*]; done)), H', ⟨by have := HJ1.out; have := HK2.out; omega⟩, ⟨by (with_reducible repeat (first | refine kn_ ?_ _ | refine kd_ ?_ | refine ka_ ?_ _)); exact BK151.out⟩, ⟨by repeat (first | (with_reducible first | exact HB.out | apply ba_ | apply bn_ | apply bd_ | refine below_set ?_ GE151.out | refine below_set ?_ GE157.out) | exact HB.out)⟩⟩
                 ·replace c35 := Bool.eq_false_iff.mpr c35
                  subst c35
                  have H1 : (some 1) = some r := by rw [if_neg (show ¬ (false = true) by decide)] at H; exact H
                  clear H
                  have H := H1
                  clear H1
                  obtain rfl := Option.some.inj H
                  have p156 : 0 ≤ (x50_2 : Int) := od_ (by first | (with_reducible assumption) | assumption)
                  have q156 : x50_2 < (l0_3.length : Int) := od_ (by first | (with_reducible assumption) | assumption)
                  obtain ⟨ad156, e156, hx156_0, hx156_1, hx156_2, hx156_3, hx156_4, hx156_5, hx156_6, hx156_7, hx156_8, hx156_9, hx156_10⟩ := at_T41 HR0_3.out x50_2 p156 q156
                  cases e156
                  replace hx156_0 := (HB.out.cell (World.block_lt_of_cell? w _ hx156_0)).trans hx156_0
                  replace hx156_1 := (HB.out.cell (World.block_lt_of_cell? w _ hx156_1)).trans hx156_1
                  replace hx156_2 := (HB.out.cell (World.block_lt_of_cell? w _ hx156_2)).trans hx156_2
                  replace hx156_3 := (HB.out.cell (World.block_lt_of_cell? w _ hx156_3)).trans hx156_3
                  replace hx156_4 := (HB.out.cell (World.block_lt_of_cell? w _ hx156_4)).trans hx156_4
                  replace hx156_5 := (HB.out.cell (World.block_lt_of_cell? w _ hx156_5)).trans hx156_5
                  replace hx156_6 := (HB.out.cell (World.block_lt_of_cell? w _ hx156_6)).trans hx156_6
                  replace hx156_7 := (HB.out.cell (World.block_lt_of_cell? w _ hx156_7)).trans hx156_7
                  replace hx156_8 := (HB.out.cell (World.block_lt_of_cell? w _ hx156_8)).trans hx156_8
                  replace hx156_9 := (HB.out.cell (World.block_lt_of_cell? w _ hx156_9)).trans hx156_9
                  replace hx156_10 := (HB.out.cell (World.block_lt_of_cell? w _ hx156_10)).trans hx156_10
                  replace p156 := eq_true p156
                  replace q156 := eq_true q156
                  try go_wp2_with (first | ((with_reducible refine gate_dst (N := 6) rfl ?_); (try (refine gate_guard (by rfl) ?_; dsimp only)); refine box_event ?hg (N := 6) ?hd (cs := #[.int .u64 0, .int .u64 0, .bool false, .bool false, .int .u64 0, .int .u64 0, .int .u64 0, .int .u64 0, .int .u64 0, .int .u64 0, .int .i64 0]) (t := 41) ?hr ?_; (case hd => rfl); (case hg => rfl); (case hr => first | (go_simp; done) | (go_simp; rfl)); intro gb157 hg w44 hbox hb; have n0_ := ak_ (kb_ (g := gb151) (o := .cells #[.int .i64 a0_0, .int .i64 a0_1, .int .i64 a0_2, .slice (some ad156) l0_3.length c0_3, .bool a0_4, .bool a0_5, .int .u64 a0_6, .int .u64 a0_7, .int .u64 a0_8, .int .u64 a0_9, .int .u64 a0_10, .int .u64 a0_11, .int .i64 a0_12] 31 (0, 0)) (by (with_reducible repeat (first | refine kn_ ?_ _ | refine kd_ ?_ | refine ka_ ?_ _)); exact BK151.out) hb); have n1_ := ak_ (bt_ (by repeat (first | (with_reducible first | exact HB.out | apply ba_ | apply bn_ | apply bd_ | refine below_set ?_ GE151.out) | exact HB.out)) hb); have n2_ := ak_ (hbox); have n3_ := ak_ ((by rw [hg]; exact (bz_ (by repeat (first | (with_reducible first | exact HB.out | apply ba_ | apply bn_ | apply bd_ | refine below_set ?_ GE151.out) | exact HB.out))) : w.heap.size ≤ gb157)); have n4_ := ak_ ((by rw [hg]; exact (bz_ (by repeat (first | (with_reducible first | exact HB.out | apply ba_ | apply bn_ | apply bd_ | refine below_set ?_ GE151.out) | exact HB.out))) : w.heap.size ≤ gb157)); have n5_ := ak_ ((by rw [hg]; exact Nat.ne_of_lt (blk_lt (g := gb151) (o := .cells #[.int .i64 a0_0, .int .i64 a0_1, .int .i64 a0_2, .slice (some ad156) l0_3.length c0_3, .bool a0_4, .bool a0_5, .int .u64 a0_6, .int .u64 a0_7, .int .u64 a0_8, .int .u64 a0_9, .int .u64 a0_10, .int .u64 a0_11, .int .i64 a0_12] 31 (0, 0)) (by (with_reducible repeat (first | refine kn_ ?_ _ | refine kd_ ?_ | refine ka_ ?_ _)); exact BK151.out)) : gb151 ≠ gb157)); have n6_ := ak_ ((by rw [hg]; exact Nat.ne_of_gt (blk_lt (g := gb151) (o := .cells #[.int .i64 a0_0, .int .i64 a0_1, .int .i64 a0_2, .slice (some ad156) l0_3.length c0_3, .bool a0_4, .bool a0_5, .int .u64 a0_6, .int .u64 a0_7, .int .u64 a0_8, .int .u64 a0_9, .int .u64 a0_10, .int .u64 a0_11, .int .i64 a0_12] 31 (0, 0)) (by (with_reducible repeat (first | refine kn_ ?_ _ | refine kd_ ?_ | refine ka_ ?_ _)); exact BK151.out)) : gb157 ≠ gb151)); clear BK151; clear HB; have BK151 := n0_; have HB := n1_; have BK157 := n2_; have GW157 := n3_; have GE157 := n4_; have NB151_157 := n5_; have NB157_151 := n6_; clear n0_ n1_ n2_ n3_ n4_ n5_ n6_; clear hb hbox hg; have hnb45 := NB157_151.out; have hnc45 := NB151_157.out; have hcz46_0 : w44.cell? ⟨gb157, 0, none⟩ = some (.int .u64 0) := (kc_ BK157.out 0).trans rfl; have hcz46_1 : w44.cell? ⟨gb157, 1, none⟩ = some (.int .u64 0) := (kc_ BK157.out 1).trans rfl; have hcz46_2 : w44.cell? ⟨gb157, 2, none⟩ = some (.bool false) := (kc_ BK157.out 2).trans rfl; have hcz46_3 : w44.cell? ⟨gb157, 3, none⟩ = some (.bool false) := (kc_ BK157.out 3).trans rfl; have hcz46_4 : w44.cell? ⟨gb157, 4, none⟩ = some (.int .u64 0) := (kc_ BK157.out 4).trans rfl; have hcz46_5 : w44.cell? ⟨gb157, 5, none⟩ = some (.int .u64 0) := (kc_ BK157.out 5).trans rfl; have hcz46_6 : w44.cell? ⟨gb157, 6, none⟩ = some (.int .u64 0) := (kc_ BK157.out 6).trans rfl; have hcz46_7 : w44.cell? ⟨gb157, 7, none⟩ = some (.int .u64 0) := (kc_ BK157.out 7).trans rfl; have hcz46_8 : w44.cell? ⟨gb157, 8, none⟩ = some (.int .u64 0) := (kc_ BK157.out 8).trans rfl; have hcz46_9 : w44.cell? ⟨gb157, 9, none⟩ = some (.int .u64 0) := (kc_ BK157.out 9).trans rfl; have hcz46_10 : w44.cell? ⟨gb157, 10, none⟩ = some (.int .i64 0) := (kc_ BK157.out 10).trans rfl; have hfz46_0 := kf_ BK157.out 0; have hfz46_1 := kf_ BK157.out 1; have hfz46_2 := kf_ BK157.out 2; have hfz46_3 := kf_ BK157.out 3; have hfz46_4 := kf_ BK157.out 4; have hfz46_5 := kf_ BK157.out 5; have hfz46_6 := kf_ BK157.out 6; have hfz46_7 := kf_ BK157.out 7; have hfz46_8 := kf_ BK157.out 8; have hfz46_9 := kf_ BK157.out 9; have hfz46_10 := kf_ BK157.out 10; have hcz47_0 : w44.cell? ⟨gb151, 0, none⟩ = some (.int .i64 a0_0) := (kc_ BK151.out 0).trans rfl; have hcz47_1 : w44.cell? ⟨gb151, 1, none⟩ = some (.int .i64 a0_1) := (kc_ BK151.out 1).trans rfl; have hcz47_2 : w44.cell? ⟨gb151, 2, none⟩ = some (.int .i64 a0_2) := (kc_ BK151.out 2).trans rfl; have hcz47_3 : w44.cell? ⟨gb151, 3, none⟩ = some (.slice (some ad156) l0_3.length c0_3) := (kc_ BK151.out 3).trans rfl; have hcz47_4 : w44.cell? ⟨gb151, 4, none⟩ = some (.bool a0_4) := (kc_ BK151.out 4).trans rfl; have hcz47_5 : w44.cell? ⟨gb151, 5, none⟩ = some (.bool a0_5) := (kc_ BK151.out 5).trans rfl; have hcz47_6 : w44.cell? ⟨gb151, 6, none⟩ = some (.int .u64 a0_6) := (kc_ BK151.out 6).trans rfl; have hcz47_7 : w44.cell? ⟨gb151, 7, none⟩ = some (.int .u64 a0_7) := (kc_ BK151.out 7).trans rfl; have hcz47_8 : w44.cell? ⟨gb151, 8, none⟩ = some (.int .u64 a0_8) := (kc_ BK151.out 8).trans rfl; have hcz47_9 : w44.cell? ⟨gb151, 9, none⟩ = some (.int .u64 a0_9) := (kc_ BK151.out 9).trans rfl; have hcz47_10 : w44.cell? ⟨gb151, 10, none⟩ = some (.int .u64 a0_10) := (kc_ BK151.out 10).trans rfl; have hcz47_11 : w44.cell? ⟨gb151, 11, none⟩ = some (.int .u64 a0_11) := (kc_ BK151.out 11).trans rfl; have hcz47_12 : w44.cell? ⟨gb151, 12, none⟩ = some (.int .i64 a0_12) := (kc_ BK151.out 12).trans rfl; have hfz47_0 := kf_ BK151.out 0; have hfz47_1 := kf_ BK151.out 1; have hfz47_2 := kf_ BK151.out 2; have hfz47_3 := kf_ BK151.out 3; have hfz47_4 := kf_ BK151.out 4; have hfz47_5 := kf_ BK151.out 5; have hfz47_6 := kf_ BK151.out 6; have hfz47_7 := kf_ BK151.out 7; have hfz47_8 := kf_ BK151.out 8; have hfz47_9 := kf_ BK151.out 9; have hfz47_10 := kf_ BK151.out 10; have hfz47_11 := kf_ BK151.out 11; have hfz47_12 := kf_ BK151.out 12) | ((with_reducible refine gate_callee (f := 48) rfl ?_); refine goesL_ (some 62) rfl rfl Try.func48 (by kernel_rfl) rfl #[.int .i64 a0_1, .int .i64 a0_0, .agg #[.int .u64 ((rd_T41 l0_3 x50_2).f0.f0), .int .u64 ((rd_T41 l0_3 x50_2).f0.f1)]] rfl (by (try simp only [map_toArray, map_cons, map_nil]); first | done | rfl | (simp only [length_drop, length_take]; rfl)) ?_; (with_reducible refine (layer_May.calls k2 a0_1 a0_0 ((rd_T41 l0_3 x50_2).f0.f0) ((rd_T41 l0_3 x50_2).f0.f1) true t159 _ A25.out).mono ?_); rintro e w48 ⟨rfl, hb⟩; refine ⟨_, rfl, ?_⟩; have n0_ := ak_ (kb_ (g := gb151) (o := .cells #[.int .i64 a0_0, .int .i64 a0_1, .int .i64 a0_2, .slice (some ad156) l0_3.length c0_3, .bool a0_4, .bool a0_5, .int .u64 a0_6, .int .u64 a0_7, .int .u64 a0_8, .int .u64 a0_9, .int .u64 a0_10, .int .u64 a0_11, .int .i64 a0_12] 31 (0, 0)) (by (with_reducible repeat (first | refine kn_ ?_ _ | refine kd_ ?_ | refine ka_ ?_ _)); refine blk_far ?_ NB151_157.out _; (with_reducible repeat (first | refine kn_ ?_ _ | refine kd_ ?_ | refine ka_ ?_ _)); refine blk_far ?_ NB151_157.out _; (with_reducible repeat (first | refine kn_ ?_ _ | refine kd_ ?_ | refine ka_ ?_ _)); refine blk_far ?_ NB151_157.out _; (with_reducible repeat (first | refine kn_ ?_ _ | refine kd_ ?_ | refine ka_ ?_ _)); refine blk_far ?_ NB151_157.out _; (with_reducible repeat (first | refine kn_ ?_ _ | refine kd_ ?_ | refine ka_ ?_ _)); refine blk_far ?_ NB151_157.out _; (with_reducible repeat (first | refine kn_ ?_ _ | refine kd_ ?_ | refine ka_ ?_ _)); refine blk_far ?_ NB151_157.out _; (with_reducible repeat (first | refine kn_ ?_ _ | refine kd_ ?_ | refine ka_ ?_ _)); refine blk_far ?_ NB151_157.out _; (with_reducible repeat (first | refine kn_ ?_ _ | refine kd_ ?_ | refine ka_ ?_ _)); refine blk_far ?_ NB151_157.out _; (with_reducible repeat (first | refine kn_ ?_ _ | refine kd_ ?_ | refine ka_ ?_ _)); refine blk_far ?_ NB151_157.out _; (with_reducible repeat (first | refine kn_ ?_ _ | refine kd_ ?_ | refine ka_ ?_ _)); refine blk_far ?_ NB151_157.out _; (with_reducible repeat (first | refine kn_ ?_ _ | refine kd_ ?_ | refine ka_ ?_ _)); refine blk_far ?_ NB151_157.out _; (with_reducible repeat (first | refine kn_ ?_ _ | refine kd_ ?_ | refine ka_ ?_ _)); exact BK151.out) hb); have n1_ := ak_ (kb_ (g := gb157) (o := .cells #[.int .u64 ((rd_T41 l0_3 x50_2).f0.f0), .int .u64 ((rd_T41 l0_3 x50_2).f0.f1), .bool ((rd_T41 l0_3 x50_2).f1.f0), .bool ((rd_T41 l0_3 x50_2).f1.f1), .int .u64 ((rd_T41 l0_3 x50_2).f1.f2.f0), .int .u64 ((rd_T41 l0_3 x50_2).f1.f2.f1), .int .u64 ((rd_T41 l0_3 x50_2).f1.f3.f0.f0), .int .u64 ((rd_T41 l0_3 x50_2).f1.f3.f0.f1), .int .u64 ((rd_T41 l0_3 x50_2).f1.f3.f1.f0), .int .u64 ((rd_T41 l0_3 x50_2).f1.f3.f1.f1), .int .i64 ((rd_T41 l0_3 x50_2).f1.f4)] 41 (0, 0)) (by (with_reducible repeat (first | refine kn_ ?_ _ | refine kd_ ?_ | refine ka_ ?_ _)); refine blk_put (cs := #[.int .u64 ((rd_T41 l0_3 x50_2).f0.f0), .int .u64 ((rd_T41 l0_3 x50_2).f0.f1), .bool ((rd_T41 l0_3 x50_2).f1.f0), .bool ((rd_T41 l0_3 x50_2).f1.f1), .int .u64 ((rd_T41 l0_3 x50_2).f1.f2.f0), .int .u64 ((rd_T41 l0_3 x50_2).f1.f2.f1), .int .u64 ((rd_T41 l0_3 x50_2).f1.f3.f0.f0), .int .u64 ((rd_T41 l0_3 x50_2).f1.f3.f0.f1), .int .u64 ((rd_T41 l0_3 x50_2).f1.f3.f1.f0), .int .u64 ((rd_T41 l0_3 x50_2).f1.f3.f1.f1), .int .i64 0]) ?_ 10 _ rfl; (with_reducible repeat (first | refine kn_ ?_ _ | refine kd_ ?_ | refine ka_ ?_ _)); refine blk_put (cs := #[.int .u64 ((rd_T41 l0_3 x50_2).f0.f0), .int .u64 ((rd_T41 l0_3 x50_2).f0.f1), .bool ((rd_T41 l0_3 x50_2).f1.f0), .bool ((rd_T41 l0_3 x50_2).f1.f1), .int .u64 ((rd_T41 l0_3 x50_2).f1.f2.f0), .int .u64 ((rd_T41 l0_3 x50_2).f1.f2.f1), .int .u64 ((rd_T41 l0_3 x50_2).f1.f3.f0.f0), .int .u64 ((rd_T41 l0_3 x50_2).f1.f3.f0.f1), .int .u64 ((rd_T41 l0_3 x50_2).f1.f3.f1.f0), .int .u64 0, .int .i64 0]) ?_ 9 _ rfl; (with_reducible repeat (first | refine kn_ ?_ _ | refine kd_ ?_ | refine ka_ ?_ _)); refine blk_put (cs := #[.int .u64 ((rd_T41 l0_3 x50_2).f0.f0), .int .u64 ((rd_T41 l0_3 x50_2).f0.f1), .bool ((rd_T41 l0_3 x50_2).f1.f0), .bool ((rd_T41 l0_3 x50_2).f1.f1), .int .u64 ((rd_T41 l0_3 x50_2).f1.f2.f0), .int .u64 ((rd_T41 l0_3 x50_2).f1.f2.f1), .int .u64 ((rd_T41 l0_3 x50_2).f1.f3.f0.f0), .int .u64 ((rd_T41 l0_3 x50_2).f1.f3.f0.f1), .int .u64 0, .int .u64 0, .int .i64 0]) ?_ 8 _ rfl; (with_reducible repeat (first | refine kn_ ?_ _ | refine kd_ ?_ | refine ka_ ?_ _)); refine blk_put (cs := #[.int .u64 ((rd_T41 l0_3 x50_2).f0.f0), .int .u64 ((rd_T41 l0_3 x50_2).f0.f1), .bool ((rd_T41 l0_3 x50_2).f1.f0), .bool ((rd_T41 l0_3 x50_2).f1.f1), .int .u64 ((rd_T41 l0_3 x50_2).f1.f2.f0), .int .u64 ((rd_T41 l0_3 x50_2).f1.f2.f1), .int .u64 ((rd_T41 l0_3 x50_2).f1.f3.f0.f0), .int .u64 0, .int .u64 0, .int .u64 0, .int .i64 0]) ?_ 7 _ rfl; (with_reducible repeat (first | refine kn_ ?_ _ | refine kd_ ?_ | refine ka_ ?_ _)); refine blk_put (cs := #[.int .u64 ((rd_T41 l0_3 x50_2).f0.f0), .int .u64 ((rd_T41 l0_3 x50_2).f0.f1), .bool ((rd_T41 l0_3 x50_2).f1.f0), .bool ((rd_T41 l0_3 x50_2).f1.f1), .int .u64 ((rd_T41 l0_3 x50_2).f1.f2.f0), .int .u64 ((rd_T41 l0_3 x50_2).f1.f2.f1), .int .u64 0, .int .u64 0, .int .u64 0, .int .u64 0, .int .i64 0]) ?_ 6 _ rfl; (with_reducible repeat (first | refine kn_ ?_ _ | refine kd_ ?_ | refine ka_ ?_ _)); refine blk_put (cs := #[.int .u64 ((rd_T41 l0_3 x50_2).f0.f0), .int .u64 ((rd_T41 l0_3 x50_2).f0.f1), .bool ((rd_T41 l0_3 x50_2).f1.f0), .bool ((rd_T41 l0_3 x50_2).f1.f1), .int .u64 ((rd_T41 l0_3 x50_2).f1.f2.f0), .int .u64 0, .int .u64 0, .int .u64 0, .int .u64 0, .int .u64 0, .int .i64 0]) ?_ 5 _ rfl; (with_reducible repeat (first | refine kn_ ?_ _ | refine kd_ ?_ | refine ka_ ?_ _)); refine blk_put (cs := #[.int .u64 ((rd_T41 l0_3 x50_2).f0.f0), .int .u64 ((rd_T41 l0_3 x50_2).f0.f1), .bool ((rd_T41 l0_3 x50_2).f1.f0), .bool ((rd_T41 l0_3 x50_2).f1.f1), .int .u64 0, .int .u64 0, .int .u64 0, .int .u64 0, .int .u64 0, .int .u64 0, .int .i64 0]) ?_ 4 _ rfl; (with_reducible repeat (first | refine kn_ ?_ _ | refine kd_ ?_ | refine ka_ ?_ _)); refine blk_put (cs := #[.int .u64 ((rd_T41 l0_3 x50_2).f0.f0), .int .u64 ((rd_T41 l0_3 x50_2).f0.f1), .bool ((rd_T41 l0_3 x50_2).f1.f0), .bool false, .int .u64 0, .int .u64 0, .int .u64 0, .int .u64 0, .int .u64 0, .int .u64 0, .int .i64 0]) ?_ 3 _ rfl; (with_reducible repeat (first | refine kn_ ?_ _ | refine kd_ ?_ | refine ka_ ?_ _)); refine blk_put (cs := #[.int .u64 ((rd_T41 l0_3 x50_2).f0.f0), .int .u64 ((rd_T41 l0_3 x50_2).f0.f1), .bool false, .bool false, .int .u64 0, .int .u64 0, .int .u64 0, .int .u64 0, .int .u64 0, .int .u64 0, .int .i64 0]) ?_ 2 _ rfl; (with_reducible repeat (first | refine kn_ ?_ _ | refine kd_ ?_ | refine ka_ ?_ _)); refine blk_put (cs := #[.int .u64 ((rd_T41 l0_3 x50_2).f0.f0), .int .u64 0, .bool false, .bool false, .int .u64 0, .int .u64 0, .int .u64 0, .int .u64 0, .int .u64 0, .int .u64 0, .int .i64 0]) ?_ 1 _ rfl; (with_reducible repeat (first | refine kn_ ?_ _ | refine kd_ ?_ | refine ka_ ?_ _)); refine blk_put (cs := #[.int .u64 0, .int .u64 0, .bool false, .bool false, .int .u64 0, .int .u64 0, .int .u64 0, .int .u64 0, .int .u64 0, .int .u64 0, .int .i64 0]) ?_ 0 _ rfl; (with_reducible repeat (first | refine kn_ ?_ _ | refine kd_ ?_ | refine ka_ ?_ _)); exact BK157.out) hb); have n2_ := ak_ (bt_ (by repeat (first | (with_reducible first | exact HB.out | apply ba_ | apply bn_ | apply bd_ | refine below_set ?_ GE151.out | refine below_set ?_ GE157.out) | exact HB.out)) hb); clear BK151; clear BK157; clear HB; have BK151 := n0_; have BK157 := n1_; have HB := n2_; clear n0_ n1_ n2_; (try clear hb); (try clear hb2); (try clear hk); (try clear hi)))
                  have n0_ := ak_ (kd_ BK151.out)
                  have n1_ := ak_ (kd_ BK157.out)
                  have n2_ := ak_ (bd_ HB.out)
                  clear BK151
                  clear BK157
                  clear HB
                  have BK151 := n0_
                  have BK157 := n1_
                  have HB := n2_
                  clear n0_ n1_ n2_
                  have p161 : 0 ≤ ((ji31) : Int) := od_ (by first | (with_reducible assumption) | assumption)
                  have q161 : (ji31) < (l0_3.length : Int) := od_ (by first | (with_reducible assumption) | assumption)
                  obtain ⟨ad161, e161, hx161_0, hx161_1, hx161_2, hx161_3, hx161_4, hx161_5, hx161_6, hx161_7, hx161_8, hx161_9, hx161_10⟩ := at_T41 HR0_3.out (ji31) p161 q161
                  have hw161_10 := hx161_10
                  have hw161_9 := hx161_9
                  have hw161_8 := hx161_8
                  have hw161_7 := hx161_7
                  have hw161_6 := hx161_6
                  have hw161_5 := hx161_5
                  have hw161_4 := hx161_4
                  have hw161_3 := hx161_3
                  have hw161_2 := hx161_2
                  have hw161_1 := hx161_1
                  have hw161_0 := hx161_0
                  obtain rfl : ad156 = ad161 := (by injection e161)
                  replace hx161_0 := (HB.out.cell (World.block_lt_of_cell? w _ hx161_0)).trans hx161_0
                  replace hx161_1 := (HB.out.cell (World.block_lt_of_cell? w _ hx161_1)).trans hx161_1
                  replace hx161_2 := (HB.out.cell (World.block_lt_of_cell? w _ hx161_2)).trans hx161_2
                  replace hx161_3 := (HB.out.cell (World.block_lt_of_cell? w _ hx161_3)).trans hx161_3
                  replace hx161_4 := (HB.out.cell (World.block_lt_of_cell? w _ hx161_4)).trans hx161_4
                  replace hx161_5 := (HB.out.cell (World.block_lt_of_cell? w _ hx161_5)).trans hx161_5
                  replace hx161_6 := (HB.out.cell (World.block_lt_of_cell? w _ hx161_6)).trans hx161_6
                  replace hx161_7 := (HB.out.cell (World.block_lt_of_cell? w _ hx161_7)).trans hx161_7
                  replace hx161_8 := (HB.out.cell (World.block_lt_of_cell? w _ hx161_8)).trans hx161_8
                  replace hx161_9 := (HB.out.cell (World.block_lt_of_cell? w _ hx161_9)).trans hx161_9
                  replace hx161_10 := (HB.out.cell (World.block_lt_of_cell? w _ hx161_10)).trans hx161_10
                  replace p161 := eq_true p161
                  replace q161 := eq_true q161
                  refine start_ (n := 29) (S := fun w' => w'.cell? ⟨gb157, 0, none⟩ = some (.int .u64 ((rd_T41 l0_3 x50_2).f0.f0)) ∧ w'.cell? ⟨gb157, 1, none⟩ = some (.int .u64 ((rd_T41 l0_3 x50_2).f0.f1)) ∧ w'.cell? ⟨gb157, 2, none⟩ = some (.bool ((rd_T41 l0_3 x50_2).f1.f0)) ∧ w'.cell? ⟨gb157, 3, none⟩ = some (.bool ((rd_T41 l0_3 x50_2).f1.f1)) ∧ w'.cell? ⟨gb157, 4, none⟩ = some (.int .u64 ((rd_T41 l0_3 x50_2).f1.f2.f0)) ∧ w'.cell? ⟨gb157, 5, none⟩ = some (.int .u64 ((rd_T41 l0_3 x50_2).f1.f2.f1)) ∧ w'.cell? ⟨gb157, 6, none⟩ = some (.int .u64 ((rd_T41 l0_3 x50_2).f1.f3.f0.f0)) ∧ w'.cell? ⟨gb157, 7, none⟩ = some (.int .u64 ((rd_T41 l0_3 x50_2).f1.f3.f0.f1)) ∧ w'.cell? ⟨gb157, 8, none⟩ = some (.int .u64 ((rd_T41 l0_3 x50_2).f1.f3.f1.f0)) ∧ w'.cell? ⟨gb157, 9, none⟩ = some (.int .u64 ((rd_T41 l0_3 x50_2).f1.f3.f1.f1)) ∧ w'.cell? ⟨gb157, 10, none⟩ = some (.int .i64 ((rd_T41 l0_3 x50_2).f1.f4)) ∧ w'.cell? ⟨gb151, 0, none⟩ = some (.int .i64 a0_0) ∧ w'.cell? ⟨gb151, 1, none⟩ = some (.int .i64 a0_1) ∧ w'.cell? ⟨gb151, 2, none⟩ = some (.int .i64 a0_2) ∧ w'.cell? ⟨gb151, 3, none⟩ = some (.slice (some ad156) l0_3.length c0_3) ∧ w'.cell? ⟨gb151, 4, none⟩ = some (.bool a0_4) ∧ w'.cell? ⟨gb151, 5, none⟩ = some (.bool a0_5) ∧ w'.cell? ⟨gb151, 6, none⟩ = some (.int .u64 a0_6) ∧ w'.cell? ⟨gb151, 7, none⟩ = some (.int .u64 a0_7) ∧ w'.cell? ⟨gb151, 8, none⟩ = some (.int .u64 a0_8) ∧ w'.cell? ⟨gb151, 9, none⟩ = some (.int .u64 a0_9) ∧ w'.cell? ⟨gb151, 10, none⟩ = some (.int .u64 a0_10) ∧ w'.cell? ⟨gb151, 11, none⟩ = some (.int .u64 a0_11) ∧ w'.cell? ⟨gb151, 12, none⟩ = some (.int .i64 a0_12) ∧ w'.cell? (ad156.add (((ji31)).toNat * 11)) = some (.int .u64 ((rd_T41 l0_3 (ji31)).f0.f0)) ∧ w'.cell? ⟨(ad156.add (((ji31)).toNat * 11)).block, (ad156.add (((ji31)).toNat * 11)).off + 1, none⟩ = some (.int .u64 ((rd_T41 l0_3 (ji31)).f0.f1)) ∧ w'.cell? ⟨(ad156.add (((ji31)).toNat * 11)).block, (ad156.add (((ji31)).toNat * 11)).off + 2, none⟩ = some (.bool ((rd_T41 l0_3 (ji31)).f1.f0)) ∧ w'.cell? ⟨(ad156.add (((ji31)).toNat * 11)).block, (ad156.add (((ji31)).toNat * 11)).off + 3, none⟩ = some (.bool ((rd_T41 l0_3 (ji31)).f1.f1)) ∧ w'.cell? ⟨(ad156.add (((ji31)).toNat * 11)).block, (ad156.add (((ji31)).toNat * 11)).off + 4, none⟩ = some (.int .u64 ((rd_T41 l0_3 (ji31)).f1.f2.f0)) ∧ w'.cell? ⟨(ad156.add (((ji31)).toNat * 11)).block, (ad156.add (((ji31)).toNat * 11)).off + 5, none⟩ = some (.int .u64 ((rd_T41 l0_3 (ji31)).f1.f2.f1)) ∧ w'.cell? ⟨(ad156.add (((ji31)).toNat * 11)).block, (ad156.add (((ji31)).toNat * 11)).off + 6, none⟩ = some (.int .u64 ((rd_T41 l0_3 (ji31)).f1.f3.f0.f0)) ∧ w'.cell? ⟨(ad156.add (((ji31)).toNat * 11)).block, (ad156.add (((ji31)).toNat * 11)).off + 7, none⟩ = some (.int .u64 ((rd_T41 l0_3 (ji31)).f1.f3.f0.f1)) ∧ w'.cell? ⟨(ad156.add (((ji31)).toNat * 11)).block, (ad156.add (((ji31)).toNat * 11)).off + 8, none⟩ = some (.int .u64 ((rd_T41 l0_3 (ji31)).f1.f3.f1.f0)) ∧ w'.cell? ⟨(ad156.add (((ji31)).toNat * 11)).block, (ad156.add (((ji31)).toNat * 11)).off + 9, none⟩ = some (.int .u64 ((rd_T41 l0_3 (ji31)).f1.f3.f1.f1)) ∧ w'.cell? ⟨(ad156.add (((ji31)).toNat * 11)).block, (ad156.add (((ji31)).toNat * 11)).off + 10, none⟩ = some (.int .i64 ((rd_T41 l0_3 (ji31)).f1.f4))) (ds := []) #[false, false, false, false, false, false, false, false, false, false, false, false, false, false, false, false, false, false, false, false, false, false, false, false, false, false, false, false, false] (by kernel_rfl) rfl rfl ⟨(kc_ BK157.out 0).trans rfl, (kc_ BK157.out 1).trans rfl, (kc_ BK157.out 2).trans rfl, (kc_ BK157.out 3).trans rfl, (kc_ BK157.out 4).trans rfl, (kc_ BK157.out 5).trans rfl, (kc_ BK157.out 6).trans rfl, (kc_ BK157.out 7).trans rfl, (kc_ BK157.out 8).trans rfl, (kc_ BK157.out 9).trans rfl, (kc_ BK157.out 10).trans rfl, (kc_ BK151.out 0).trans rfl, (kc_ BK151.out 1).trans rfl, (kc_ BK151.out 2).trans rfl, (kc_ BK151.out 3).trans rfl, (kc_ BK151.out 4).trans rfl, (kc_ BK151.out 5).trans rfl, (kc_ BK151.out 6).trans rfl, (kc_ BK151.out 7).trans rfl, (kc_ BK151.out 8).trans rfl, (kc_ BK151.out 9).trans rfl, (kc_ BK151.out 10).trans rfl, (kc_ BK151.out 11).trans rfl, (kc_ BK151.out 12).trans rfl, ((HB.out.cell (World.block_lt_of_cell? w _ hw161_0)).trans hw161_0), ((HB.out.cell (World.block_lt_of_cell? w _ hw161_1)).trans hw161_1), ((HB.out.cell (World.block_lt_of_cell? w _ hw161_2)).trans hw161_2), ((HB.out.cell (World.block_lt_of_cell? w _ hw161_3)).trans hw161_3), ((HB.out.cell (World.block_lt_of_cell? w _ hw161_4)).trans hw161_4), ((HB.out.cell (World.block_lt_of_cell? w _ hw161_5)).trans hw161_5), ((HB.out.cell (World.block_lt_of_cell? w _ hw161_6)).trans hw161_6), ((HB.out.cell (World.block_lt_of_cell? w _ hw161_7)).trans hw161_7), ((HB.out.cell (World.block_lt_of_cell? w _ hw161_8)).trans hw161_8), ((HB.out.cell (World.block_lt_of_cell? w _ hw161_9)).trans hw161_9), ((HB.out.cell (World.block_lt_of_cell? w _ hw161_10)).trans hw161_10)⟩ (fun hHeld => ?_); refine with_tabW head_Check.tab10 head_Check.bits10 (fun HT_ HW_ => ?_)
                  generalize w48.drew = w49 at BK151 BK157 HB hx161_0 hx161_1 hx161_10 hx161_2 hx161_3 hx161_4 hx161_5 hx161_6 hx161_7 hx161_8 hx161_9 hHeld ⊢
                  refine pure_ (i := 0) (N := some 65) (v := ?_) (a' := ?_) (bA3 1 29) rfl rfl (any_of HT_.out (by kernel_rfl)) (fun _ _ _ h => h) (Or.inl ⟨by rfl, ?_⟩) ?_ ?_; rotate_left; (intro w'; go_simp; with_reducible rfl); rotate_left; (simp only [Act.put, setIfInBounds_toArray, set_cons_zero, set_cons_succ, i64_w, i32_w]; rfl)
                  refine pure_ (i := 1) (N := some 66) (v := ?_) (a' := ?_) (bA3 2 29) rfl rfl (any_of HT_.out (by kernel_rfl)) (fun _ _ _ h => h) (Or.inl ⟨by rfl, ?_⟩) ?_ ?_; rotate_left; (intro w'; go_simp; with_reducible rfl); rotate_left; (simp only [Act.put, setIfInBounds_toArray, set_cons_zero, set_cons_succ, i64_w, i32_w]; rfl)
                  refine pure_ (i := 2) (N := some 67) (v := ?_) (a' := ?_) (bA3 3 29) rfl rfl (any_of HT_.out (by kernel_rfl)) (fun _ _ _ h => h) (Or.inl ⟨by rfl, ?_⟩) ?_ ?_; rotate_left; (intro w'; go_simp; with_reducible rfl); rotate_left; (simp only [Act.put, setIfInBounds_toArray, set_cons_zero, set_cons_succ, i64_w, i32_w]; rfl)
                  refine pure_ (i := 3) (N := some 68) (v := ?_) (a' := ?_) (bA3 4 29) rfl rfl (any_of HT_.out (by kernel_rfl)) (fun _ _ _ h => h) (Or.inl ⟨by rfl, ?_⟩) ?_ ?_; rotate_left; (intro w'; go_simp; with_reducible rfl); rotate_left; (simp only [Act.put, setIfInBounds_toArray, set_cons_zero, set_cons_succ, i64_w, i32_w]; rfl)
                  refine pure_ (i := 4) (N := some 69) (v := ?_) (a' := ?_) (bA3 5 29) rfl rfl (any_of HT_.out (by kernel_rfl)) (fun _ _ _ h => h) (Or.inl ⟨by rfl, ?_⟩) ?_ ?_; rotate_left; (intro w'; go_simp; with_reducible rfl); rotate_left; (simp only [Act.put, setIfInBounds_toArray, set_cons_zero, set_cons_succ, i64_w, i32_w]; rfl)
                  refine pure_ (i := 5) (N := some 70) (v := ?_) (a' := ?_) (bA3 6 29) rfl rfl (any_of HT_.out (by kernel_rfl)) (fun _ _ _ h => h) (Or.inl ⟨by rfl, ?_⟩) ?_ ?_; rotate_left; (intro w'; go_simp; with_reducible rfl); rotate_left; (simp only [Act.put, setIfInBounds_toArray, set_cons_zero, set_cons_succ, i64_w, i32_w]; rfl)
                  refine pure_ (i := 6) (N := some 71) (v := ?_) (a' := ?_) (bA3 7 29) rfl rfl (any_of HT_.out (by kernel_rfl)) (fun _ _ _ h => h) (Or.inl ⟨by rfl, ?_⟩) ?_ ?_; rotate_left; (intro w'; go_simp; with_reducible rfl); rotate_left; (simp only [Act.put, setIfInBounds_toArray, set_cons_zero, set_cons_succ, i64_w, i32_w]; rfl)
                  refine pure_ (i := 7) (N := some 72) (v := ?_) (a' := ?_) (bA3 8 29) rfl rfl (any_of HT_.out (by kernel_rfl)) (fun _ _ _ h => h) (Or.inl ⟨by rfl, ?_⟩) ?_ ?_; rotate_left; (intro w'; go_simp; with_reducible rfl); rotate_left; (simp only [Act.put, setIfInBounds_toArray, set_cons_zero, set_cons_succ, i64_w, i32_w]; rfl)
                  refine take_ (i := 8) (N := some 73) (v := ?_) (a' := ?_) (bA3 9 29) rfl rfl (take_ofW HT_.out HW_.out (by kernel_rfl)) (fun _ _ _ h => h) (Or.inl ⟨by rfl, ?_⟩) hHeld ?_ ?_
                  rotate_left
                  ·rintro w' ⟨s0, s1, s2, s3, s4, s5, s6, s7, s8, s9, s10, s11, s12, s13, s14, s15, s16, s17, s18, s19, s20, s21, s22, s23, s24, s25, s26, s27, s28, s29, s30, s31, s32, s33, s34⟩
                   go_simp
                   with_reducible rfl
                  rotate_left
                  ·simp only [Act.put, setIfInBounds_toArray, set_cons_zero, set_cons_succ, i64_w, i32_w]
                   rfl
                  refine one_ (i := 9) (N := some 74) (bA3 10 29) rfl rfl (one_of HT_.out (by kernel_rfl)) (by decide) (fun K hK => ?_)
                  refine goes_ Try.func47 (by kernel_rfl) rfl #[.agg #[.bool ((rd_T41 l0_3 x50_2).f1.f0), .bool ((rd_T41 l0_3 x50_2).f1.f1), .int .u64 ((rd_T41 l0_3 x50_2).f1.f2.f0), .int .u64 ((rd_T41 l0_3 x50_2).f1.f2.f1), .int .u64 ((rd_T41 l0_3 x50_2).f1.f3.f0.f0), .int .u64 ((rd_T41 l0_3 x50_2).f1.f3.f0.f1), .int .u64 ((rd_T41 l0_3 x50_2).f1.f3.f1.f0), .int .u64 ((rd_T41 l0_3 x50_2).f1.f3.f1.f1), .int .i64 ((rd_T41 l0_3 x50_2).f1.f4)]] (by rfl) rfl rfl (by (try simp only [map_toArray, map_cons, map_nil]); first | done | rfl | (simp only [length_drop, length_take]; rfl)) ?_
                  with_reducible refine (head_shut.calls ((rd_T41 l0_3 x50_2).f1.f0) ((rd_T41 l0_3 x50_2).f1.f1) ((rd_T41 l0_3 x50_2).f1.f2.f0) ((rd_T41 l0_3 x50_2).f1.f2.f1) ((rd_T41 l0_3 x50_2).f1.f3.f0.f0) ((rd_T41 l0_3 x50_2).f1.f3.f0.f1) ((rd_T41 l0_3 x50_2).f1.f3.f1.f0) ((rd_T41 l0_3 x50_2).f1.f3.f1.f1) ((rd_T41 l0_3 x50_2).f1.f4) true _ A28.out).mono ?_
                  rintro e w50 ⟨rfl, hb⟩
                  refine ⟨_, rfl, ?_⟩
                  have n0_ := ak_ (kb_ (g := gb151) (o := .cells #[.int .i64 a0_0, .int .i64 a0_1, .int .i64 a0_2, .slice (some ad156) l0_3.length c0_3, .bool a0_4, .bool a0_5, .int .u64 a0_6, .int .u64 a0_7, .int .u64 a0_8, .int .u64 a0_9, .int .u64 a0_10, .int .u64 a0_11, .int .i64 a0_12] 31 (0, 0)) (by (with_reducible repeat (first | refine kn_ ?_ _ | refine kd_ ?_ | refine ka_ ?_ _)); exact BK151.out) hb)
                  have n1_ := ak_ (kb_ (g := gb157) (o := .cells #[.int .u64 ((rd_T41 l0_3 x50_2).f0.f0), .int .u64 ((rd_T41 l0_3 x50_2).f0.f1), .bool ((rd_T41 l0_3 x50_2).f1.f0), .bool ((rd_T41 l0_3 x50_2).f1.f1), .int .u64 ((rd_T41 l0_3 x50_2).f1.f2.f0), .int .u64 ((rd_T41 l0_3 x50_2).f1.f2.f1), .int .u64 ((rd_T41 l0_3 x50_2).f1.f3.f0.f0), .int .u64 ((rd_T41 l0_3 x50_2).f1.f3.f0.f1), .int .u64 ((rd_T41 l0_3 x50_2).f1.f3.f1.f0), .int .u64 ((rd_T41 l0_3 x50_2).f1.f3.f1.f1), .int .i64 ((rd_T41 l0_3 x50_2).f1.f4)] 41 (0, 0)) (by (with_reducible repeat (first | refine kn_ ?_ _ | refine kd_ ?_ | refine ka_ ?_ _)); exact BK157.out) hb)
                  have n2_ := ak_ (bt_ (by repeat (first | (with_reducible first | exact HB.out | apply ba_ | apply bn_ | apply bd_ | refine below_set ?_ GE151.out | refine below_set ?_ GE157.out) | exact HB.out)) hb)
                  clear BK151
                  clear BK157
                  clear HB
                  have BK151 := n0_
                  have BK157 := n1_
                  have HB := n2_
                  clear n0_ n1_ n2_
                  (try clear hb)
                  (try clear hb2)
                  (try clear hk)
                  (try clear hi)
                  refine hK.out _ _ ⟨(kc_ BK157.out 0).trans rfl, (kc_ BK157.out 1).trans rfl, (kc_ BK157.out 2).trans rfl, (kc_ BK157.out 3).trans rfl, (kc_ BK157.out 4).trans rfl, (kc_ BK157.out 5).trans rfl, (kc_ BK157.out 6).trans rfl, (kc_ BK157.out 7).trans rfl, (kc_ BK157.out 8).trans rfl, (kc_ BK157.out 9).trans rfl, (kc_ BK157.out 10).trans rfl, (kc_ BK151.out 0).trans rfl, (kc_ BK151.out 1).trans rfl, (kc_ BK151.out 2).trans rfl, (kc_ BK151.out 3).trans rfl, (kc_ BK151.out 4).trans rfl, (kc_ BK151.out 5).trans rfl, (kc_ BK151.out 6).trans rfl, (kc_ BK151.out 7).trans rfl, (kc_ BK151.out 8).trans rfl, (kc_ BK151.out 9).trans rfl, (kc_ BK151.out 10).trans rfl, (kc_ BK151.out 11).trans rfl, (kc_ BK151.out 12).trans rfl, ((HB.out.cell (World.block_lt_of_cell? w _ hw161_0)).trans hw161_0), ((HB.out.cell (World.block_lt_of_cell? w _ hw161_1)).trans hw161_1), ((HB.out.cell (World.block_lt_of_cell? w _ hw161_2)).trans hw161_2), ((HB.out.cell (World.block_lt_of_cell? w _ hw161_3)).trans hw161_3), ((HB.out.cell (World.block_lt_of_cell? w _ hw161_4)).trans hw161_4), ((HB.out.cell (World.block_lt_of_cell? w _ hw161_5)).trans hw161_5), ((HB.out.cell (World.block_lt_of_cell? w _ hw161_6)).trans hw161_6), ((HB.out.cell (World.block_lt_of_cell? w _ hw161_7)).trans hw161_7), ((HB.out.cell (World.block_lt_of_cell? w _ hw161_8)).trans hw161_8), ((HB.out.cell (World.block_lt_of_cell? w _ hw161_9)).trans hw161_9), ((HB.out.cell (World.block_lt_of_cell? w _ hw161_10)).trans hw161_10)⟩ (fun hHeld => ?_)
                  clear hK K
                  refine norm_ (a' := ?_) ?_ ?_
                  rotate_left
                  ·show Act.put _ (some 74) _ = _
                   simp only [Act.put, setIfInBounds_toArray, set_cons_zero, set_cons_succ, i64_w, i32_w]
                   rfl
                  refine pure_ (i := 10) (N := some 75) (v := ?_) (a' := ?_) (bA3 11 29) rfl rfl (any_of HT_.out (by kernel_rfl)) (fun _ _ _ h => h) (Or.inl ⟨by rfl, ?_⟩) ?_ ?_; rotate_left; (intro w'; go_simp; with_reducible rfl); rotate_left; (simp only [Act.put, setIfInBounds_toArray, set_cons_zero, set_cons_succ, i64_w, i32_w]; rfl)
                  refine pure_ (i := 11) (N := some 76) (v := ?_) (a' := ?_) (bA3 12 29) rfl rfl (any_of HT_.out (by kernel_rfl)) (fun _ _ _ h => h) (Or.inl ⟨by rfl, ?_⟩) ?_ ?_; rotate_left; (intro w'; go_simp; with_reducible rfl); rotate_left; (simp only [Act.put, setIfInBounds_toArray, set_cons_zero, set_cons_succ, i64_w, i32_w]; rfl)
                  refine pure_ (i := 12) (N := some 77) (v := ?_) (a' := ?_) (bA3 13 29) rfl rfl (any_of HT_.out (by kernel_rfl)) (fun _ _ _ h => h) (Or.inl ⟨by rfl, ?_⟩) ?_ ?_; rotate_left; (intro w'; go_simp; with_reducible rfl); rotate_left; (simp only [Act.put, setIfInBounds_toArray, set_cons_zero, set_cons_succ, i64_w, i32_w]; rfl)
                  refine pure_ (i := 13) (N := some 78) (v := ?_) (a' := ?_) (bA3 14 29) rfl rfl (any_of HT_.out (by kernel_rfl)) (fun _ _ _ h => h) (Or.inl ⟨by rfl, ?_⟩) ?_ ?_; rotate_left; (intro w'; go_simp; with_reducible rfl); rotate_left; (simp only [Act.put, setIfInBounds_toArray, set_cons_zero, set_cons_succ, i64_w, i32_w]; rfl)
                  refine pure_ (i := 14) (N := some 79) (v := ?_) (a' := ?_) (bA3 15 29) rfl rfl (any_of HT_.out (by kernel_rfl)) (fun _ _ _ h => h) (Or.inl ⟨by rfl, ?_⟩) ?_ ?_; rotate_left; (intro w'; go_simp; with_reducible rfl); rotate_left; (simp only [Act.put, setIfInBounds_toArray, set_cons_zero, set_cons_succ, i64_w, i32_w]; rfl)
                  refine pure_ (i := 15) (N := some 80) (v := ?_) (a' := ?_) (bA3 16 29) rfl rfl (any_of HT_.out (by kernel_rfl)) (fun _ _ _ h => h) (Or.inl ⟨by rfl, ?_⟩) ?_ ?_; rotate_left; (intro w'; go_simp; with_reducible rfl); rotate_left; (simp only [Act.put, setIfInBounds_toArray, set_cons_zero, set_cons_succ, i64_w, i32_w]; rfl)
                  refine pure_ (i := 16) (N := some 81) (v := ?_) (a' := ?_) (bA3 17 29) rfl rfl (any_of HT_.out (by kernel_rfl)) (fun _ _ _ h => h) (Or.inl ⟨by rfl, ?_⟩) ?_ ?_; rotate_left; (intro w'; go_simp; with_reducible rfl); rotate_left; (simp only [Act.put, setIfInBounds_toArray, set_cons_zero, set_cons_succ, i64_w, i32_w]; rfl)
                  refine pure_ (i := 18) (N := some 83) (v := ?_) (a' := ?_) #[true, true, true, true, true, true, true, true, true, true, true, true, true, true, true, true, true, false, true, false, false, false, false, false, false, false, false, false, false] rfl rfl (any_of HT_.out (by kernel_rfl)) (fun _ _ _ h => h) (Or.inl ⟨by rfl, ?_⟩) ?_ ?_; rotate_left; (intro w'; go_simp; with_reducible rfl); rotate_left; (simp only [Act.put, setIfInBounds_toArray, set_cons_zero, set_cons_succ, i64_w, i32_w]; rfl)
                  refine pure_ (i := 19) (N := some 84) (v := ?_) (a' := ?_) #[true, true, true, true, true, true, true, true, true, true, true, true, true, true, true, true, true, false, true, true, false, false, false, false, false, false, false, false, false] rfl rfl (any_of HT_.out (by kernel_rfl)) (fun _ _ _ h => h) (Or.inl ⟨by rfl, ?_⟩) ?_ ?_; rotate_left; (intro w'; go_simp; with_reducible rfl); rotate_left; (simp only [Act.put, setIfInBounds_toArray, set_cons_zero, set_cons_succ, i64_w, i32_w]; rfl)
                  refine pure_ (i := 23) (N := some 88) (v := ?_) (a' := ?_) #[true, true, true, true, true, true, true, true, true, true, true, true, true, true, true, true, true, false, true, true, false, false, false, true, false, false, false, false, false] rfl rfl (any_of HT_.out (by kernel_rfl)) (fun _ _ _ h => h) (Or.inl ⟨by rfl, ?_⟩) ?_ ?_; rotate_left; (intro w'; go_simp; with_reducible rfl); rotate_left; (simp only [Act.put, setIfInBounds_toArray, set_cons_zero, set_cons_succ, i64_w, i32_w]; rfl)
                  refine take_ (i := 17) (N := some 82) (v := ?_) (a' := ?_) #[true, true, true, true, true, true, true, true, true, true, true, true, true, true, true, true, true, true, true, true, false, false, false, true, false, false, false, false, false] rfl rfl (take_ofW HT_.out HW_.out (by kernel_rfl)) (fun _ _ _ h => h) (Or.inl ⟨by rfl, ?_⟩) hHeld ?_ ?_
                  rotate_left
                  ·rintro w' ⟨s0, s1, s2, s3, s4, s5, s6, s7, s8, s9, s10, s11, s12, s13, s14, s15, s16, s17, s18, s19, s20, s21, s22, s23, s24, s25, s26, s27, s28, s29, s30, s31, s32, s33, s34⟩
                   go_simp
                   with_reducible rfl
                  rotate_left
                  ·simp only [Act.put, setIfInBounds_toArray, set_cons_zero, set_cons_succ, i64_w, i32_w]
                   rfl
                  refine pure_ (i := 20) (N := some 85) (v := ?_) (a' := ?_) #[true, true, true, true, true, true, true, true, true, true, true, true, true, true, true, true, true, true, true, true, true, false, false, true, false, false, false, false, false] rfl rfl (any_of HT_.out (by kernel_rfl)) (fun _ _ _ h => h) (Or.inl ⟨by rfl, ?_⟩) ?_ ?_; rotate_left; (intro w'; go_simp; with_reducible rfl); rotate_left; (simp only [Act.put, setIfInBounds_toArray, set_cons_zero, set_cons_succ, i64_w, i32_w]; rfl)
                  refine pure_ (i := 21) (N := some 86) (v := ?_) (a' := ?_) #[true, true, true, true, true, true, true, true, true, true, true, true, true, true, true, true, true, true, true, true, true, true, false, true, false, false, false, false, false] rfl rfl (any_of HT_.out (by kernel_rfl)) (fun _ _ _ h => h) (Or.inl ⟨by rfl, ?_⟩) ?_ ?_; rotate_left; (intro w'; go_simp; with_reducible rfl); rotate_left; (simp only [Act.put, setIfInBounds_toArray, set_cons_zero, set_cons_succ, i64_w, i32_w]; rfl)
                  refine take_ (i := 22) (N := some 87) (v := ?_) (a' := ?_) (bA3 24 29) rfl rfl (take_ofW HT_.out HW_.out (by kernel_rfl)) (fun _ _ _ h => h) (Or.inl ⟨by rfl, ?_⟩) hHeld ?_ ?_
                  rotate_left
                  ·rintro w' ⟨s0, s1, s2, s3, s4, s5, s6, s7, s8, s9, s10, s11, s12, s13, s14, s15, s16, s17, s18, s19, s20, s21, s22, s23, s24, s25, s26, s27, s28, s29, s30, s31, s32, s33, s34⟩
                   go_simp
                   with_reducible rfl
                  rotate_left
                  ·simp only [Act.put, setIfInBounds_toArray, set_cons_zero, set_cons_succ, i64_w, i32_w]
                   rfl
                  refine take_ (i := 24) (N := some 89) (v := ?_) (a' := ?_) (bA3 25 29) rfl rfl (take_ofW HT_.out HW_.out (by kernel_rfl)) (fun _ _ _ h => h) (Or.inl ⟨by rfl, ?_⟩) hHeld ?_ ?_
                  rotate_left
                  ·rintro w' ⟨s0, s1, s2, s3, s4, s5, s6, s7, s8, s9, s10, s11, s12, s13, s14, s15, s16, s17, s18, s19, s20, s21, s22, s23, s24, s25, s26, s27, s28, s29, s30, s31, s32, s33, s34⟩
                   go_simp
                   with_reducible rfl
                  rotate_left
                  ·simp only [Act.put, setIfInBounds_toArray, set_cons_zero, set_cons_succ, i64_w, i32_w]
                   rfl
                  refine one_ (i := 25) (N := some 90) (bA3 26 29) rfl rfl (one_of HT_.out (by kernel_rfl)) (by decide) (fun K hK => ?_)
                  refine goes_ Try.func49 (by kernel_rfl) rfl #[.agg #[.int .u64 ((rd_T41 l0_3 (ji31)).f0.f0), .int .u64 ((rd_T41 l0_3 (ji31)).f0.f1)], .agg #[.int .u64 ((rd_T41 l0_3 x50_2).f0.f0), .int .u64 ((rd_T41 l0_3 x50_2).f0.f1)]] (by rfl) rfl rfl (by (try simp only [map_toArray, map_cons, map_nil]); first | done | (simp only [hji31]; rfl) | rfl | (simp only [length_drop, length_take]; rfl)) ?_
                  with_reducible refine (sub_Less.calls k2 ((rd_T41 l0_3 (ji31)).f0.f0) ((rd_T41 l0_3 (ji31)).f0.f1) ((rd_T41 l0_3 x50_2).f0.f0) ((rd_T41 l0_3 x50_2).f0.f1) false _ A34.out).mono ?_
                  rintro e w51 ⟨rfl, hb⟩
                  refine ⟨_, rfl, ?_⟩
                  have n0_ := ak_ (kb_ (g := gb151) (o := .cells #[.int .i64 a0_0, .int .i64 a0_1, .int .i64 a0_2, .slice (some ad156) l0_3.length c0_3, .bool a0_4, .bool a0_5, .int .u64 a0_6, .int .u64 a0_7, .int .u64 a0_8, .int .u64 a0_9, .int .u64 a0_10, .int .u64 a0_11, .int .i64 a0_12] 31 (0, 0)) (by (with_reducible repeat (first | refine kn_ ?_ _ | refine kd_ ?_ | refine ka_ ?_ _)); exact BK151.out) hb)
                  have n1_ := ak_ (kb_ (g := gb157) (o := .cells #[.int .u64 ((rd_T41 l0_3 x50_2).f0.f0), .int .u64 ((rd_T41 l0_3 x50_2).f0.f1), .bool ((rd_T41 l0_3 x50_2).f1.f0), .bool ((rd_T41 l0_3 x50_2).f1.f1), .int .u64 ((rd_T41 l0_3 x50_2).f1.f2.f0), .int .u64 ((rd_T41 l0_3 x50_2).f1.f2.f1), .int .u64 ((rd_T41 l0_3 x50_2).f1.f3.f0.f0), .int .u64 ((rd_T41 l0_3 x50_2).f1.f3.f0.f1), .int .u64 ((rd_T41 l0_3 x50_2).f1.f3.f1.f0), .int .u64 ((rd_T41 l0_3 x50_2).f1.f3.f1.f1), .int .i64 ((rd_T41 l0_3 x50_2).f1.f4)] 41 (0, 0)) (by (with_reducible repeat (first | refine kn_ ?_ _ | refine kd_ ?_ | refine ka_ ?_ _)); exact BK157.out) hb)
                  have n2_ := ak_ (bt_ (by repeat (first | (with_reducible first | exact HB.out | apply ba_ | apply bn_ | apply bd_ | refine below_set ?_ GE151.out | refine below_set ?_ GE157.out) | exact HB.out)) hb)
                  clear BK151
                  clear BK157
                  clear HB
                  have BK151 := n0_
                  have BK157 := n1_
                  have HB := n2_
                  clear n0_ n1_ n2_
                  (try clear hb)
                  (try clear hb2)
                  (try clear hk)
                  (try clear hi)
                  refine hK.out _ _ ⟨(kc_ BK157.out 0).trans rfl, (kc_ BK157.out 1).trans rfl, (kc_ BK157.out 2).trans rfl, (kc_ BK157.out 3).trans rfl, (kc_ BK157.out 4).trans rfl, (kc_ BK157.out 5).trans rfl, (kc_ BK157.out 6).trans rfl, (kc_ BK157.out 7).trans rfl, (kc_ BK157.out 8).trans rfl, (kc_ BK157.out 9).trans rfl, (kc_ BK157.out 10).trans rfl, (kc_ BK151.out 0).trans rfl, (kc_ BK151.out 1).trans rfl, (kc_ BK151.out 2).trans rfl, (kc_ BK151.out 3).trans rfl, (kc_ BK151.out 4).trans rfl, (kc_ BK151.out 5).trans rfl, (kc_ BK151.out 6).trans rfl, (kc_ BK151.out 7).trans rfl, (kc_ BK151.out 8).trans rfl, (kc_ BK151.out 9).trans rfl, (kc_ BK151.out 10).trans rfl, (kc_ BK151.out 11).trans rfl, (kc_ BK151.out 12).trans rfl, ((HB.out.cell (World.block_lt_of_cell? w _ hw161_0)).trans hw161_0), ((HB.out.cell (World.block_lt_of_cell? w _ hw161_1)).trans hw161_1), ((HB.out.cell (World.block_lt_of_cell? w _ hw161_2)).trans hw161_2), ((HB.out.cell (World.block_lt_of_cell? w _ hw161_3)).trans hw161_3), ((HB.out.cell (World.block_lt_of_cell? w _ hw161_4)).trans hw161_4), ((HB.out.cell (World.block_lt_of_cell? w _ hw161_5)).trans hw161_5), ((HB.out.cell (World.block_lt_of_cell? w _ hw161_6)).trans hw161_6), ((HB.out.cell (World.block_lt_of_cell? w _ hw161_7)).trans hw161_7), ((HB.out.cell (World.block_lt_of_cell? w _ hw161_8)).trans hw161_8), ((HB.out.cell (World.block_lt_of_cell? w _ hw161_9)).trans hw161_9), ((HB.out.cell (World.block_lt_of_cell? w _ hw161_10)).trans hw161_10)⟩ (fun hHeld => ?_)
                  clear hK K
                  refine norm_ (a' := ?_) ?_ ?_
                  rotate_left
                  ·show Act.put _ (some 90) _ = _
                   simp only [Act.put, setIfInBounds_toArray, set_cons_zero, set_cons_succ, i64_w, i32_w]
                   rfl
                  refine pure_ (i := 26) (N := some 91) (v := ?_) (a' := ?_) (bA3 27 29) rfl rfl (any_of HT_.out (by kernel_rfl)) (fun _ _ _ h => h) (Or.inl ⟨by rfl, ?_⟩) ?_ ?_; rotate_left; (intro w'; go_simp; with_reducible rfl); rotate_left; (simp only [Act.put, setIfInBounds_toArray, set_cons_zero, set_cons_succ, i64_w, i32_w]; rfl)
                  refine pure_ (i := 27) (N := some 92) (v := ?_) (a' := ?_) (bA3 28 29) rfl rfl (any_of HT_.out (by kernel_rfl)) (fun _ _ _ h => h) (Or.inl ⟨by rfl, ?_⟩) ?_ ?_; rotate_left; (intro w'; go_simp; with_reducible rfl); rotate_left; (simp only [Act.put, setIfInBounds_toArray, set_cons_zero, set_cons_succ, i64_w, i32_w]; rfl)
                  refine pure_ (i := 28) (N := some 93) (v := ?_) (a' := ?_) (bA3 29 29) rfl rfl (any_of HT_.out (by kernel_rfl)) (fun _ _ _ h => h) (Or.inl ⟨by rfl, ?_⟩) ?_ ?_; rotate_left; (intro w'; go_simp; with_reducible rfl); rotate_left; (simp only [Act.put, setIfInBounds_toArray, set_cons_zero, set_cons_succ, i64_w, i32_w]; rfl)
                  refine done_ (done_of HT_.out (by kernel_rfl)) ?_
                  try go_wp2
                  go_ret
                  exact ⟨by first | rfl | (simp <;> rfl) | (simp only [← hji31]; first | rfl | (simp <;> rfl)) | (simp [*] <;> rfl), by repeat (first | (with_reducible first | exact HB.out | apply ba_ | apply bn_ | apply bd_ | refine below_set ?_ GE151.out | refine below_set ?_ GE157.out) | exact HB.out)⟩
                ·rw [if_neg c33] at H
                 exact absurd H (by simp)
               ·rw [if_neg c32] at H
                exact absurd H (by simp)
              ·rw [if_neg c30] at H
               have c30b0 : decide (0 < x50_2) = false := decide_eq_false c30
               clear c30
               have H' := ak_ H
               clear H
               have p156 : 0 ≤ (x50_2 : Int) := od_ (by first | (with_reducible assumption) | assumption)
               have q156 : x50_2 < (l0_3.length : Int) := od_ (by first | (with_reducible assumption) | assumption)
               obtain ⟨ad156, e156, hx156_0, hx156_1, hx156_2, hx156_3, hx156_4, hx156_5, hx156_6, hx156_7, hx156_8, hx156_9, hx156_10⟩ := at_T41 HR0_3.out x50_2 p156 q156
               cases e156
               replace hx156_0 := (HB.out.cell (World.block_lt_of_cell? w _ hx156_0)).trans hx156_0
               replace hx156_1 := (HB.out.cell (World.block_lt_of_cell? w _ hx156_1)).trans hx156_1
               replace hx156_2 := (HB.out.cell (World.block_lt_of_cell? w _ hx156_2)).trans hx156_2
               replace hx156_3 := (HB.out.cell (World.block_lt_of_cell? w _ hx156_3)).trans hx156_3
               replace hx156_4 := (HB.out.cell (World.block_lt_of_cell? w _ hx156_4)).trans hx156_4
               replace hx156_5 := (HB.out.cell (World.block_lt_of_cell? w _ hx156_5)).trans hx156_5
               replace hx156_6 := (HB.out.cell (World.block_lt_of_cell? w _ hx156_6)).trans hx156_6
               replace hx156_7 := (HB.out.cell (World.block_lt_of_cell? w _ hx156_7)).trans hx156_7
               replace hx156_8 := (HB.out.cell (World.block_lt_of_cell? w _ hx156_8)).trans hx156_8
               replace hx156_9 := (HB.out.cell (World.block_lt_of_cell? w _ hx156_9)).trans hx156_9
               replace hx156_10 := (HB.out.cell (World.block_lt_of_cell? w _ hx156_10)).trans hx156_10
               replace p156 := eq_true p156
               replace q156 := eq_true q156
               try go_wp2_with (first | ((with_reducible refine gate_dst (N := 6) rfl ?_); (try (refine gate_guard (by rfl) ?_; dsimp only)); refine box_event ?hg (N := 6) ?hd (cs := #[.int .u64 0, .int .u64 0, .bool false, .bool false, .int .u64 0, .int .u64 0, .int .u64 0, .int .u64 0, .int .u64 0, .int .u64 0, .int .i64 0]) (t := 41) ?hr ?_; (case hd => rfl); (case hg => rfl); (case hr => first | (go_simp; done) | (go_simp; rfl)); intro gb157 hg w52 hbox hb; have n0_ := ak_ (kb_ (g := gb151) (o := .cells #[.int .i64 a0_0, .int .i64 a0_1, .int .i64 a0_2, .slice (some ad156) l0_3.length c0_3, .bool a0_4, .bool a0_5, .int .u64 a0_6, .int .u64 a0_7, .int .u64 a0_8, .int .u64 a0_9, .int .u64 a0_10, .int .u64 a0_11, .int .i64 a0_12] 31 (0, 0)) (by (with_reducible repeat (first | refine kn_ ?_ _ | refine kd_ ?_ | refine ka_ ?_ _)); exact BK151.out) hb); have n1_ := ak_ (bt_ (by repeat (first | (with_reducible first | exact HB.out | apply ba_ | apply bn_ | apply bd_ | refine below_set ?_ GE151.out) | exact HB.out)) hb); have n2_ := ak_ (hbox); have n3_ := ak_ ((by rw [hg]; exact (bz_ (by repeat (first | (with_reducible first | exact HB.out | apply ba_ | apply bn_ | apply bd_ | refine below_set ?_ GE151.out) | exact HB.out))) : w.heap.size ≤ gb157)); have n4_ := ak_ ((by rw [hg]; exact (bz_ (by repeat (first | (with_reducible first | exact HB.out | apply ba_ | apply bn_ | apply bd_ | refine below_set ?_ GE151.out) | exact HB.out))) : w.heap.size ≤ gb157)); have n5_ := ak_ ((by rw [hg]; exact Nat.ne_of_lt (blk_lt (g := gb151) (o := .cells #[.int .i64 a0_0, .int .i64 a0_1, .int .i64 a0_2, .slice (some ad156) l0_3.length c0_3, .bool a0_4, .bool a0_5, .int .u64 a0_6, .int .u64 a0_7, .int .u64 a0_8, .int .u64 a0_9, .int .u64 a0_10, .int .u64 a0_11, .int .i64 a0_12] 31 (0, 0)) (by (with_reducible repeat (first | refine kn_ ?_ _ | refine kd_ ?_ | refine ka_ ?_ _)); exact BK151.out)) : gb151 ≠ gb157)); have n6_ := ak_ ((by rw [hg]; exact Nat.ne_of_gt (blk_lt (g := gb151) (o := .cells #[.int .i64 a0_0, .int .i64 a0_1, .int .i64 a0_2, .slice (some ad156) l0_3.length c0_3, .bool a0_4, .bool a0_5, .int .u64 a0_6, .int .u64 a0_7, .int .u64 a0_8, .int .u64 a0_9, .int .u64 a0_10, .int .u64 a0_11, .int .i64 a0_12] 31 (0, 0)) (by (with_reducible repeat (first | refine kn_ ?_ _ | refine kd_ ?_ | refine ka_ ?_ _)); exact BK151.out)) : gb157 ≠ gb151)); clear BK151; clear HB; have BK151 := n0_; have HB := n1_; have BK157 := n2_; have GW157 := n3_; have GE157 := n4_; have NB151_157 := n5_; have NB157_151 := n6_; clear n0_ n1_ n2_ n3_ n4_ n5_ n6_; clear hb hbox hg; have hnb53 := NB157_151.out; have hnc53 := NB151_157.out; have hcz54_0 : w52.cell? ⟨gb157, 0, none⟩ = some (.int .u64 0) := (kc_ BK157.out 0).trans rfl; have hcz54_1 : w52.cell? ⟨gb157, 1, none⟩ = some (.int .u64 0) := (kc_ BK157.out 1).trans rfl; have hcz54_2 : w52.cell? ⟨gb157, 2, none⟩ = some (.bool false) := (kc_ BK157.out 2).trans rfl; have hcz54_3 : w52.cell? ⟨gb157, 3, none⟩ = some (.bool false) := (kc_ BK157.out 3).trans rfl; have hcz54_4 : w52.cell? ⟨gb157, 4, none⟩ = some (.int .u64 0) := (kc_ BK157.out 4).trans rfl; have hcz54_5 : w52.cell? ⟨gb157, 5, none⟩ = some (.int .u64 0) := (kc_ BK157.out 5).trans rfl; have hcz54_6 : w52.cell? ⟨gb157, 6, none⟩ = some (.int .u64 0) := (kc_ BK157.out 6).trans rfl; have hcz54_7 : w52.cell? ⟨gb157, 7, none⟩ = some (.int .u64 0) := (kc_ BK157.out 7).trans rfl; have hcz54_8 : w52.cell? ⟨gb157, 8, none⟩ = some (.int .u64 0) := (kc_ BK157.out 8).trans rfl; have hcz54_9 : w52.cell? ⟨gb157, 9, none⟩ = some (.int .u64 0) := (kc_ BK157.out 9).trans rfl; have hcz54_10 : w52.cell? ⟨gb157, 10, none⟩ = some (.int .i64 0) := (kc_ BK157.out 10).trans rfl; have hfz54_0 := kf_ BK157.out 0; have hfz54_1 := kf_ BK157.out 1; have hfz54_2 := kf_ BK157.out 2; have hfz54_3 := kf_ BK157.out 3; have hfz54_4 := kf_ BK157.out 4; have hfz54_5 := kf_ BK157.out 5; have hfz54_6 := kf_ BK157.out 6; have hfz54_7 := kf_ BK157.out 7; have hfz54_8 := kf_ BK157.out 8; have hfz54_9 := kf_ BK157.out 9; have hfz54_10 := kf_ BK157.out 10; have hcz55_0 : w52.cell? ⟨gb151, 0, none⟩ = some (.int .i64 a0_0) := (kc_ BK151.out 0).trans rfl; have hcz55_1 : w52.cell? ⟨gb151, 1, none⟩ = some (.int .i64 a0_1) := (kc_ BK151.out 1).trans rfl; have hcz55_2 : w52.cell? ⟨gb151, 2, none⟩ = some (.int .i64 a0_2) := (kc_ BK151.out 2).trans rfl; have hcz55_3 : w52.cell? ⟨gb151, 3, none⟩ = some (.slice (some ad156) l0_3.length c0_3) := (kc_ BK151.out 3).trans rfl; have hcz55_4 : w52.cell? ⟨gb151, 4, none⟩ = some (.bool a0_4) := (kc_ BK151.out 4).trans rfl; have hcz55_5 : w52.cell? ⟨gb151, 5, none⟩ = some (.bool a0_5) := (kc_ BK151.out 5).trans rfl; have hcz55_6 : w52.cell? ⟨gb151, 6, none⟩ = some (.int .u64 a0_6) := (kc_ BK151.out 6).trans rfl; have hcz55_7 : w52.cell? ⟨gb151, 7, none⟩ = some (.int .u64 a0_7) := (kc_ BK151.out 7).trans rfl; have hcz55_8 : w52.cell? ⟨gb151, 8, none⟩ = some (.int .u64 a0_8) := (kc_ BK151.out 8).trans rfl; have hcz55_9 : w52.cell? ⟨gb151, 9, none⟩ = some (.int .u64 a0_9) := (kc_ BK151.out 9).trans rfl; have hcz55_10 : w52.cell? ⟨gb151, 10, none⟩ = some (.int .u64 a0_10) := (kc_ BK151.out 10).trans rfl; have hcz55_11 : w52.cell? ⟨gb151, 11, none⟩ = some (.int .u64 a0_11) := (kc_ BK151.out 11).trans rfl; have hcz55_12 : w52.cell? ⟨gb151, 12, none⟩ = some (.int .i64 a0_12) := (kc_ BK151.out 12).trans rfl; have hfz55_0 := kf_ BK151.out 0; have hfz55_1 := kf_ BK151.out 1; have hfz55_2 := kf_ BK151.out 2; have hfz55_3 := kf_ BK151.out 3; have hfz55_4 := kf_ BK151.out 4; have hfz55_5 := kf_ BK151.out 5; have hfz55_6 := kf_ BK151.out 6; have hfz55_7 := kf_ BK151.out 7; have hfz55_8 := kf_ BK151.out 8; have hfz55_9 := kf_ BK151.out 9; have hfz55_10 := kf_ BK151.out 10; have hfz55_11 := kf_ BK151.out 11; have hfz55_12 := kf_ BK151.out 12) | ((with_reducible refine gate_callee (f := 48) rfl ?_); refine goesL_ (some 62) rfl rfl Try.func48 (by kernel_rfl) rfl #[.int .i64 a0_1, .int .i64 a0_0, .agg #[.int .u64 ((rd_T41 l0_3 x50_2).f0.f0), .int .u64 ((rd_T41 l0_3 x50_2).f0.f1)]] rfl (by (try simp only [map_toArray, map_cons, map_nil]); first | done | rfl | (simp only [length_drop, length_take]; rfl)) ?_; (with_reducible refine (layer_May.calls k2 a0_1 a0_0 ((rd_T41 l0_3 x50_2).f0.f0) ((rd_T41 l0_3 x50_2).f0.f1) true t159 _ A25.out).mono ?_); rintro e w56 ⟨rfl, hb⟩; refine ⟨_, rfl, ?_⟩; have n0_ := ak_ (kb_ (g := gb151) (o := .cells #[.int .i64 a0_0, .int .i64 a0_1, .int .i64 a0_2, .slice (some ad156) l0_3.length c0_3, .bool a0_4, .bool a0_5, .int .u64 a0_6, .int .u64 a0_7, .int .u64 a0_8, .int .u64 a0_9, .int .u64 a0_10, .int .u64 a0_11, .int .i64 a0_12] 31 (0, 0)) (by (with_reducible repeat (first | refine kn_ ?_ _ | refine kd_ ?_ | refine ka_ ?_ _)); refine blk_far ?_ NB151_157.out _; (with_reducible repeat (first | refine kn_ ?_ _ | refine kd_ ?_ | refine ka_ ?_ _)); refine blk_far ?_ NB151_157.out _; (with_reducible repeat (first | refine kn_ ?_ _ | refine kd_ ?_ | refine ka_ ?_ _)); refine blk_far ?_ NB151_157.out _; (with_reducible repeat (first | refine kn_ ?_ _ | refine kd_ ?_ | refine ka_ ?_ _)); refine blk_far ?_ NB151_157.out _; (with_reducible repeat (first | refine kn_ ?_ _ | refine kd_ ?_ | refine ka_ ?_ _)); refine blk_far ?_ NB151_157.out _; (with_reducible repeat (first | refine kn_ ?_ _ | refine kd_ ?_ | refine ka_ ?_ _)); refine blk_far ?_ NB151_157.out _; (with_reducible repeat (first | refine kn_ ?_ _ | refine kd_ ?_ | refine ka_ ?_ _)); refine blk_far ?_ NB151_157.out _; (with_reducible repeat (first | refine kn_ ?_ _ | refine kd_ ?_ | refine ka_ ?_ _)); refine blk_far ?_ NB151_157.out _; (with_reducible repeat (first | refine kn_ ?_ _ | refine kd_ ?_ | refine ka_ ?_ _)); refine blk_far ?_ NB151_157.out _; (with_reducible repeat (first | refine kn_ ?_ _ | refine kd_ ?_ | refine ka_ ?_ _)); refine blk_far ?_ NB151_157.out _; (with_reducible repeat (first | refine kn_ ?_ _ | refine kd_ ?_ | refine ka_ ?_ _)); refine blk_far ?_ NB151_157.out _; (with_reducible repeat (first | refine kn_ ?_ _ | refine kd_ ?_ | refine ka_ ?_ _)); exact BK151.out) hb); have n1_ := ak_ (kb_ (g := gb157) (o := .cells #[.int .u64 ((rd_T41 l0_3 x50_2).f0.f0), .int .u64 ((rd_T41 l0_3 x50_2).f0.f1), .bool ((rd_T41 l0_3 x50_2).f1.f0), .bool ((rd_T41 l0_3 x50_2).f1.f1), .int .u64 ((rd_T41 l0_3 x50_2).f1.f2.f0), .int .u64 ((rd_T41 l0_3 x50_2).f1.f2.f1), .int .u64 ((rd_T41 l0_3 x50_2).f1.f3.f0.f0), .int .u64 ((rd_T41 l0_3 x50_2).f1.f3.f0.f1), .int .u64 ((rd_T41 l0_3 x50_2).f1.f3.f1.f0), .int .u64 ((rd_T41 l0_3 x50_2).f1.f3.f1.f1), .int .i64 ((rd_T41 l0_3 x50_2).f1.f4)] 41 (0, 0)) (by (with_reducible repeat (first | refine kn_ ?_ _ | refine kd_ ?_ | refine ka_ ?_ _)); refine blk_put (cs := #[.int .u64 ((rd_T41 l0_3 x50_2).f0.f0), .int .u64 ((rd_T41 l0_3 x50_2).f0.f1), .bool ((rd_T41 l0_3 x50_2).f1.f0), .bool ((rd_T41 l0_3 x50_2).f1.f1), .int .u64 ((rd_T41 l0_3 x50_2).f1.f2.f0), .int .u64 ((rd_T41 l0_3 x50_2).f1.f2.f1), .int .u64 ((rd_T41 l0_3 x50_2).f1.f3.f0.f0), .int .u64 ((rd_T41 l0_3 x50_2).f1.f3.f0.f1), .int .u64 ((rd_T41 l0_3 x50_2).f1.f3.f1.f0), .int .u64 ((rd_T41 l0_3 x50_2).f1.f3.f1.f1), .int .i64 0]) ?_ 10 _ rfl; (with_reducible repeat (first | refine kn_ ?_ _ | refine kd_ ?_ | refine ka_ ?_ _)); refine blk_put (cs := #[.int .u64 ((rd_T41 l0_3 x50_2).f0.f0), .int .u64 ((rd_T41 l0_3 x50_2).f0.f1), .bool ((rd_T41 l0_3 x50_2).f1.f0), .bool ((rd_T41 l0_3 x50_2).f1.f1), .int .u64 ((rd_T41 l0_3 x50_2).f1.f2.f0), .int .u64 ((rd_T41 l0_3 x50_2).f1.f2.f1), .int .u64 ((rd_T41 l0_3 x50_2).f1.f3.f0.f0), .int .u64 ((rd_T41 l0_3 x50_2).f1.f3.f0.f1), .int .u64 ((rd_T41 l0_3 x50_2).f1.f3.f1.f0), .int .u64 0, .int .i64 0]) ?_ 9 _ rfl; (with_reducible repeat (first | refine kn_ ?_ _ | refine kd_ ?_ | refine ka_ ?_ _)); refine blk_put (cs := #[.int .u64 ((rd_T41 l0_3 x50_2).f0.f0), .int .u64 ((rd_T41 l0_3 x50_2).f0.f1), .bool ((rd_T41 l0_3 x50_2).f1.f0), .bool ((rd_T41 l0_3 x50_2).f1.f1), .int .u64 ((rd_T41 l0_3 x50_2).f1.f2.f0), .int .u64 ((rd_T41 l0_3 x50_2).f1.f2.f1), .int .u64 ((rd_T41 l0_3 x50_2).f1.f3.f0.f0), .int .u64 ((rd_T41 l0_3 x50_2).f1.f3.f0.f1), .int .u64 0, .int .u64 0, .int .i64 0]) ?_ 8 _ rfl; (with_reducible repeat (first | refine kn_ ?_ _ | refine kd_ ?_ | refine ka_ ?_ _)); refine blk_put (cs := #[.int .u64 ((rd_T41 l0_3 x50_2).f0.f0), .int .u64 ((rd_T41 l0_3 x50_2).f0.f1), .bool ((rd_T41 l0_3 x50_2).f1.f0), .bool ((rd_T41 l0_3 x50_2).f1.f1), .int .u64 ((rd_T41 l0_3 x50_2).f1.f2.f0), .int .u64 ((rd_T41 l0_3 x50_2).f1.f2.f1), .int .u64 ((rd_T41 l0_3 x50_2).f1.f3.f0.f0), .int .u64 0, .int .u64 0, .int .u64 0, .int .i64 0]) ?_ 7 _ rfl; (with_reducible repeat (first | refine kn_ ?_ _ | refine kd_ ?_ | refine ka_ ?_ _)); refine blk_put (cs := #[.int .u64 ((rd_T41 l0_3 x50_2).f0.f0), .int .u64 ((rd_T41 l0_3 x50_2).f0.f1), .bool ((rd_T41 l0_3 x50_2).f1.f0), .bool ((rd_T41 l0_3 x50_2).f1.f1), .int .u64 ((rd_T41 l0_3 x50_2).f1.f2.f0), .int .u64 ((rd_T41 l0_3 x50_2).f1.f2.f1), .int .u64 0, .int .u64 0, .int .u64 0, .int .u64 0, .int .i64 0]) ?_ 6 _ rfl; (with_reducible repeat (first | refine kn_ ?_ _ | refine kd_ ?_ | refine ka_ ?_ _)); refine blk_put (cs := #[.int .u64 ((rd_T41 l0_3 x50_2).f0.f0), .int .u64 ((rd_T41 l0_3 x50_2).f0.f1), .bool ((rd_T41 l0_3 x50_2).f1.f0), .bool ((rd_T41 l0_3 x50_2).f1.f1), .int .u64 ((rd_T41 l0_3 x50_2).f1.f2.f0), .int .u64 0, .int .u64 0, .int .u64 0, .int .u64 0, .int .u64 0, .int .i64 0]) ?_ 5 _ rfl; (with_reducible repeat (first | refine kn_ ?_ _ | refine kd_ ?_ | refine ka_ ?_ _)); refine blk_put (cs := #[.int .u64 ((rd_T41 l0_3 x50_2).f0.f0), .int .u64 ((rd_T41 l0_3 x50_2).f0.f1), .bool ((rd_T41 l0_3 x50_2).f1.f0), .bool ((rd_T41 l0_3 x50_2).f1.f1), .int .u64 0, .int .u64 0, .int .u64 0, .int .u64 0, .int .u64 0, .int .u64 0, .int .i64 0]) ?_ 4 _ rfl; (with_reducible repeat (first | refine kn_ ?_ _ | refine kd_ ?_ | refine ka_ ?_ _)); refine blk_put (cs := #[.int .u64 ((rd_T41 l0_3 x50_2).f0.f0), .int .u64 ((rd_T41 l0_3 x50_2).f0.f1), .bool ((rd_T41 l0_3 x50_2).f1.f0), .bool false, .int .u64 0, .int .u64 0, .int .u64 0, .int .u64 0, .int .u64 0, .int .u64 0, .int .i64 0]) ?_ 3 _ rfl; (with_reducible repeat (first | refine kn_ ?_ _ | refine kd_ ?_ | refine ka_ ?_ _)); refine blk_put (cs := #[.int .u64 ((rd_T41 l0_3 x50_2).f0.f0), .int .u64 ((rd_T41 l0_3 x50_2).f0.f1), .bool false, .bool false, .int .u64 0, .int .u64 0, .int .u64 0, .int .u64 0, .int .u64 0, .int .u64 0, .int .i64 0]) ?_ 2 _ rfl; (with_reducible repeat (first | refine kn_ ?_ _ | refine kd_ ?_ | refine ka_ ?_ _)); refine blk_put (cs := #[.int .u64 ((rd_T41 l0_3 x50_2).f0.f0), .int .u64 0, .bool false, .bool false, .int .u64 0, .int .u64 0, .int .u64 0, .int .u64 0, .int .u64 0, .int .u64 0, .int .i64 0]) ?_ 1 _ rfl; (with_reducible repeat (first | refine kn_ ?_ _ | refine kd_ ?_ | refine ka_ ?_ _)); refine blk_put (cs := #[.int .u64 0, .int .u64 0, .bool false, .bool false, .int .u64 0, .int .u64 0, .int .u64 0, .int .u64 0, .int .u64 0, .int .u64 0, .int .i64 0]) ?_ 0 _ rfl; (with_reducible repeat (first | refine kn_ ?_ _ | refine kd_ ?_ | refine ka_ ?_ _)); exact BK157.out) hb); have n2_ := ak_ (bt_ (by repeat (first | (with_reducible first | exact HB.out | apply ba_ | apply bn_ | apply bd_ | refine below_set ?_ GE151.out | refine below_set ?_ GE157.out) | exact HB.out)) hb); clear BK151; clear BK157; clear HB; have BK151 := n0_; have BK157 := n1_; have HB := n2_; clear n0_ n1_ n2_; (try clear hb); (try clear hb2); (try clear hk); (try clear hi)))
               have n0_ := ak_ (kd_ BK151.out)
               have n1_ := ak_ (kd_ BK157.out)
               have n2_ := ak_ (bd_ HB.out)
               clear BK151
               clear BK157
               clear HB
               have BK151 := n0_
               have BK157 := n1_
               have HB := n2_
               clear n0_ n1_ n2_
               refine start_ (n := 29) (S := fun w' => w'.cell? ⟨gb157, 0, none⟩ = some (.int .u64 ((rd_T41 l0_3 x50_2).f0.f0)) ∧ w'.cell? ⟨gb157, 1, none⟩ = some (.int .u64 ((rd_T41 l0_3 x50_2).f0.f1)) ∧ w'.cell? ⟨gb157, 2, none⟩ = some (.bool ((rd_T41 l0_3 x50_2).f1.f0)) ∧ w'.cell? ⟨gb157, 3, none⟩ = some (.bool ((rd_T41 l0_3 x50_2).f1.f1)) ∧ w'.cell? ⟨gb157, 4, none⟩ = some (.int .u64 ((rd_T41 l0_3 x50_2).f1.f2.f0)) ∧ w'.cell? ⟨gb157, 5, none⟩ = some (.int .u64 ((rd_T41 l0_3 x50_2).f1.f2.f1)) ∧ w'.cell? ⟨gb157, 6, none⟩ = some (.int .u64 ((rd_T41 l0_3 x50_2).f1.f3.f0.f0)) ∧ w'.cell? ⟨gb157, 7, none⟩ = some (.int .u64 ((rd_T41 l0_3 x50_2).f1.f3.f0.f1)) ∧ w'.cell? ⟨gb157, 8, none⟩ = some (.int .u64 ((rd_T41 l0_3 x50_2).f1.f3.f1.f0)) ∧ w'.cell? ⟨gb157, 9, none⟩ = some (.int .u64 ((rd_T41 l0_3 x50_2).f1.f3.f1.f1)) ∧ w'.cell? ⟨gb157, 10, none⟩ = some (.int .i64 ((rd_T41 l0_3 x50_2).f1.f4))) (ds := []) #[false, false, false, false, false, false, false, false, false, false, false, false, false, false, false, false, false, false, false, false, false, false, false, false, false, false, false, false, false] (by kernel_rfl) rfl rfl ⟨(kc_ BK157.out 0).trans rfl, (kc_ BK157.out 1).trans rfl, (kc_ BK157.out 2).trans rfl, (kc_ BK157.out 3).trans rfl, (kc_ BK157.out 4).trans rfl, (kc_ BK157.out 5).trans rfl, (kc_ BK157.out 6).trans rfl, (kc_ BK157.out 7).trans rfl, (kc_ BK157.out 8).trans rfl, (kc_ BK157.out 9).trans rfl, (kc_ BK157.out 10).trans rfl⟩ (fun hHeld => ?_); refine with_tabW head_Check.tab10 head_Check.bits10 (fun HT_ HW_ => ?_)
               generalize w56.drew = w57 at BK151 BK157 HB hHeld ⊢
               refine pure_ (i := 0) (N := some 65) (v := ?_) (a' := ?_) (bA3 1 29) rfl rfl (any_of HT_.out (by kernel_rfl)) (fun _ _ _ h => h) (Or.inl ⟨by rfl, ?_⟩) ?_ ?_; rotate_left; (intro w'; go_simp; with_reducible rfl); rotate_left; (simp only [Act.put, setIfInBounds_toArray, set_cons_zero, set_cons_succ, i64_w, i32_w]; rfl)
               refine pure_ (i := 1) (N := some 66) (v := ?_) (a' := ?_) (bA3 2 29) rfl rfl (any_of HT_.out (by kernel_rfl)) (fun _ _ _ h => h) (Or.inl ⟨by rfl, ?_⟩) ?_ ?_; rotate_left; (intro w'; go_simp; with_reducible rfl); rotate_left; (simp only [Act.put, setIfInBounds_toArray, set_cons_zero, set_cons_succ, i64_w, i32_w]; rfl)
               refine pure_ (i := 2) (N := some 67) (v := ?_) (a' := ?_) (bA3 3 29) rfl rfl (any_of HT_.out (by kernel_rfl)) (fun _ _ _ h => h) (Or.inl ⟨by rfl, ?_⟩) ?_ ?_; rotate_left; (intro w'; go_simp; with_reducible rfl); rotate_left; (simp only [Act.put, setIfInBounds_toArray, set_cons_zero, set_cons_succ, i64_w, i32_w]; rfl)
               refine pure_ (i := 3) (N := some 68) (v := ?_) (a' := ?_) (bA3 4 29) rfl rfl (any_of HT_.out (by kernel_rfl)) (fun _ _ _ h => h) (Or.inl ⟨by rfl, ?_⟩) ?_ ?_; rotate_left; (intro w'; go_simp; with_reducible rfl); rotate_left; (simp only [Act.put, setIfInBounds_toArray, set_cons_zero, set_cons_succ, i64_w, i32_w]; rfl)
               refine pure_ (i := 4) (N := some 69) (v := ?_) (a' := ?_) (bA3 5 29) rfl rfl (any_of HT_.out (by kernel_rfl)) (fun _ _ _ h => h) (Or.inl ⟨by rfl, ?_⟩) ?_ ?_; rotate_left; (intro w'; go_simp; with_reducible rfl); rotate_left; (simp only [Act.put, setIfInBounds_toArray, set_cons_zero, set_cons_succ, i64_w, i32_w]; rfl)
               refine pure_ (i := 5) (N := some 70) (v := ?_) (a' := ?_) (bA3 6 29) rfl rfl (any_of HT_.out (by kernel_rfl)) (fun _ _ _ h => h) (Or.inl ⟨by rfl, ?_⟩) ?_ ?_; rotate_left; (intro w'; go_simp; with_reducible rfl); rotate_left; (simp only [Act.put, setIfInBounds_toArray, set_cons_zero, set_cons_succ, i64_w, i32_w]; rfl)
               refine pure_ (i := 6) (N := some 71) (v := ?_) (a' := ?_) (bA3 7 29) rfl rfl (any_of HT_.out (by kernel_rfl)) (fun _ _ _ h => h) (Or.inl ⟨by rfl, ?_⟩) ?_ ?_; rotate_left; (intro w'; go_simp; with_reducible rfl); rotate_left; (simp only [Act.put, setIfInBounds_toArray, set_cons_zero, set_cons_succ, i64_w, i32_w]; rfl)
               refine pure_ (i := 7) (N := some 72) (v := ?_) (a' := ?_) (bA3 8 29) rfl rfl (any_of HT_.out (by kernel_rfl)) (fun _ _ _ h => h) (Or.inl ⟨by rfl, ?_⟩) ?_ ?_; rotate_left; (intro w'; go_simp; with_reducible rfl); rotate_left; (simp only [Act.put, setIfInBounds_toArray, set_cons_zero, set_cons_succ, i64_w, i32_w]; rfl)
               refine take_ (i := 8) (N := some 73) (v := ?_) (a' := ?_) (bA3 9 29) rfl rfl (take_ofW HT_.out HW_.out (by kernel_rfl)) (fun _ _ _ h => h) (Or.inl ⟨by rfl, ?_⟩) hHeld ?_ ?_
               rotate_left
               ·rintro w' ⟨s0, s1, s2, s3, s4, s5, s6, s7, s8, s9, s10⟩
                go_simp
                with_reducible rfl
               rotate_left
               ·simp only [Act.put, setIfInBounds_toArray, set_cons_zero, set_cons_succ, i64_w, i32_w]
                rfl
               refine one_ (i := 9) (N := some 74) (bA3 10 29) rfl rfl (one_of HT_.out (by kernel_rfl)) (by decide) (fun K hK => ?_)
               refine goes_ Try.func47 (by kernel_rfl) rfl #[.agg #[.bool ((rd_T41 l0_3 x50_2).f1.f0), .bool ((rd_T41 l0_3 x50_2).f1.f1), .int .u64 ((rd_T41 l0_3 x50_2).f1.f2.f0), .int .u64 ((rd_T41 l0_3 x50_2).f1.f2.f1), .int .u64 ((rd_T41 l0_3 x50_2).f1.f3.f0.f0), .int .u64 ((rd_T41 l0_3 x50_2).f1.f3.f0.f1), .int .u64 ((rd_T41 l0_3 x50_2).f1.f3.f1.f0), .int .u64 ((rd_T41 l0_3 x50_2).f1.f3.f1.f1), .int .i64 ((rd_T41 l0_3 x50_2).f1.f4)]] (by rfl) rfl rfl (by (try simp only [map_toArray, map_cons, map_nil]); first | done | rfl | (simp only [length_drop, length_take]; rfl)) ?_
               with_reducible refine (head_shut.calls ((rd_T41 l0_3 x50_2).f1.f0) ((rd_T41 l0_3 x50_2).f1.f1) ((rd_T41 l0_3 x50_2).f1.f2.f0) ((rd_T41 l0_3 x50_2).f1.f2.f1) ((rd_T41 l0_3 x50_2).f1.f3.f0.f0) ((rd_T41 l0_3 x50_2).f1.f3.f0.f1) ((rd_T41 l0_3 x50_2).f1.f3.f1.f0) ((rd_T41 l0_3 x50_2).f1.f3.f1.f1) ((rd_T41 l0_3 x50_2).f1.f4) true _ A28.out).mono ?_
               rintro e w58 ⟨rfl, hb⟩
               refine ⟨_, rfl, ?_⟩
               have n0_ := ak_ (kb_ (g := gb151) (o := .cells #[.int .i64 a0_0, .int .i64 a0_1, .int .i64 a0_2, .slice (some ad156) l0_3.length c0_3, .bool a0_4, .bool a0_5, .int .u64 a0_6, .int .u64 a0_7, .int .u64 a0_8, .int .u64 a0_9, .int .u64 a0_10, .int .u64 a0_11, .int .i64 a0_12] 31 (0, 0)) (by (with_reducible repeat (first | refine kn_ ?_ _ | refine kd_ ?_ | refine ka_ ?_ _)); exact BK151.out) hb)
               have n1_ := ak_ (kb_ (g := gb157) (o := .cells #[.int .u64 ((rd_T41 l0_3 x50_2).f0.f0), .int .u64 ((rd_T41 l0_3 x50_2).f0.f1), .bool ((rd_T41 l0_3 x50_2).f1.f0), .bool ((rd_T41 l0_3 x50_2).f1.f1), .int .u64 ((rd_T41 l0_3 x50_2).f1.f2.f0), .int .u64 ((rd_T41 l0_3 x50_2).f1.f2.f1), .int .u64 ((rd_T41 l0_3 x50_2).f1.f3.f0.f0), .int .u64 ((rd_T41 l0_3 x50_2).f1.f3.f0.f1), .int .u64 ((rd_T41 l0_3 x50_2).f1.f3.f1.f0), .int .u64 ((rd_T41 l0_3 x50_2).f1.f3.f1.f1), .int .i64 ((rd_T41 l0_3 x50_2).f1.f4)] 41 (0, 0)) (by (with_reducible repeat (first | refine kn_ ?_ _ | refine kd_ ?_ | refine ka_ ?_ _)); exact BK157.out) hb)
               have n2_ := ak_ (bt_ (by repeat (first | (with_reducible first | exact HB.out | apply ba_ | apply bn_ | apply bd_ | refine below_set ?_ GE151.out | refine below_set ?_ GE157.out) | exact HB.out)) hb)
               clear BK151
               clear BK157
               clear HB
               have BK151 := n0_
               have BK157 := n1_
               have HB := n2_
               clear n0_ n1_ n2_
               (try clear hb)
               (try clear hb2)
               (try clear hk)
               (try clear hi)
               refine hK.out _ _ ⟨(kc_ BK157.out 0).trans rfl, (kc_ BK157.out 1).trans rfl, (kc_ BK157.out 2).trans rfl, (kc_ BK157.out 3).trans rfl, (kc_ BK157.out 4).trans rfl, (kc_ BK157.out 5).trans rfl, (kc_ BK157.out 6).trans rfl, (kc_ BK157.out 7).trans rfl, (kc_ BK157.out 8).trans rfl, (kc_ BK157.out 9).trans rfl, (kc_ BK157.out 10).trans rfl⟩ (fun hHeld => ?_)
               clear hK K
               refine norm_ (a' := ?_) ?_ ?_
               rotate_left
               ·show Act.put _ (some 74) _ = _
                simp only [Act.put, setIfInBounds_toArray, set_cons_zero, set_cons_succ, i64_w, i32_w]
                rfl
               refine pure_ (i := 10) (N := some 75) (v := ?_) (a' := ?_) (bA3 11 29) rfl rfl (any_of HT_.out (by kernel_rfl)) (fun _ _ _ h => h) (Or.inl ⟨by rfl, ?_⟩) ?_ ?_; rotate_left; (intro w'; go_simp; with_reducible rfl); rotate_left; (simp only [Act.put, setIfInBounds_toArray, set_cons_zero, set_cons_succ, i64_w, i32_w]; rfl)
               refine pure_ (i := 11) (N := some 76) (v := ?_) (a' := ?_) (bA3 12 29) rfl rfl (any_of HT_.out (by kernel_rfl)) (fun _ _ _ h => h) (Or.inl ⟨by rfl, ?_⟩) ?_ ?_; rotate_left; (intro w'; go_simp; with_reducible rfl); rotate_left; (simp only [Act.put, setIfInBounds_toArray, set_cons_zero, set_cons_succ, i64_w, i32_w]; rfl)
               refine pure_ (i := 12) (N := some 77) (v := ?_) (a' := ?_) (bA3 13 29) rfl rfl (any_of HT_.out (by kernel_rfl)) (fun _ _ _ h => h) (Or.inl ⟨by rfl, ?_⟩) ?_ ?_; rotate_left; (intro w'; go_simp; with_reducible rfl); rotate_left; (simp only [Act.put, setIfInBounds_toArray, set_cons_zero, set_cons_succ, i64_w, i32_w]; rfl)
               refine pure_ (i := 13) (N := some 78) (v := ?_) (a' := ?_) (bA3 14 29) rfl rfl (any_of HT_.out (by kernel_rfl)) (fun _ _ _ h => h) (Or.inl ⟨by rfl, ?_⟩) ?_ ?_; rotate_left; (intro w'; go_simp; with_reducible rfl); rotate_left; (simp only [Act.put, setIfInBounds_toArray, set_cons_zero, set_cons_succ, i64_w, i32_w]; rfl)
               refine pure_ (i := 14) (N := some 79) (v := ?_) (a' := ?_) (bA3 15 29) rfl rfl (any_of HT_.out (by kernel_rfl)) (fun _ _ _ h => h) (Or.inl ⟨by rfl, ?_⟩) ?_ ?_; rotate_left; (intro w'; go_simp; with_reducible rfl); rotate_left; (simp only [Act.put, setIfInBounds_toArray, set_cons_zero, set_cons_succ, i64_w, i32_w]; rfl)
               refine pure_ (i := 15) (N := some 80) (v := ?_) (a' := ?_) (bA3 16 29) rfl rfl (any_of HT_.out (by kernel_rfl)) (fun _ _ _ h => h) (Or.inl ⟨by rfl, ?_⟩) ?_ ?_; rotate_left; (intro w'; go_simp; with_reducible rfl); rotate_left; (simp only [Act.put, setIfInBounds_toArray, set_cons_zero, set_cons_succ, i64_w, i32_w]; rfl)
               refine pure_ (i := 16) (N := some 81) (v := undef) (a' := ?_) (bA3 17 29) rfl rfl (any_of HT_.out (by kernel_rfl)) (fun _ _ _ h => h) (Or.inr ⟨by rfl, rfl⟩) ?_ ?_
               rotate_left
               ·simp only [Act.put, setIfInBounds_toArray, set_cons_zero, set_cons_succ, i64_w, i32_w]
                rfl
               refine pure_ (i := 17) (N := some 82) (v := undef) (a' := ?_) (bA3 18 29) rfl rfl (any_of HT_.out (by kernel_rfl)) (fun _ _ _ h => h) (Or.inr ⟨by rfl, rfl⟩) ?_ ?_
               rotate_left
               ·simp only [Act.put, setIfInBounds_toArray, set_cons_zero, set_cons_succ, i64_w, i32_w]
                rfl
               refine pure_ (i := 18) (N := some 83) (v := undef) (a' := ?_) (bA3 19 29) rfl rfl (any_of HT_.out (by kernel_rfl)) (fun _ _ _ h => h) (Or.inr ⟨by rfl, rfl⟩) ?_ ?_
               rotate_left
               ·simp only [Act.put, setIfInBounds_toArray, set_cons_zero, set_cons_succ, i64_w, i32_w]
                rfl
               refine pure_ (i := 19) (N := some 84) (v := undef) (a' := ?_) (bA3 20 29) rfl rfl (any_of HT_.out (by kernel_rfl)) (fun _ _ _ h => h) (Or.inr ⟨by rfl, rfl⟩) ?_ ?_
               rotate_left
               ·simp only [Act.put, setIfInBounds_toArray, set_cons_zero, set_cons_succ, i64_w, i32_w]
                rfl
               refine pure_ (i := 20) (N := some 85) (v := undef) (a' := ?_) (bA3 21 29) rfl rfl (any_of HT_.out (by kernel_rfl)) (fun _ _ _ h => h) (Or.inr ⟨by rfl, rfl⟩) ?_ ?_
               rotate_left
               ·simp only [Act.put, setIfInBounds_toArray, set_cons_zero, set_cons_succ, i64_w, i32_w]
                rfl
               refine pure_ (i := 21) (N := some 86) (v := undef) (a' := ?_) (bA3 22 29) rfl rfl (any_of HT_.out (by kernel_rfl)) (fun _ _ _ h => h) (Or.inr ⟨by rfl, rfl⟩) ?_ ?_
               rotate_left
               ·simp only [Act.put, setIfInBounds_toArray, set_cons_zero, set_cons_succ, i64_w, i32_w]
                rfl
               refine pure_ (i := 22) (N := some 87) (v := undef) (a' := ?_) (bA3 23 29) rfl rfl (any_of HT_.out (by kernel_rfl)) (fun _ _ _ h => h) (Or.inr ⟨by rfl, rfl⟩) ?_ ?_
               rotate_left
               ·simp only [Act.put, setIfInBounds_toArray, set_cons_zero, set_cons_succ, i64_w, i32_w]
                rfl
               refine pure_ (i := 23) (N := some 88) (v := undef) (a' := ?_) (bA3 24 29) rfl rfl (any_of HT_.out (by kernel_rfl)) (fun _ _ _ h => h) (Or.inr ⟨by rfl, rfl⟩) ?_ ?_
               rotate_left
               ·simp only [Act.put, setIfInBounds_toArray, set_cons_zero, set_cons_succ, i64_w, i32_w]
                rfl
               refine pure_ (i := 24) (N := some 89) (v := undef) (a' := ?_) (bA3 25 29) rfl rfl (any_of HT_.out (by kernel_rfl)) (fun _ _ _ h => h) (Or.inr ⟨by rfl, rfl⟩) ?_ ?_
               rotate_left
               ·simp only [Act.put, setIfInBounds_toArray, set_cons_zero, set_cons_succ, i64_w, i32_w]
                rfl
               refine pure_ (i := 25) (N := some 90) (v := undef) (a' := ?_) (bA3 26 29) rfl rfl (any_of HT_.out (by kernel_rfl)) (fun _ _ _ h => h) (Or.inr ⟨by rfl, rfl⟩) ?_ ?_
               rotate_left
               ·simp only [Act.put, setIfInBounds_toArray, set_cons_zero, set_cons_succ, i64_w, i32_w]
                rfl
               refine pure_ (i := 26) (N := some 91) (v := undef) (a' := ?_) (bA3 27 29) rfl rfl (any_of HT_.out (by kernel_rfl)) (fun _ _ _ h => h) (Or.inr ⟨by rfl, rfl⟩) ?_ ?_
               rotate_left
               ·simp only [Act.put, setIfInBounds_toArray, set_cons_zero, set_cons_succ, i64_w, i32_w]
                rfl
               refine pure_ (i := 27) (N := some 92) (v := ?_) (a' := ?_) (bA3 28 29) rfl rfl (any_of HT_.out (by kernel_rfl)) (fun _ _ _ h => h) (Or.inl ⟨by rfl, ?_⟩) ?_ ?_; rotate_left; (intro w'; go_simp; with_reducible rfl); rotate_left; (simp only [Act.put, setIfInBounds_toArray, set_cons_zero, set_cons_succ, i64_w, i32_w]; rfl)
               refine pure_ (i := 28) (N := some 93) (v := ?_) (a' := ?_) (bA3 29 29) rfl rfl (any_of HT_.out (by kernel_rfl)) (fun _ _ _ h => h) (Or.inl ⟨by rfl, ?_⟩) ?_ ?_; rotate_left; (intro w'; go_simp; with_reducible rfl); rotate_left; (simp only [Act.put, setIfInBounds_toArray, set_cons_zero, set_cons_succ, i64_w, i32_w]; rfl)
               refine done_ (done_of HT_.out (by kernel_rfl)) ?_
               try go_wp2
               go_roundg k2
               case measure => have := HJ1.out; have := HK2.out; omega
               case rel => exact ⟨(wrap64 (x50_2 + 1)), (by first | rfl | (simp; done) | (simp [*]; done)), H', ⟨by have := HJ1.out; have := HK2.out; omega⟩, ⟨by (with_reducible repeat (first | refine kn_ ?_ _ | refine kd_ ?_ | refine ka_ ?_ _)); exact BK151.out⟩, ⟨by repeat (first | (with_reducible first | exact HB.out | apply ba_ | apply bn_ | apply bd_ | refine below_set ?_ GE151.out | refine below_set ?_ GE157.out) | exact HB.out)⟩⟩
             ·replace c29 := Bool.eq_false_iff.mpr c29
              subst c29
              have H1 : (some 1) = some r := by rw [if_neg (show ¬ (false = true) by decide)] at H; exact H
              clear H
              have H := H1
              clear H1
              obtain rfl := Option.some.inj H
              have p156 : 0 ≤ (x50_2 : Int) := od_ (by first | (with_reducible assumption) | assumption)
              have q156 : x50_2 < (l0_3.length : Int) := od_ (by first | (with_reducible assumption) | assumption)
              obtain ⟨ad156, e156, hx156_0, hx156_1, hx156_2, hx156_3, hx156_4, hx156_5, hx156_6, hx156_7, hx156_8, hx156_9, hx156_10⟩ := at_T41 HR0_3.out x50_2 p156 q156
              cases e156
              replace hx156_0 := (HB.out.cell (World.block_lt_of_cell? w _ hx156_0)).trans hx156_0
              replace hx156_1 := (HB.out.cell (World.block_lt_of_cell? w _ hx156_1)).trans hx156_1
              replace hx156_2 := (HB.out.cell (World.block_lt_of_cell? w _ hx156_2)).trans hx156_2
              replace hx156_3 := (HB.out.cell (World.block_lt_of_cell? w _ hx156_3)).trans hx156_3
              replace hx156_4 := (HB.out.cell (World.block_lt_of_cell? w _ hx156_4)).trans hx156_4
              replace hx156_5 := (HB.out.cell (World.block_lt_of_cell? w _ hx156_5)).trans hx156_5
              replace hx156_6 := (HB.out.cell (World.block_lt_of_cell? w _ hx156_6)).trans hx156_6
              replace hx156_7 := (HB.out.cell (World.block_lt_of_cell? w _ hx156_7)).trans hx156_7
              replace hx156_8 := (HB.out.cell (World.block_lt_of_cell? w _ hx156_8)).trans hx156_8
              replace hx156_9 := (HB.out.cell (World.block_lt_of_cell? w _ hx156_9)).trans hx156_9
              replace hx156_10 := (HB.out.cell (World.block_lt_of_cell? w _ hx156_10)).trans hx156_10
              replace p156 := eq_true p156
              replace q156 := eq_true q156
              try go_wp2_with (first | ((with_reducible refine gate_dst (N := 6) rfl ?_); (try (refine gate_guard (by rfl) ?_; dsimp only)); refine box_event ?hg (N := 6) ?hd (cs := #[.int .u64 0, .int .u64 0, .bool false, .bool false, .int .u64 0, .int .u64 0, .int .u64 0, .int .u64 0, .int .u64 0, .int .u64 0, .int .i64 0]) (t := 41) ?hr ?_; (case hd => rfl); (case hg => rfl); (case hr => first | (go_simp; done) | (go_simp; rfl)); intro gb157 hg w59 hbox hb; have n0_ := ak_ (kb_ (g := gb151) (o := .cells #[.int .i64 a0_0, .int .i64 a0_1, .int .i64 a0_2, .slice (some ad156) l0_3.length c0_3, .bool a0_4, .bool a0_5, .int .u64 a0_6, .int .u64 a0_7, .int .u64 a0_8, .int .u64 a0_9, .int .u64 a0_10, .int .u64 a0_11, .int .i64 a0_12] 31 (0, 0)) (by (with_reducible repeat (first | refine kn_ ?_ _ | refine kd_ ?_ | refine ka_ ?_ _)); exact BK151.out) hb); have n1_ := ak_ (bt_ (by repeat (first | (with_reducible first | exact HB.out | apply ba_ | apply bn_ | apply bd_ | refine below_set ?_ GE151.out) | exact HB.out)) hb); have n2_ := ak_ (hbox); have n3_ := ak_ ((by rw [hg]; exact (bz_ (by repeat (first | (with_reducible first | exact HB.out | apply ba_ | apply bn_ | apply bd_ | refine below_set ?_ GE151.out) | exact HB.out))) : w.heap.size ≤ gb157)); have n4_ := ak_ ((by rw [hg]; exact (bz_ (by repeat (first | (with_reducible first | exact HB.out | apply ba_ | apply bn_ | apply bd_ | refine below_set ?_ GE151.out) | exact HB.out))) : w.heap.size ≤ gb157)); have n5_ := ak_ ((by rw [hg]; exact Nat.ne_of_lt (blk_lt (g := gb151) (o := .cells #[.int .i64 a0_0, .int .i64 a0_1, .int .i64 a0_2, .slice (some ad156) l0_3.length c0_3, .bool a0_4, .bool a0_5, .int .u64 a0_6, .int .u64 a0_7, .int .u64 a0_8, .int .u64 a0_9, .int .u64 a0_10, .int .u64 a0_11, .int .i64 a0_12] 31 (0, 0)) (by (with_reducible repeat (first | refine kn_ ?_ _ | refine kd_ ?_ | refine ka_ ?_ _)); exact BK151.out)) : gb151 ≠ gb157)); have n6_ := ak_ ((by rw [hg]; exact Nat.ne_of_gt (blk_lt (g := gb151) (o := .cells #[.int .i64 a0_0, .int .i64 a0_1, .int .i64 a0_2, .slice (some ad156) l0_3.length c0_3, .bool a0_4, .bool a0_5, .int .u64 a0_6, .int .u64 a0_7, .int .u64 a0_8, .int .u64 a0_9, .int .u64 a0_10, .int .u64 a0_11, .int .i64 a0_12] 31 (0, 0)) (by (with_reducible repeat (first | refine kn_ ?_ _ | refine kd_ ?_ | refine ka_ ?_ _)); exact BK151.out)) : gb157 ≠ gb151)); clear BK151; clear HB; have BK151 := n0_; have HB := n1_; have BK157 := n2_; have GW157 := n3_; have GE157 := n4_; have NB151_157 := n5_; have NB157_151 := n6_; clear n0_ n1_ n2_ n3_ n4_ n5_ n6_; clear hb hbox hg; have hnb60 := NB157_151.out; have hnc60 := NB151_157.out; have hcz61_0 : w59.cell? ⟨gb157, 0, none⟩ = some (.int .u64 0) := (kc_ BK157.out 0).trans rfl; have hcz61_1 : w59.cell? ⟨gb157, 1, none⟩ = some (.int .u64 0) := (kc_ BK157.out 1).trans rfl; have hcz61_2 : w59.cell? ⟨gb157, 2, none⟩ = some (.bool false) := (kc_ BK157.out 2).trans rfl; have hcz61_3 : w59.cell? ⟨gb157, 3, none⟩ = some (.bool false) := (kc_ BK157.out 3).trans rfl; have hcz61_4 : w59.cell? ⟨gb157, 4, none⟩ = some (.int .u64 0) := (kc_ BK157.out 4).trans rfl; have hcz61_5 : w59.cell? ⟨gb157, 5, none⟩ = some (.int .u64 0) := (kc_ BK157.out 5).trans rfl; have hcz61_6 : w59.cell? ⟨gb157, 6, none⟩ = some (.int .u64 0) := (kc_ BK157.out 6).trans rfl; have hcz61_7 : w59.cell? ⟨gb157, 7, none⟩ = some (.int .u64 0) := (kc_ BK157.out 7).trans rfl; have hcz61_8 : w59.cell? ⟨gb157, 8, none⟩ = some (.int .u64 0) := (kc_ BK157.out 8).trans rfl; have hcz61_9 : w59.cell? ⟨gb157, 9, none⟩ = some (.int .u64 0) := (kc_ BK157.out 9).trans rfl; have hcz61_10 : w59.cell? ⟨gb157, 10, none⟩ = some (.int .i64 0) := (kc_ BK157.out 10).trans rfl; have hfz61_0 := kf_ BK157.out 0; have hfz61_1 := kf_ BK157.out 1; have hfz61_2 := kf_ BK157.out 2; have hfz61_3 := kf_ BK157.out 3; have hfz61_4 := kf_ BK157.out 4; have hfz61_5 := kf_ BK157.out 5; have hfz61_6 := kf_ BK157.out 6; have hfz61_7 := kf_ BK157.out 7; have hfz61_8 := kf_ BK157.out 8; have hfz61_9 := kf_ BK157.out 9; have hfz61_10 := kf_ BK157.out 10; have hcz62_0 : w59.cell? ⟨gb151, 0, none⟩ = some (.int .i64 a0_0) := (kc_ BK151.out 0).trans rfl; have hcz62_1 : w59.cell? ⟨gb151, 1, none⟩ = some (.int .i64 a0_1) := (kc_ BK151.out 1).trans rfl; have hcz62_2 : w59.cell? ⟨gb151, 2, none⟩ = some (.int .i64 a0_2) := (kc_ BK151.out 2).trans rfl; have hcz62_3 : w59.cell? ⟨gb151, 3, none⟩ = some (.slice (some ad156) l0_3.length c0_3) := (kc_ BK151.out 3).trans rfl; have hcz62_4 : w59.cell? ⟨gb151, 4, none⟩ = some (.bool a0_4) := (kc_ BK151.out 4).trans rfl; have hcz62_5 : w59.cell? ⟨gb151, 5, none⟩ = some (.bool a0_5) := (kc_ BK151.out 5).trans rfl; have hcz62_6 : w59.cell? ⟨gb151, 6, none⟩ = some (.int .u64 a0_6) := (kc_ BK151.out 6).trans rfl; have hcz62_7 : w59.cell? ⟨gb151, 7, none⟩ = some (.int .u64 a0_7) := (kc_ BK151.out 7).trans rfl; have hcz62_8 : w59.cell? ⟨gb151, 8, none⟩ = some (.int .u64 a0_8) := (kc_ BK151.out 8).trans rfl; have hcz62_9 : w59.cell? ⟨gb151, 9, none⟩ = some (.int .u64 a0_9) := (kc_ BK151.out 9).trans rfl; have hcz62_10 : w59.cell? ⟨gb151, 10, none⟩ = some (.int .u64 a0_10) := (kc_ BK151.out 10).trans rfl; have hcz62_11 : w59.cell? ⟨gb151, 11, none⟩ = some (.int .u64 a0_11) := (kc_ BK151.out 11).trans rfl; have hcz62_12 : w59.cell? ⟨gb151, 12, none⟩ = some (.int .i64 a0_12) := (kc_ BK151.out 12).trans rfl; have hfz62_0 := kf_ BK151.out 0; have hfz62_1 := kf_ BK151.out 1; have hfz62_2 := kf_ BK151.out 2; have hfz62_3 := kf_ BK151.out 3; have hfz62_4 := kf_ BK151.out 4; have hfz62_5 := kf_ BK151.out 5; have hfz62_6 := kf_ BK151.out 6; have hfz62_7 := kf_ BK151.out 7; have hfz62_8 := kf_ BK151.out 8; have hfz62_9 := kf_ BK151.out 9; have hfz62_10 := kf_ BK151.out 10; have hfz62_11 := kf_ BK151.out 11; have hfz62_12 := kf_ BK151.out 12) | ((with_reducible refine gate_callee (f := 48) rfl ?_); refine goesL_ (some 62) rfl rfl Try.func48 (by kernel_rfl) rfl #[.int .i64 a0_1, .int .i64 a0_0, .agg #[.int .u64 ((rd_T41 l0_3 x50_2).f0.f0), .int .u64 ((rd_T41 l0_3 x50_2).f0.f1)]] rfl (by (try simp only [map_toArray, map_cons, map_nil]); first | done | rfl | (simp only [length_drop, length_take]; rfl)) ?_; (with_reducible refine (layer_May.calls k2 a0_1 a0_0 ((rd_T41 l0_3 x50_2).f0.f0) ((rd_T41 l0_3 x50_2).f0.f1) true t159 _ A25.out).mono ?_); rintro e w63 ⟨rfl, hb⟩; refine ⟨_, rfl, ?_⟩; have n0_ := ak_ (kb_ (g := gb151) (o := .cells #[.int .i64 a0_0, .int .i64 a0_1, .int .i64 a0_2, .slice (some ad156) l0_3.length c0_3, .bool a0_4, .bool a0_5, .int .u64 a0_6, .int .u64 a0_7, .int .u64 a0_8, .int .u64 a0_9, .int .u64 a0_10, .int .u64 a0_11, .int .i64 a0_12] 31 (0, 0)) (by (with_reducible repeat (first | refine kn_ ?_ _ | refine kd_ ?_ | refine ka_ ?_ _)); refine blk_far ?_ NB151_157.out _; (with_reducible repeat (first | refine kn_ ?_ _ | refine kd_ ?_ | refine ka_ ?_ _)); refine blk_far ?_ NB151_157.out _; (with_reducible repeat (first | refine kn_ ?_ _ | refine kd_ ?_ | refine ka_ ?_ _)); refine blk_far ?_ NB151_157.out _; (with_reducible repeat (first | refine kn_ ?_ _ | refine kd_ ?_ | refine ka_ ?_ _)); refine blk_far ?_ NB151_157.out _; (with_reducible repeat (first | refine kn_ ?_ _ | refine kd_ ?_ | refine ka_ ?_ _)); refine blk_far ?_ NB151_157.out _; (with_reducible repeat (first | refine kn_ ?_ _ | refine kd_ ?_ | refine ka_ ?_ _)); refine blk_far ?_ NB151_157.out _; (with_reducible repeat (first | refine kn_ ?_ _ | refine kd_ ?_ | refine ka_ ?_ _)); refine blk_far ?_ NB151_157.out _; (with_reducible repeat (first | refine kn_ ?_ _ | refine kd_ ?_ | refine ka_ ?_ _)); refine blk_far ?_ NB151_157.out _; (with_reducible repeat (first | refine kn_ ?_ _ | refine kd_ ?_ | refine ka_ ?_ _)); refine blk_far ?_ NB151_157.out _; (with_reducible repeat (first | refine kn_ ?_ _ | refine kd_ ?_ | refine ka_ ?_ _)); refine blk_far ?_ NB151_157.out _; (with_reducible repeat (first | refine kn_ ?_ _ | refine kd_ ?_ | refine ka_ ?_ _)); refine blk_far ?_ NB151_157.out _; (with_reducible repeat (first | refine kn_ ?_ _ | refine kd_ ?_ | refine ka_ ?_ _)); exact BK151.out) hb); have n1_ := ak_ (kb_ (g := gb157) (o := .cells #[.int .u64 ((rd_T41 l0_3 x50_2).f0.f0), .int .u64 ((rd_T41 l0_3 x50_2).f0.f1), .bool ((rd_T41 l0_3 x50_2).f1.f0), .bool ((rd_T41 l0_3 x50_2).f1.f1), .int .u64 ((rd_T41 l0_3 x50_2).f1.f2.f0), .int .u64 ((rd_T41 l0_3 x50_2).f1.f2.f1), .int .u64 ((rd_T41 l0_3 x50_2).f1.f3.f0.f0), .int .u64 ((rd_T41 l0_3 x50_2).f1.f3.f0.f1), .int .u64 ((rd_T41 l0_3 x50_2).f1.f3.f1.f0), .int .u64 ((rd_T41 l0_3 x50_2).f1.f3.f1.f1), .int .i64 ((rd_T41 l0_3 x50_2).f1.f4)] 41 (0, 0)) (by (with_reducible repeat (first | refine kn_ ?_ _ | refine kd_ ?_ | refine ka_ ?_ _)); refine blk_put (cs := #[.int .u64 ((rd_T41 l0_3 x50_2).f0.f0), .int .u64 ((rd_T41 l0_3 x50_2).f0.f1), .bool ((rd_T41 l0_3 x50_2).f1.f0), .bool ((rd_T41 l0_3 x50_2).f1.f1), .int .u64 ((rd_T41 l0_3 x50_2).f1.f2.f0), .int .u64 ((rd_T41 l0_3 x50_2).f1.f2.f1), .int .u64 ((rd_T41 l0_3 x50_2).f1.f3.f0.f0), .int .u64 ((rd_T41 l0_3 x50_2).f1.f3.f0.f1), .int .u64 ((rd_T41 l0_3 x50_2).f1.f3.f1.f0), .int .u64 ((rd_T41 l0_3 x50_2).f1.f3.f1.f1), .int .i64 0]) ?_ 10 _ rfl; (with_reducible repeat (first | refine kn_ ?_ _ | refine kd_ ?_ | refine ka_ ?_ _)); refine blk_put (cs := #[.int .u64 ((rd_T41 l0_3 x50_2).f0.f0), .int .u64 ((rd_T41 l0_3 x50_2).f0.f1), .bool ((rd_T41 l0_3 x50_2).f1.f0), .bool ((rd_T41 l0_3 x50_2).f1.f1), .int .u64 ((rd_T41 l0_3 x50_2).f1.f2.f0), .int .u64 ((rd_T41 l0_3 x50_2).f1.f2.f1), .int .u64 ((rd_T41 l0_3 x50_2).f1.f3.f0.f0), .int .u64 ((rd_T41 l0_3 x50_2).f1.f3.f0.f1), .int .u64 ((rd_T41 l0_3 x50_2).f1.f3.f1.f0), .int .u64 0, .int .i64 0]) ?_ 9 _ rfl; (with_reducible repeat (first | refine kn_ ?_ _ | refine kd_ ?_ | refine ka_ ?_ _)); refine blk_put (cs := #[.int .u64 ((rd_T41 l0_3 x50_2).f0.f0), .int .u64 ((rd_T41 l0_3 x50_2).f0.f1), .bool ((rd_T41 l0_3 x50_2).f1.f0), .bool ((rd_T41 l0_3 x50_2).f1.f1), .int .u64 ((rd_T41 l0_3 x50_2).f1.f2.f0), .int .u64 ((rd_T41 l0_3 x50_2).f1.f2.f1), .int .u64 ((rd_T41 l0_3 x50_2).f1.f3.f0.f0), .int .u64 ((rd_T41 l0_3 x50_2).f1.f3.f0.f1), .int .u64 0, .int .u64 0, .int .i64 0]) ?_ 8 _ rfl; (with_reducible repeat (first | refine kn_ ?_ _ | refine kd_ ?_ | refine ka_ ?_ _)); refine blk_put (cs := #[.int .u64 ((rd_T41 l0_3 x50_2).f0.f0), .int .u64 ((rd_T41 l0_3 x50_2).f0.f1), .bool ((rd_T41 l0_3 x50_2).f1.f0), .bool ((rd_T41 l0_3 x50_2).f1.f1), .int .u64 ((rd_T41 l0_3 x50_2).f1.f2.f0), .int .u64 ((rd_T41 l0_3 x50_2).f1.f2.f1), .int .u64 ((rd_T41 l0_3 x50_2).f1.f3.f0.f0), .int .u64 0, .int .u64 0, .int .u64 0, .int .i64 0]) ?_ 7 _ rfl; (with_reducible repeat (first | refine kn_ ?_ _ | refine kd_ ?_ | refine ka_ ?_ _)); refine blk_put (cs := #[.int .u64 ((rd_T41 l0_3 x50_2).f0.f0), .int .u64 ((rd_T41 l0_3 x50_2).f0.f1), .bool ((rd_T41 l0_3 x50_2).f1.f0), .bool ((rd_T41 l0_3 x50_2).f1.f1), .int .u64 ((rd_T41 l0_3 x50_2).f1.f2.f0), .int .u64 ((rd_T41 l0_3 x50_2).f1.f2.f1), .int .u64 0, .int .u64 0, .int .u64 0, .int .u64 0, .int .i64 0]) ?_ 6 _ rfl; (with_reducible repeat (first | refine kn_ ?_ _ | refine kd_ ?_ | refine ka_ ?_ _)); refine blk_put (cs := #[.int .u64 ((rd_T41 l0_3 x50_2).f0.f0), .int .u64 ((rd_T41 l0_3 x50_2).f0.f1), .bool ((rd_T41 l0_3 x50_2).f1.f0), .bool ((rd_T41 l0_3 x50_2).f1.f1), .int .u64 ((rd_T41 l0_3 x50_2).f1.f2.f0), .int .u64 0, .int .u64 0, .int .u64 0, .int .u64 0, .int .u64 0, .int .i64 0]) ?_ 5 _ rfl; (with_reducible repeat (first | refine kn_ ?_ _ | refine kd_ ?_ | refine ka_ ?_ _)); refine blk_put (cs := #[.int .u64 ((rd_T41 l0_3 x50_2).f0.f0), .int .u64 ((rd_T41 l0_3 x50_2).f0.f1), .bool ((rd_T41 l0_3 x50_2).f1.f0), .bool ((rd_T41 l0_3 x50_2).f1.f1), .int .u64 0, .int .u64 0, .int .u64 0, .int .u64 0, .int .u64 0, .int .u64 0, .int .i64 0]) ?_ 4 _ rfl; (with_reducible repeat (first | refine kn_ ?_ _ | refine kd_ ?_ | refine ka_ ?_ _)); refine blk_put (cs := #[.int .u64 ((rd_T41 l0_3 x50_2).f0.f0), .int .u64 ((rd_T41 l0_3 x50_2).f0.f1), .bool ((rd_T41 l0_3 x50_2).f1.f0), .bool false, .int .u64 0, .int .u64 0, .int .u64 0, .int .u64 0, .int .u64 0, .int .u64 0, .int .i64 0]) ?_ 3 _ rfl; (with_reducible repeat (first | refine kn_ ?_ _ | refine kd_ ?_ | refine ka_ ?_ _)); refine blk_put (cs := #[.int .u64 ((rd_T41 l0_3 x50_2).f0.f0), .int .u64 ((rd_T41 l0_3 x50_2).f0.f1), .bool false, .bool false, .int .u64 0, .int .u64 0, .int .u64 0, .int .u64 0, .int .u64 0, .int .u64 0, .int .i64 0]) ?_ 2 _ rfl; (with_reducible repeat (first | refine kn_ ?_ _ | refine kd_ ?_ | refine ka_ ?_ _)); refine blk_put (cs := #[.int .u64 ((rd_T41 l0_3 x50_2).f0.f0), .int .u64 0, .bool false, .bool false, .int .u64 0, .int .u64 0, .int .u64 0, .int .u64 0, .int .u64 0, .int .u64 0, .int .i64 0]) ?_ 1 _ rfl; (with_reducible repeat (first | refine kn_ ?_ _ | refine kd_ ?_ | refine ka_ ?_ _)); refine blk_put (cs := #[.int .u64 0, .int .u64 0, .bool false, .bool false, .int .u64 0, .int .u64 0, .int .u64 0, .int .u64 0, .int .u64 0, .int .u64 0, .int .i64 0]) ?_ 0 _ rfl; (with_reducible repeat (first | refine kn_ ?_ _ | refine kd_ ?_ | refine ka_ ?_ _)); exact BK157.out) hb); have n2_ := ak_ (bt_ (by repeat (first | (with_reducible first | exact HB.out | apply ba_ | apply bn_ | apply bd_ | refine below_set ?_ GE151.out | refine below_set ?_ GE157.out) | exact HB.out)) hb); clear BK151; clear BK157; clear HB; have BK151 := n0_; have BK157 := n1_; have HB := n2_; clear n0_ n1_ n2_; (try clear hb); (try clear hb2); (try clear hk); (try clear hi)))
              have n0_ := ak_ (kd_ BK151.out)
              have n1_ := ak_ (kd_ BK157.out)
              have n2_ := ak_ (bd_ HB.out)
              clear BK151
              clear BK157
              clear HB
              have BK151 := n0_
              have BK157 := n1_
              have HB := n2_
              clear n0_ n1_ n2_
              refine start_ (n := 29) (S := fun w' => w'.cell? ⟨gb157, 0, none⟩ = some (.int .u64 ((rd_T41 l0_3 x50_2).f0.f0)) ∧ w'.cell? ⟨gb157, 1, none⟩ = some (.int .u64 ((rd_T41 l0_3 x50_2).f0.f1)) ∧ w'.cell? ⟨gb157, 2, none⟩ = some (.bool ((rd_T41 l0_3 x50_2).f1.f0)) ∧ w'.cell? ⟨gb157, 3, none⟩ = some (.bool ((rd_T41 l0_3 x50_2).f1.f1)) ∧ w'.cell? ⟨gb157, 4, none⟩ = some (.int .u64 ((rd_T41 l0_3 x50_2).f1.f2.f0)) ∧ w'.cell? ⟨gb157, 5, none⟩ = some (.int .u64 ((rd_T41 l0_3 x50_2).f1.f2.f1)) ∧ w'.cell? ⟨gb157, 6, none⟩ = some (.int .u64 ((rd_T41 l0_3 x50_2).f1.f3.f0.f0)) ∧ w'.cell? ⟨gb157, 7, none⟩ = some (.int .u64 ((rd_T41 l0_3 x50_2).f1.f3.f0.f1)) ∧ w'.cell? ⟨gb157, 8, none⟩ = some (.int .u64 ((rd_T41 l0_3 x50_2).f1.f3.f1.f0)) ∧ w'.cell? ⟨gb157, 9, none⟩ = some (.int .u64 ((rd_T41 l0_3 x50_2).f1.f3.f1.f1)) ∧ w'.cell? ⟨gb157, 10, none⟩ = some (.int .i64 ((rd_T41 l0_3 x50_2).f1.f4))) (ds := []) #[false, false, false, false, false, false, false, false, false, false, false, false, false, false, false, false, false, false, false, false, false, false, false, false, false, false, false, false, false] (by kernel_rfl) rfl rfl ⟨(kc_ BK157.out 0).trans rfl, (kc_ BK157.out 1).trans rfl, (kc_ BK157.out 2).trans rfl, (kc_ BK157.out 3).trans rfl, (kc_ BK157.out 4).trans rfl, (kc_ BK157.out 5).trans rfl, (kc_ BK157.out 6).trans rfl, (kc_ BK157.out 7).trans rfl, (kc_ BK157.out 8).trans rfl, (kc_ BK157.out 9).trans rfl, (kc_ BK157.out 10).trans rfl⟩ (fun hHeld => ?_); refine with_tabW head_Check.tab10 head_Check.bits10 (fun HT_ HW_ => ?_)
              generalize w63.drew = w64 at BK151 BK157 HB hHeld ⊢
              refine pure_ (i := 0) (N := some 65) (v := ?_) (a' := ?_) (bA3 1 29) rfl rfl (any_of HT_.out (by kernel_rfl)) (fun _ _ _ h => h) (Or.inl ⟨by rfl, ?_⟩) ?_ ?_; rotate_left; (intro w'; go_simp; with_reducible rfl); rotate_left; (simp only [Act.put, setIfInBounds_toArray, set_cons_zero, set_cons_succ, i64_w, i32_w]; rfl)
              refine pure_ (i := 1) (N := some 66) (v := ?_) (a' := ?_) (bA3 2 29) rfl rfl (any_of HT_.out (by kernel_rfl)) (fun _ _ _ h => h) (Or.inl ⟨by rfl, ?_⟩) ?_ ?_; rotate_left; (intro w'; go_simp; with_reducible rfl); rotate_left; (simp only [Act.put, setIfInBounds_toArray, set_cons_zero, set_cons_succ, i64_w, i32_w]; rfl)
              refine pure_ (i := 2) (N := some 67) (v := ?_) (a' := ?_) (bA3 3 29) rfl rfl (any_of HT_.out (by kernel_rfl)) (fun _ _ _ h => h) (Or.inl ⟨by rfl, ?_⟩) ?_ ?_; rotate_left; (intro w'; go_simp; with_reducible rfl); rotate_left; (simp only [Act.put, setIfInBounds_toArray, set_cons_zero, set_cons_succ, i64_w, i32_w]; rfl)
              refine pure_ (i := 3) (N := some 68) (v := ?_) (a' := ?_) (bA3 4 29) rfl rfl (any_of HT_.out (by kernel_rfl)) (fun _ _ _ h => h) (Or.inl ⟨by rfl, ?_⟩) ?_ ?_; rotate_left; (intro w'; go_simp; with_reducible rfl); rotate_left; (simp only [Act.put, setIfInBounds_toArray, set_cons_zero, set_cons_succ, i64_w, i32_w]; rfl)
              refine pure_ (i := 4) (N := some 69) (v := ?_) (a' := ?_) (bA3 5 29) rfl rfl (any_of HT_.out (by kernel_rfl)) (fun _ _ _ h => h) (Or.inl ⟨by rfl, ?_⟩) ?_ ?_; rotate_left; (intro w'; go_simp; with_reducible rfl); rotate_left; (simp only [Act.put, setIfInBounds_toArray, set_cons_zero, set_cons_succ, i64_w, i32_w]; rfl)
              refine pure_ (i := 5) (N := some 70) (v := ?_) (a' := ?_) (bA3 6 29) rfl rfl (any_of HT_.out (by kernel_rfl)) (fun _ _ _ h => h) (Or.inl ⟨by rfl, ?_⟩) ?_ ?_; rotate_left; (intro w'; go_simp; with_reducible rfl); rotate_left; (simp only [Act.put, setIfInBounds_toArray, set_cons_zero, set_cons_succ, i64_w, i32_w]; rfl)
              refine pure_ (i := 6) (N := some 71) (v := ?_) (a' := ?_) (bA3 7 29) rfl rfl (any_of HT_.out (by kernel_rfl)) (fun _ _ _ h => h) (Or.inl ⟨by rfl, ?_⟩) ?_ ?_; rotate_left; (intro w'; go_simp; with_reducible rfl); rotate_left; (simp only [Act.put, setIfInBounds_toArray, set_cons_zero, set_cons_succ, i64_w, i32_w]; rfl)
              refine pure_ (i := 7) (N := some 72) (v := ?_) (a' := ?_) (bA3 8 29) rfl rfl (any_of HT_.out (by kernel_rfl)) (fun _ _ _ h => h) (Or.inl ⟨by rfl, ?_⟩) ?_ ?_; rotate_left; (intro w'; go_simp; with_reducible rfl); rotate_left; (simp only [Act.put, setIfInBounds_toArray, set_cons_zero, set_cons_succ, i64_w, i32_w]; rfl)
              refine take_ (i := 8) (N := some 73) (v := ?_) (a' := ?_) (bA3 9 29) rfl rfl (take_ofW HT_.out HW_.out (by kernel_rfl)) (fun _ _ _ h => h) (Or.inl ⟨by rfl, ?_⟩) hHeld ?_ ?_
              rotate_left
              ·rintro w' ⟨s0, s1, s2, s3, s4, s5, s6, s7, s8, s9, s10⟩
               go_simp
               with_reducible rfl
              rotate_left
              ·simp only [Act.put, setIfInBounds_toArray, set_cons_zero, set_cons_succ, i64_w, i32_w]
               rfl
              refine one_ (i := 9) (N := some 74) (bA3 10 29) rfl rfl (one_of HT_.out (by kernel_rfl)) (by decide) (fun K hK => ?_)
              refine goes_ Try.func47 (by kernel_rfl) rfl #[.agg #[.bool ((rd_T41 l0_3 x50_2).f1.f0), .bool ((rd_T41 l0_3 x50_2).f1.f1), .int .u64 ((rd_T41 l0_3 x50_2).f1.f2.f0), .int .u64 ((rd_T41 l0_3 x50_2).f1.f2.f1), .int .u64 ((rd_T41 l0_3 x50_2).f1.f3.f0.f0), .int .u64 ((rd_T41 l0_3 x50_2).f1.f3.f0.f1), .int .u64 ((rd_T41 l0_3 x50_2).f1.f3.f1.f0), .int .u64 ((rd_T41 l0_3 x50_2).f1.f3.f1.f1), .int .i64 ((rd_T41 l0_3 x50_2).f1.f4)]] (by rfl) rfl rfl (by (try simp only [map_toArray, map_cons, map_nil]); first | done | rfl | (simp only [length_drop, length_take]; rfl)) ?_
              with_reducible refine (head_shut.calls ((rd_T41 l0_3 x50_2).f1.f0) ((rd_T41 l0_3 x50_2).f1.f1) ((rd_T41 l0_3 x50_2).f1.f2.f0) ((rd_T41 l0_3 x50_2).f1.f2.f1) ((rd_T41 l0_3 x50_2).f1.f3.f0.f0) ((rd_T41 l0_3 x50_2).f1.f3.f0.f1) ((rd_T41 l0_3 x50_2).f1.f3.f1.f0) ((rd_T41 l0_3 x50_2).f1.f3.f1.f1) ((rd_T41 l0_3 x50_2).f1.f4) false _ A28.out).mono ?_
              rintro e w65 ⟨rfl, hb⟩
              refine ⟨_, rfl, ?_⟩
              have n0_ := ak_ (kb_ (g := gb151) (o := .cells #[.int .i64 a0_0, .int .i64 a0_1, .int .i64 a0_2, .slice (some ad156) l0_3.length c0_3, .bool a0_4, .bool a0_5, .int .u64 a0_6, .int .u64 a0_7, .int .u64 a0_8, .int .u64 a0_9, .int .u64 a0_10, .int .u64 a0_11, .int .i64 a0_12] 31 (0, 0)) (by (with_reducible repeat (first | refine kn_ ?_ _ | refine kd_ ?_ | refine ka_ ?_ _)); exact BK151.out) hb)
              have n1_ := ak_ (kb_ (g := gb157) (o := .cells #[.int .u64 ((rd_T41 l0_3 x50_2).f0.f0), .int .u64 ((rd_T41 l0_3 x50_2).f0.f1), .bool ((rd_T41 l0_3 x50_2).f1.f0), .bool ((rd_T41 l0_3 x50_2).f1.f1), .int .u64 ((rd_T41 l0_3 x50_2).f1.f2.f0), .int .u64 ((rd_T41 l0_3 x50_2).f1.f2.f1), .int .u64 ((rd_T41 l0_3 x50_2).f1.f3.f0.f0), .int .u64 ((rd_T41 l0_3 x50_2).f1.f3.f0.f1), .int .u64 ((rd_T41 l0_3 x50_2).f1.f3.f1.f0), .int .u64 ((rd_T41 l0_3 x50_2).f1.f3.f1.f1), .int .i64 ((rd_T41 l0_3 x50_2).f1.f4)] 41 (0, 0)) (by (with_reducible repeat (first | refine kn_ ?_ _ | refine kd_ ?_ | refine ka_ ?_ _)); exact BK157.out) hb)
              have n2_ := ak_ (bt_ (by repeat (first | (with_reducible first | exact HB.out | apply ba_ | apply bn_ | apply bd_ | refine below_set ?_ GE151.out | refine below_set ?_ GE157.out) | exact HB.out)) hb)
              clear BK151
              clear BK157
              clear HB
              have BK151 := n0_
              have BK157 := n1_
              have HB := n2_
              clear n0_ n1_ n2_
              (try clear hb)
              (try clear hb2)
              (try clear hk)
              (try clear hi)
              refine hK.out _ _ ⟨(kc_ BK157.out 0).trans rfl, (kc_ BK157.out 1).trans rfl, (kc_ BK157.out 2).trans rfl, (kc_ BK157.out 3).trans rfl, (kc_ BK157.out 4).trans rfl, (kc_ BK157.out 5).trans rfl, (kc_ BK157.out 6).trans rfl, (kc_ BK157.out 7).trans rfl, (kc_ BK157.out 8).trans rfl, (kc_ BK157.out 9).trans rfl, (kc_ BK157.out 10).trans rfl⟩ (fun hHeld => ?_)
              clear hK K
              refine norm_ (a' := ?_) ?_ ?_
              rotate_left
              ·show Act.put _ (some 74) _ = _
               simp only [Act.put, setIfInBounds_toArray, set_cons_zero, set_cons_succ, i64_w, i32_w]
               rfl
              refine pure_ (i := 10) (N := some 75) (v := ?_) (a' := ?_) (bA3 11 29) rfl rfl (any_of HT_.out (by kernel_rfl)) (fun _ _ _ h => h) (Or.inl ⟨by rfl, ?_⟩) ?_ ?_; rotate_left; (intro w'; go_simp; with_reducible rfl); rotate_left; (simp only [Act.put, setIfInBounds_toArray, set_cons_zero, set_cons_succ, i64_w, i32_w]; rfl)
              refine pure_ (i := 11) (N := some 76) (v := ?_) (a' := ?_) (bA3 12 29) rfl rfl (any_of HT_.out (by kernel_rfl)) (fun _ _ _ h => h) (Or.inl ⟨by rfl, ?_⟩) ?_ ?_; rotate_left; (intro w'; go_simp; with_reducible rfl); rotate_left; (simp only [Act.put, setIfInBounds_toArray, set_cons_zero, set_cons_succ, i64_w, i32_w]; rfl)
              refine pure_ (i := 12) (N := some 77) (v := ?_) (a' := ?_) (bA3 13 29) rfl rfl (any_of HT_.out (by kernel_rfl)) (fun _ _ _ h => h) (Or.inl ⟨by rfl, ?_⟩) ?_ ?_; rotate_left; (intro w'; go_simp; with_reducible rfl); rotate_left; (simp only [Act.put, setIfInBounds_toArray, set_cons_zero, set_cons_succ, i64_w, i32_w]; rfl)
              refine pure_ (i := 13) (N := some 78) (v := undef) (a' := ?_) (bA3 14 29) rfl rfl (any_of HT_.out (by kernel_rfl)) (fun _ _ _ h => h) (Or.inr ⟨by rfl, rfl⟩) ?_ ?_
              rotate_left
              ·simp only [Act.put, setIfInBounds_toArray, set_cons_zero, set_cons_succ, i64_w, i32_w]
               rfl
              refine pure_ (i := 14) (N := some 79) (v := undef) (a' := ?_) (bA3 15 29) rfl rfl (any_of HT_.out (by kernel_rfl)) (fun _ _ _ h => h) (Or.inr ⟨by rfl, rfl⟩) ?_ ?_
              rotate_left
              ·simp only [Act.put, setIfInBounds_toArray, set_cons_zero, set_cons_succ, i64_w, i32_w]
               rfl
              refine pure_ (i := 15) (N := some 80) (v := undef) (a' := ?_) (bA3 16 29) rfl rfl (any_of HT_.out (by kernel_rfl)) (fun _ _ _ h => h) (Or.inr ⟨by rfl, rfl⟩) ?_ ?_
              rotate_left
              ·simp only [Act.put, setIfInBounds_toArray, set_cons_zero, set_cons_succ, i64_w, i32_w]
               rfl
              refine pure_ (i := 16) (N := some 81) (v := undef) (a' := ?_) (bA3 17 29) rfl rfl (any_of HT_.out (by kernel_rfl)) (fun _ _ _ h => h) (Or.inr ⟨by rfl, rfl⟩) ?_ ?_
              rotate_left
              ·simp only [Act.put, setIfInBounds_toArray, set_cons_zero, set_cons_succ, i64_w, i32_w]
               rfl
              refine pure_ (i := 17) (N := some 82) (v := undef) (a' := ?_) (bA3 18 29) rfl rfl (any_of HT_.out (by kernel_rfl)) (fun _ _ _ h => h) (Or.inr ⟨by rfl, rfl⟩) ?_ ?_
              rotate_left
              ·simp only [Act.put, setIfInBounds_toArray, set_cons_zero, set_cons_succ, i64_w, i32_w]
               rfl
              refine pure_ (i := 18) (N := some 83) (v := undef) (a' := ?_) (bA3 19 29) rfl rfl (any_of HT_.out (by kernel_rfl)) (fun _ _ _ h => h) (Or.inr ⟨by rfl, rfl⟩) ?_ ?_
              rotate_left
              ·simp only [Act.put, setIfInBounds_toArray, set_cons_zero, set_cons_succ, i64_w, i32_w]
               rfl
              refine pure_ (i := 19) (N := some 84) (v := undef) (a' := ?_) (bA3 20 29) rfl rfl (any_of HT_.out (by kernel_rfl)) (fun _ _ _ h => h) (Or.inr ⟨by rfl, rfl⟩) ?_ ?_
              rotate_left
              ·simp only [Act.put, setIfInBounds_toArray, set_cons_zero, set_cons_succ, i64_w, i32_w]
               rfl
              refine pure_ (i := 20) (N := some 85) (v := undef) (a' := ?_) (bA3 21 29) rfl rfl (any_of HT_.out (by kernel_rfl)) (fun _ _ _ h => h) (Or.inr ⟨by rfl, rfl⟩) ?_ ?_
              rotate_left
              ·simp only [Act.put, setIfInBounds_toArray, set_cons_zero, set_cons_succ, i64_w, i32_w]
               rfl
              refine pure_ (i := 21) (N := some 86) (v := undef) (a' := ?_) (bA3 22 29) rfl rfl (any_of HT_.out (by kernel_rfl)) (fun _ _ _ h => h) (Or.inr ⟨by rfl, rfl⟩) ?_ ?_
              rotate_left
              ·simp only [Act.put, setIfInBounds_toArray, set_cons_zero, set_cons_succ, i64_w, i32_w]
               rfl
              refine pure_ (i := 22) (N := some 87) (v := undef) (a' := ?_) (bA3 23 29) rfl rfl (any_of HT_.out (by kernel_rfl)) (fun _ _ _ h => h) (Or.inr ⟨by rfl, rfl⟩) ?_ ?_
              rotate_left
              ·simp only [Act.put, setIfInBounds_toArray, set_cons_zero, set_cons_succ, i64_w, i32_w]
               rfl
              refine pure_ (i := 23) (N := some 88) (v := undef) (a' := ?_) (bA3 24 29) rfl rfl (any_of HT_.out (by kernel_rfl)) (fun _ _ _ h => h) (Or.inr ⟨by rfl, rfl⟩) ?_ ?_
              rotate_left
              ·simp only [Act.put, setIfInBounds_toArray, set_cons_zero, set_cons_succ, i64_w, i32_w]
               rfl
              refine pure_ (i := 24) (N := some 89) (v := undef) (a' := ?_) (bA3 25 29) rfl rfl (any_of HT_.out (by kernel_rfl)) (fun _ _ _ h => h) (Or.inr ⟨by rfl, rfl⟩) ?_ ?_
              rotate_left
              ·simp only [Act.put, setIfInBounds_toArray, set_cons_zero, set_cons_succ, i64_w, i32_w]
               rfl
              refine pure_ (i := 25) (N := some 90) (v := undef) (a' := ?_) (bA3 26 29) rfl rfl (any_of HT_.out (by kernel_rfl)) (fun _ _ _ h => h) (Or.inr ⟨by rfl, rfl⟩) ?_ ?_
              rotate_left
              ·simp only [Act.put, setIfInBounds_toArray, set_cons_zero, set_cons_succ, i64_w, i32_w]
               rfl
              refine pure_ (i := 26) (N := some 91) (v := undef) (a' := ?_) (bA3 27 29) rfl rfl (any_of HT_.out (by kernel_rfl)) (fun _ _ _ h => h) (Or.inr ⟨by rfl, rfl⟩) ?_ ?_
              rotate_left
              ·simp only [Act.put, setIfInBounds_toArray, set_cons_zero, set_cons_succ, i64_w, i32_w]
               rfl
              refine pure_ (i := 27) (N := some 92) (v := undef) (a' := ?_) (bA3 28 29) rfl rfl (any_of HT_.out (by kernel_rfl)) (fun _ _ _ h => h) (Or.inr ⟨by rfl, rfl⟩) ?_ ?_
              rotate_left
              ·simp only [Act.put, setIfInBounds_toArray, set_cons_zero, set_cons_succ, i64_w, i32_w]
               rfl
              refine pure_ (i := 28) (N := some 93) (v := ?_) (a' := ?_) (bA3 29 29) rfl rfl (any_of HT_.out (by kernel_rfl)) (fun _ _ _ h => h) (Or.inl ⟨by rfl, ?_⟩) ?_ ?_; rotate_left; (intro w'; go_simp; with_reducible rfl); rotate_left; (simp only [Act.put, setIfInBounds_toArray, set_cons_zero, set_cons_succ, i64_w, i32_w]; rfl)
              refine done_ (done_of HT_.out (by kernel_rfl)) ?_
              try go_wp2
              go_ret
              exact ⟨by first | rfl | (simp <;> rfl) | (simp [*] <;> rfl), by repeat (first | (with_reducible first | exact HB.out | apply ba_ | apply bn_ | apply bd_ | refine below_set ?_ GE151.out | refine below_set ?_ GE157.out) | exact HB.out)⟩
            ·replace c27 := Bool.eq_false_iff.mpr c27
             subst c27
             have H1 : (some 1) = some r := by rw [if_neg (show ¬ (false = true) by decide)] at H; exact H
             clear H
             have H := H1
             clear H1
             obtain rfl := Option.some.inj H
             have p156 : 0 ≤ (x50_2 : Int) := od_ (by first | (with_reducible assumption) | assumption)
             have q156 : x50_2 < (l0_3.length : Int) := od_ (by first | (with_reducible assumption) | assumption)
             obtain ⟨ad156, e156, hx156_0, hx156_1, hx156_2, hx156_3, hx156_4, hx156_5, hx156_6, hx156_7, hx156_8, hx156_9, hx156_10⟩ := at_T41 HR0_3.out x50_2 p156 q156
             cases e156
             replace hx156_0 := (HB.out.cell (World.block_lt_of_cell? w _ hx156_0)).trans hx156_0
             replace hx156_1 := (HB.out.cell (World.block_lt_of_cell? w _ hx156_1)).trans hx156_1
             replace hx156_2 := (HB.out.cell (World.block_lt_of_cell? w _ hx156_2)).trans hx156_2
             replace hx156_3 := (HB.out.cell (World.block_lt_of_cell? w _ hx156_3)).trans hx156_3
             replace hx156_4 := (HB.out.cell (World.block_lt_of_cell? w _ hx156_4)).trans hx156_4
             replace hx156_5 := (HB.out.cell (World.block_lt_of_cell? w _ hx156_5)).trans hx156_5
             replace hx156_6 := (HB.out.cell (World.block_lt_of_cell? w _ hx156_6)).trans hx156_6
             replace hx156_7 := (HB.out.cell (World.block_lt_of_cell? w _ hx156_7)).trans hx156_7
             replace hx156_8 := (HB.out.cell (World.block_lt_of_cell? w _ hx156_8)).trans hx156_8
             replace hx156_9 := (HB.out.cell (World.block_lt_of_cell? w _ hx156_9)).trans hx156_9
             replace hx156_10 := (HB.out.cell (World.block_lt_of_cell? w _ hx156_10)).trans hx156_10
             replace p156 := eq_true p156
             replace q156 := eq_true q156
             try go_wp2_with (first | ((with_reducible refine gate_dst (N := 6) rfl ?_); (try (refine gate_guard (by rfl) ?_; dsimp only)); refine box_event ?hg (N := 6) ?hd (cs := #[.int .u64 0, .int .u64 0, .bool false, .bool false, .int .u64 0, .int .u64 0, .int .u64 0, .int .u64 0, .int .u64 0, .int .u64 0, .int .i64 0]) (t := 41) ?hr ?_; (case hd => rfl); (case hg => rfl); (case hr => first | (go_simp; done) | (go_simp; rfl)); intro gb157 hg w66 hbox hb; have n0_ := ak_ (kb_ (g := gb151) (o := .cells #[.int .i64 a0_0, .int .i64 a0_1, .int .i64 a0_2, .slice (some ad156) l0_3.length c0_3, .bool a0_4, .bool a0_5, .int .u64 a0_6, .int .u64 a0_7, .int .u64 a0_8, .int .u64 a0_9, .int .u64 a0_10, .int .u64 a0_11, .int .i64 a0_12] 31 (0, 0)) (by (with_reducible repeat (first | refine kn_ ?_ _ | refine kd_ ?_ | refine ka_ ?_ _)); exact BK151.out) hb); have n1_ := ak_ (bt_ (by repeat (first | (with_reducible first | exact HB.out | apply ba_ | apply bn_ | apply bd_ | refine below_set ?_ GE151.out) | exact HB.out)) hb); have n2_ := ak_ (hbox); have n3_ := ak_ ((by rw [hg]; exact (bz_ (by repeat (first | (with_reducible first | exact HB.out | apply ba_ | apply bn_ | apply bd_ | refine below_set ?_ GE151.out) | exact HB.out))) : w.heap.size ≤ gb157)); have n4_ := ak_ ((by rw [hg]; exact (bz_ (by repeat (first | (with_reducible first | exact HB.out | apply ba_ | apply bn_ | apply bd_ | refine below_set ?_ GE151.out) | exact HB.out))) : w.heap.size ≤ gb157)); have n5_ := ak_ ((by rw [hg]; exact Nat.ne_of_lt (blk_lt (g := gb151) (o := .cells #[.int .i64 a0_0, .int .i64 a0_1, .int .i64 a0_2, .slice (some ad156) l0_3.length c0_3, .bool a0_4, .bool a0_5, .int .u64 a0_6, .int .u64 a0_7, .int .u64 a0_8, .int .u64 a0_9, .int .u64 a0_10, .int .u64 a0_11, .int .i64 a0_12] 31 (0, 0)) (by (with_reducible repeat (first | refine kn_ ?_ _ | refine kd_ ?_ | refine ka_ ?_ _)); exact BK151.out)) : gb151 ≠ gb157)); have n6_ := ak_ ((by rw [hg]; exact Nat.ne_of_gt (blk_lt (g := gb151) (o := .cells #[.int .i64 a0_0, .int .i64 a0_1, .int .i64 a0_2, .slice (some ad156) l0_3.length c0_3, .bool a0_4, .bool a0_5, .int .u64 a0_6, .int .u64 a0_7, .int .u64 a0_8, .int .u64 a0_9, .int .u64 a0_10, .int .u64 a0_11, .int .i64 a0_12] 31 (0, 0)) (by (with_reducible repeat (first | refine kn_ ?_ _ | refine kd_ ?_ | refine ka_ ?_ _)); exact BK151.out)) : gb157 ≠ gb151)); clear BK151; clear HB; have BK151 := n0_; have HB := n1_; have BK157 := n2_; have GW157 := n3_; have GE157 := n4_; have NB151_157 := n5_; have NB157_151 := n6_; clear n0_ n1_ n2_ n3_ n4_ n5_ n6_; clear hb hbox hg; have hnb67 := NB157_151.out; have hnc67 := NB151_157.out; have hcz68_0 : w66.cell? ⟨gb157, 0, none⟩ = some (.int .u64 0) := (kc_ BK157.out 0).trans rfl; have hcz68_1 : w66.cell? ⟨gb157, 1, none⟩ = some (.int .u64 0) := (kc_ BK157.out 1).trans rfl; have hcz68_2 : w66.cell? ⟨gb157, 2, none⟩ = some (.bool false) := (kc_ BK157.out 2).trans rfl; have hcz68_3 : w66.cell? ⟨gb157, 3, none⟩ = some (.bool false) := (kc_ BK157.out 3).trans rfl; have hcz68_4 : w66.cell? ⟨gb157, 4, none⟩ = some (.int .u64 0) := (kc_ BK157.out 4).trans rfl; have hcz68_5 : w66.cell? ⟨gb157, 5, none⟩ = some (.int .u64 0) := (kc_ BK157.out 5).trans rfl; have hcz68_6 : w66.cell? ⟨gb157, 6, none⟩ = some (.int .u64 0) := (kc_ BK157.out 6).trans rfl; have hcz68_7 : w66.cell? ⟨gb157, 7, none⟩ = some (.int .u64 0) := (kc_ BK157.out 7).trans rfl; have hcz68_8 : w66.cell? ⟨gb157, 8, none⟩ = some (.int .u64 0) := (kc_ BK157.out 8).trans rfl; have hcz68_9 : w66.cell? ⟨gb157, 9, none⟩ = some (.int .u64 0) := (kc_ BK157.out 9).trans rfl; have hcz68_10 : w66.cell? ⟨gb157, 10, none⟩ = some (.int .i64 0) := (kc_ BK157.out 10).trans rfl; have hfz68_0 := kf_ BK157.out 0; have hfz68_1 := kf_ BK157.out 1; have hfz68_2 := kf_ BK157.out 2; have hfz68_3 := kf_ BK157.out 3; have hfz68_4 := kf_ BK157.out 4; have hfz68_5 := kf_ BK157.out 5; have hfz68_6 := kf_ BK157.out 6; have hfz68_7 := kf_ BK157.out 7; have hfz68_8 := kf_ BK157.out 8; have hfz68_9 := kf_ BK157.out 9; have hfz68_10 := kf_ BK157.out 10; have hcz69_0 : w66.cell? ⟨gb151, 0, none⟩ = some (.int .i64 a0_0) := (kc_ BK151.out 0).trans rfl; have hcz69_1 : w66.cell? ⟨gb151, 1, none⟩ = some (.int .i64 a0_1) := (kc_ BK151.out 1).trans rfl; have hcz69_2 : w66.cell? ⟨gb151, 2, none⟩ = some (.int .i64 a0_2) := (kc_ BK151.out 2).trans rfl; have hcz69_3 : w66.cell? ⟨gb151, 3, none⟩ = some (.slice (some ad156) l0_3.length c0_3) := (kc_ BK151.out 3).trans rfl; have hcz69_4 : w66.cell? ⟨gb151, 4, none⟩ = some (.bool a0_4) := (kc_ BK151.out 4).trans rfl; have hcz69_5 : w66.cell? ⟨gb151, 5, none⟩ = some (.bool a0_5) := (kc_ BK151.out 5).trans rfl; have hcz69_6 : w66.cell? ⟨gb151, 6, none⟩ = some (.int .u64 a0_6) := (kc_ BK151.out 6).trans rfl; have hcz69_7 : w66.cell? ⟨gb151, 7, none⟩ = some (.int .u64 a0_7) := (kc_ BK151.out 7).trans rfl; have hcz69_8 : w66.cell? ⟨gb151, 8, none⟩ = some (.int .u64 a0_8) := (kc_ BK151.out 8).trans rfl; have hcz69_9 : w66.cell? ⟨gb151, 9, none⟩ = some (.int .u64 a0_9) := (kc_ BK151.out 9).trans rfl; have hcz69_10 : w66.cell? ⟨gb151, 10, none⟩ = some (.int .u64 a0_10) := (kc_ BK151.out 10).trans rfl; have hcz69_11 : w66.cell? ⟨gb151, 11, none⟩ = some (.int .u64 a0_11) := (kc_ BK151.out 11).trans rfl; have hcz69_12 : w66.cell? ⟨gb151, 12, none⟩ = some (.int .i64 a0_12) := (kc_ BK151.out 12).trans rfl; have hfz69_0 := kf_ BK151.out 0; have hfz69_1 := kf_ BK151.out 1; have hfz69_2 := kf_ BK151.out 2; have hfz69_3 := kf_ BK151.out 3; have hfz69_4 := kf_ BK151.out 4; have hfz69_5 := kf_ BK151.out 5; have hfz69_6 := kf_ BK151.out 6; have hfz69_7 := kf_ BK151.out 7; have hfz69_8 := kf_ BK151.out 8; have hfz69_9 := kf_ BK151.out 9; have hfz69_10 := kf_ BK151.out 10; have hfz69_11 := kf_ BK151.out 11; have hfz69_12 := kf_ BK151.out 12) | ((with_reducible refine gate_callee (f := 48) rfl ?_); refine goesL_ (some 62) rfl rfl Try.func48 (by kernel_rfl) rfl #[.int .i64 a0_1, .int .i64 a0_0, .agg #[.int .u64 ((rd_T41 l0_3 x50_2).f0.f0), .int .u64 ((rd_T41 l0_3 x50_2).f0.f1)]] rfl (by (try simp only [map_toArray, map_cons, map_nil]); first | done | rfl | (simp only [length_drop, length_take]; rfl)) ?_; (with_reducible refine (layer_May.calls k2 a0_1 a0_0 ((rd_T41 l0_3 x50_2).f0.f0) ((rd_T41 l0_3 x50_2).f0.f1) false t159 _ A25.out).mono ?_); rintro e w70 ⟨rfl, hb⟩; refine ⟨_, rfl, ?_⟩; have n0_ := ak_ (kb_ (g := gb151) (o := .cells #[.int .i64 a0_0, .int .i64 a0_1, .int .i64 a0_2, .slice (some ad156) l0_3.length c0_3, .bool a0_4, .bool a0_5, .int .u64 a0_6, .int .u64 a0_7, .int .u64 a0_8, .int .u64 a0_9, .int .u64 a0_10, .int .u64 a0_11, .int .i64 a0_12] 31 (0, 0)) (by (with_reducible repeat (first | refine kn_ ?_ _ | refine kd_ ?_ | refine ka_ ?_ _)); refine blk_far ?_ NB151_157.out _; (with_reducible repeat (first | refine kn_ ?_ _ | refine kd_ ?_ | refine ka_ ?_ _)); refine blk_far ?_ NB151_157.out _; (with_reducible repeat (first | refine kn_ ?_ _ | refine kd_ ?_ | refine ka_ ?_ _)); refine blk_far ?_ NB151_157.out _; (with_reducible repeat (first | refine kn_ ?_ _ | refine kd_ ?_ | refine ka_ ?_ _)); refine blk_far ?_ NB151_157.out _; (with_reducible repeat (first | refine kn_ ?_ _ | refine kd_ ?_ | refine ka_ ?_ _)); refine blk_far ?_ NB151_157.out _; (with_reducible repeat (first | refine kn_ ?_ _ | refine kd_ ?_ | refine ka_ ?_ _)); refine blk_far ?_ NB151_157.out _; (with_reducible repeat (first | refine kn_ ?_ _ | refine kd_ ?_ | refine ka_ ?_ _)); refine blk_far ?_ NB151_157.out _; (with_reducible repeat (first | refine kn_ ?_ _ | refine kd_ ?_ | refine ka_ ?_ _)); refine blk_far ?_ NB151_157.out _; (with_reducible repeat (first | refine kn_ ?_ _ | refine kd_ ?_ | refine ka_ ?_ _)); refine blk_far ?_ NB151_157.out _; (with_reducible repeat (first | refine kn_ ?_ _ | refine kd_ ?_ | refine ka_ ?_ _)); refine blk_far ?_ NB151_157.out _; (with_reducible repeat (first | refine kn_ ?_ _ | refine kd_ ?_ | refine ka_ ?_ _)); refine blk_far ?_ NB151_157.out _; (with_reducible repeat (first | refine kn_ ?_ _ | refine kd_ ?_ | refine ka_ ?_ _)); exact BK151.out) hb); have n1_ := ak_ (kb_ (g := gb157) (o := .cells #[.int .u64 ((rd_T41 l0_3 x50_2).f0.f0), .int .u64 ((rd_T41 l0_3 x50_2).f0.f1), .bool ((rd_T41 l0_3 x50_2).f1.f0), .bool ((rd_T41 l0_3 x50_2).f1.f1), .int .u64 ((rd_T41 l0_3 x50_2).f1.f2.f0), .int .u64 ((rd_T41 l0_3 x50_2).f1.f2.f1), .int .u64 ((rd_T41 l0_3 x50_2).f1.f3.f0.f0), .int .u64 ((rd_T41 l0_3 x50_2).f1.f3.f0.f1), .int .u64 ((rd_T41 l0_3 x50_2).f1.f3.f1.f0), .int .u64 ((rd_T41 l0_3 x50_2).f1.f3.f1.f1), .int .i64 ((rd_T41 l0_3 x50_2).f1.f4)] 41 (0, 0)) (by (with_reducible repeat (first | refine kn_ ?_ _ | refine kd_ ?_ | refine ka_ ?_ _)); refine blk_put (cs := #[.int .u64 ((rd_T41 l0_3 x50_2).f0.f0), .int .u64 ((rd_T41 l0_3 x50_2).f0.f1), .bool ((rd_T41 l0_3 x50_2).f1.f0), .bool ((rd_T41 l0_3 x50_2).f1.f1), .int .u64 ((rd_T41 l0_3 x50_2).f1.f2.f0), .int .u64 ((rd_T41 l0_3 x50_2).f1.f2.f1), .int .u64 ((rd_T41 l0_3 x50_2).f1.f3.f0.f0), .int .u64 ((rd_T41 l0_3 x50_2).f1.f3.f0.f1), .int .u64 ((rd_T41 l0_3 x50_2).f1.f3.f1.f0), .int .u64 ((rd_T41 l0_3 x50_2).f1.f3.f1.f1), .int .i64 0]) ?_ 10 _ rfl; (with_reducible repeat (first | refine kn_ ?_ _ | refine kd_ ?_ | refine ka_ ?_ _)); refine blk_put (cs := #[.int .u64 ((rd_T41 l0_3 x50_2).f0.f0), .int .u64 ((rd_T41 l0_3 x50_2).f0.f1), .bool ((rd_T41 l0_3 x50_2).f1.f0), .bool ((rd_T41 l0_3 x50_2).f1.f1), .int .u64 ((rd_T41 l0_3 x50_2).f1.f2.f0), .int .u64 ((rd_T41 l0_3 x50_2).f1.f2.f1), .int .u64 ((rd_T41 l0_3 x50_2).f1.f3.f0.f0), .int .u64 ((rd_T41 l0_3 x50_2).f1.f3.f0.f1), .int .u64 ((rd_T41 l0_3 x50_2).f1.f3.f1.f0), .int .u64 0, .int .i64 0]) ?_ 9 _ rfl; (with_reducible repeat (first | refine kn_ ?_ _ | refine kd_ ?_ | refine ka_ ?_ _)); refine blk_put (cs := #[.int .u64 ((rd_T41 l0_3 x50_2).f0.f0), .int .u64 ((rd_T41 l0_3 x50_2).f0.f1), .bool ((rd_T41 l0_3 x50_2).f1.f0), .bool ((rd_T41 l0_3 x50_2).f1.f1), .int .u64 ((rd_T41 l0_3 x50_2).f1.f2.f0), .int .u64 ((rd_T41 l0_3 x50_2).f1.f2.f1), .int .u64 ((rd_T41 l0_3 x50_2).f1.f3.f0.f0), .int .u64 ((rd_T41 l0_3 x50_2).f1.f3.f0.f1), .int .u64 0, .int .u64 0, .int .i64 0]) ?_ 8 _ rfl; (with_reducible repeat (first | refine kn_ ?_ _ | refine kd_ ?_ | refine ka_ ?_ _)); refine blk_put (cs := #[.int .u64 ((rd_T41 l0_3 x50_2).f0.f0), .int .u64 ((rd_T41 l0_3 x50_2).f0.f1), .bool ((rd_T41 l0_3 x50_2).f1.f0), .bool ((rd_T41 l0_3 x50_2).f1.f1), .int .u64 ((rd_T41 l0_3 x50_2).f1.f2.f0), .int .u64 ((rd_T41 l0_3 x50_2).f1.f2.f1), .int .u64 ((rd_T41 l0_3 x50_2).f1.f3.f0.f0), .int .u64 0, .int .u64 0, .int .u64 0, .int .i64 0]) ?_ 7 _ rfl; (with_reducible repeat (first | refine kn_ ?_ _ | refine kd_ ?_ | refine ka_ ?_ _)); refine blk_put (cs := #[.int .u64 ((rd_T41 l0_3 x50_2).f0.f0), .int .u64 ((rd_T41 l0_3 x50_2).f0.f1), .bool ((rd_T41 l0_3 x50_2).f1.f0), .bool ((rd_T41 l0_3 x50_2).f1.f1), .int .u64 ((rd_T41 l0_3 x50_2).f1.f2.f0), .int .u64 ((rd_T41 l0_3 x50_2).f1.f2.f1), .int .u64 0, .int .u64 0, .int .u64 0, .int .u64 0, .int .i64 0]) ?_ 6 _ rfl; (with_reducible repeat (first | refine kn_ ?_ _ | refine kd_ ?_ | refine ka_ ?_ _)); refine blk_put (cs := #[.int .u64 ((rd_T41 l0_3 x50_2).f0.f0), .int .u64 ((rd_T41 l0_3 x50_2).f0.f1), .bool ((rd_T41 l0_3 x50_2).f1.f0), .bool ((rd_T41 l0_3 x50_2).f1.f1), .int .u64 ((rd_T41 l0_3 x50_2).f1.f2.f0), .int .u64 0, .int .u64 0, .int .u64 0, .int .u64 0, .int .u64 0, .int .i64 0]) ?_ 5 _ rfl; (with_reducible repeat (first | refine kn_ ?_ _ | refine kd_ ?_ | refine ka_ ?_ _)); refine blk_put (cs := #[.int .u64 ((rd_T41 l0_3 x50_2).f0.f0), .int .u64 ((rd_T41 l0_3 x50_2).f0.f1), .bool ((rd_T41 l0_3 x50_2).f1.f0), .bool ((rd_T41 l0_3 x50_2).f1.f1), .int .u64 0, .int .u64 0, .int .u64 0, .int .u64 0, .int .u64 0, .int .u64 0, .int .i64 0]) ?_ 4 _ rfl; (with_reducible repeat (first | refine kn_ ?_ _ | refine kd_ ?_ | refine ka_ ?_ _)); refine blk_put (cs := #[.int .u64 ((rd_T41 l0_3 x50_2).f0.f0), .int .u64 ((rd_T41 l0_3 x50_2).f0.f1), .bool ((rd_T41 l0_3 x50_2).f1.f0), .bool false, .int .u64 0, .int .u64 0, .int .u64 0, .int .u64 0, .int .u64 0, .int .u64 0, .int .i64 0]) ?_ 3 _ rfl; (with_reducible repeat (first | refine kn_ ?_ _ | refine kd_ ?_ | refine ka_ ?_ _)); refine blk_put (cs := #[.int .u64 ((rd_T41 l0_3 x50_2).f0.f0), .int .u64 ((rd_T41 l0_3 x50_2).f0.f1), .bool false, .bool false, .int .u64 0, .int .u64 0, .int .u64 0, .int .u64 0, .int .u64 0, .int .u64 0, .int .i64 0]) ?_ 2 _ rfl; (with_reducible repeat (first | refine kn_ ?_ _ | refine kd_ ?_ | refine ka_ ?_ _)); refine blk_put (cs := #[.int .u64 ((rd_T41 l0_3 x50_2).f0.f0), .int .u64 0, .bool false, .bool false, .int .u64 0, .int .u64 0, .int .u64 0, .int .u64 0, .int .u64 0, .int .u64 0, .int .i64 0]) ?_ 1 _ rfl; (with_reducible repeat (first | refine kn_ ?_ _ | refine kd_ ?_ | refine ka_ ?_ _)); refine blk_put (cs := #[.int .u64 0, .int .u64 0, .bool false, .bool false, .int .u64 0, .int .u64 0, .int .u64 0, .int .u64 0, .int .u64 0, .int .u64 0, .int .i64 0]) ?_ 0 _ rfl; (with_reducible repeat (first | refine kn_ ?_ _ | refine kd_ ?_ | refine ka_ ?_ _)); exact BK157.out) hb); have n2_ := ak_ (bt_ (by repeat (first | (with_reducible first | exact HB.out | apply ba_ | apply bn_ | apply bd_ | refine below_set ?_ GE151.out | refine below_set ?_ GE157.out) | exact HB.out)) hb); clear BK151; clear BK157; clear HB; have BK151 := n0_; have BK157 := n1_; have HB := n2_; clear n0_ n1_ n2_; (try clear hb); (try clear hb2); (try clear hk); (try clear hi)))
             have n0_ := ak_ (kd_ BK151.out)
             have n1_ := ak_ (kd_ BK157.out)
             have n2_ := ak_ (bd_ HB.out)
             clear BK151
             clear BK157
             clear HB
             have BK151 := n0_
             have BK157 := n1_
             have HB := n2_
             clear n0_ n1_ n2_
             refine start_ (n := 29) (S := fun w' => True) (ds := []) #[false, false, false, false, false, false, false, false, false, false, false, false, false, false, false, false, false, false, false, false, false, false, false, false, false, false, false, false, false] (by kernel_rfl) rfl rfl trivial (fun hHeld => ?_); refine with_tabW head_Check.tab10 head_Check.bits10 (fun HT_ HW_ => ?_)
             generalize w70.drew = w71 at BK151 BK157 HB hHeld ⊢
             refine pure_ (i := 0) (N := some 65) (v := ?_) (a' := ?_) (bA3 1 29) rfl rfl (any_of HT_.out (by kernel_rfl)) (fun _ _ _ h => h) (Or.inl ⟨by rfl, ?_⟩) ?_ ?_; rotate_left; (intro w'; go_simp; with_reducible rfl); rotate_left; (simp only [Act.put, setIfInBounds_toArray, set_cons_zero, set_cons_succ, i64_w, i32_w]; rfl)
             refine pure_ (i := 1) (N := some 66) (v := ?_) (a' := ?_) (bA3 2 29) rfl rfl (any_of HT_.out (by kernel_rfl)) (fun _ _ _ h => h) (Or.inl ⟨by rfl, ?_⟩) ?_ ?_; rotate_left; (intro w'; go_simp; with_reducible rfl); rotate_left; (simp only [Act.put, setIfInBounds_toArray, set_cons_zero, set_cons_succ, i64_w, i32_w]; rfl)
             refine pure_ (i := 2) (N := some 67) (v := ?_) (a' := ?_) (bA3 3 29) rfl rfl (any_of HT_.out (by kernel_rfl)) (fun _ _ _ h => h) (Or.inl ⟨by rfl, ?_⟩) ?_ ?_; rotate_left; (intro w'; go_simp; with_reducible rfl); rotate_left; (simp only [Act.put, setIfInBounds_toArray, set_cons_zero, set_cons_succ, i64_w, i32_w]; rfl)
             refine pure_ (i := 3) (N := some 68) (v := ?_) (a' := ?_) (bA3 4 29) rfl rfl (any_of HT_.out (by kernel_rfl)) (fun _ _ _ h => h) (Or.inl ⟨by rfl, ?_⟩) ?_ ?_; rotate_left; (intro w'; go_simp; with_reducible rfl); rotate_left; (simp only [Act.put, setIfInBounds_toArray, set_cons_zero, set_cons_succ, i64_w, i32_w]; rfl)
             refine pure_ (i := 4) (N := some 69) (v := ?_) (a' := ?_) (bA3 5 29) rfl rfl (any_of HT_.out (by kernel_rfl)) (fun _ _ _ h => h) (Or.inl ⟨by rfl, ?_⟩) ?_ ?_; rotate_left; (intro w'; go_simp; with_reducible rfl); rotate_left; (simp only [Act.put, setIfInBounds_toArray, set_cons_zero, set_cons_succ, i64_w, i32_w]; rfl)
             refine pure_ (i := 5) (N := some 70) (v := ?_) (a' := ?_) (bA3 6 29) rfl rfl (any_of HT_.out (by kernel_rfl)) (fun _ _ _ h => h) (Or.inl ⟨by rfl, ?_⟩) ?_ ?_; rotate_left; (intro w'; go_simp; with_reducible rfl); rotate_left; (simp only [Act.put, setIfInBounds_toArray, set_cons_zero, set_cons_succ, i64_w, i32_w]; rfl)
             refine pure_ (i := 6) (N := some 71) (v := ?_) (a' := ?_) (bA3 7 29) rfl rfl (any_of HT_.out (by kernel_rfl)) (fun _ _ _ h => h) (Or.inl ⟨by rfl, ?_⟩) ?_ ?_; rotate_left; (intro w'; go_simp; with_reducible rfl); rotate_left; (simp only [Act.put, setIfInBounds_toArray, set_cons_zero, set_cons_succ, i64_w, i32_w]; rfl)
             refine pure_ (i := 7) (N := some 72) (v := undef) (a' := ?_) (bA3 8 29) rfl rfl (any_of HT_.out (by kernel_rfl)) (fun _ _ _ h => h) (Or.inr ⟨by rfl, rfl⟩) ?_ ?_
             rotate_left
             ·simp only [Act.put, setIfInBounds_toArray, set_cons_zero, set_cons_succ, i64_w, i32_w]
              rfl
             refine pure_ (i := 8) (N := some 73) (v := undef) (a' := ?_) (bA3 9 29) rfl rfl (any_of HT_.out (by kernel_rfl)) (fun _ _ _ h => h) (Or.inr ⟨by rfl, rfl⟩) ?_ ?_
             rotate_left
             ·simp only [Act.put, setIfInBounds_toArray, set_cons_zero, set_cons_succ, i64_w, i32_w]
              rfl
             refine pure_ (i := 9) (N := some 74) (v := undef) (a' := ?_) (bA3 10 29) rfl rfl (any_of HT_.out (by kernel_rfl)) (fun _ _ _ h => h) (Or.inr ⟨by rfl, rfl⟩) ?_ ?_
             rotate_left
             ·simp only [Act.put, setIfInBounds_toArray, set_cons_zero, set_cons_succ, i64_w, i32_w]
              rfl
             refine pure_ (i := 10) (N := some 75) (v := undef) (a' := ?_) (bA3 11 29) rfl rfl (any_of HT_.out (by kernel_rfl)) (fun _ _ _ h => h) (Or.inr ⟨by rfl, rfl⟩) ?_ ?_
             rotate_left
             ·simp only [Act.put, setIfInBounds_toArray, set_cons_zero, set_cons_succ, i64_w, i32_w]
              rfl
             refine pure_ (i := 11) (N := some 76) (v := ?_) (a' := ?_) (bA3 12 29) rfl rfl (any_of HT_.out (by kernel_rfl)) (fun _ _ _ h => h) (Or.inl ⟨by rfl, ?_⟩) ?_ ?_; rotate_left; (intro w'; go_simp; with_reducible rfl); rotate_left; (simp only [Act.put, setIfInBounds_toArray, set_cons_zero, set_cons_succ, i64_w, i32_w]; rfl)
             refine pure_ (i := 12) (N := some 77) (v := ?_) (a' := ?_) (bA3 13 29) rfl rfl (any_of HT_.out (by kernel_rfl)) (fun _ _ _ h => h) (Or.inl ⟨by rfl, ?_⟩) ?_ ?_; rotate_left; (intro w'; go_simp; with_reducible rfl); rotate_left; (simp only [Act.put, setIfInBounds_toArray, set_cons_zero, set_cons_succ, i64_w, i32_w]; rfl)
             refine pure_ (i := 13) (N := some 78) (v := undef) (a' := ?_) (bA3 14 29) rfl rfl (any_of HT_.out (by kernel_rfl)) (fun _ _ _ h => h) (Or.inr ⟨by rfl, rfl⟩) ?_ ?_
             rotate_left
             ·simp only [Act.put, setIfInBounds_toArray, set_cons_zero, set_cons_succ, i64_w, i32_w]
              rfl
             refine pure_ (i := 14) (N := some 79) (v := undef) (a' := ?_) (bA3 15 29) rfl rfl (any_of HT_.out (by kernel_rfl)) (fun _ _ _ h => h) (Or.inr ⟨by rfl, rfl⟩) ?_ ?_
             rotate_left
             ·simp only [Act.put, setIfInBounds_toArray, set_cons_zero, set_cons_succ, i64_w, i32_w]
              rfl
             refine pure_ (i := 15) (N := some 80) (v := undef) (a' := ?_) (bA3 16 29) rfl rfl (any_of HT_.out (by kernel_rfl)) (fun _ _ _ h => h) (Or.inr ⟨by rfl, rfl⟩) ?_ ?_
             rotate_left
             ·simp only [Act.put, setIfInBounds_toArray, set_cons_zero, set_cons_succ, i64_w, i32_w]
              rfl
             refine pure_ (i := 16) (N := some 81) (v := undef) (a' := ?_) (bA3 17 29) rfl rfl (any_of HT_.out (by kernel_rfl)) (fun _ _ _ h => h) (Or.inr ⟨by rfl, rfl⟩) ?_ ?_
             rotate_left
             ·simp only [Act.put, setIfInBounds_toArray, set_cons_zero, set_cons_succ, i64_w, i32_w]
              rfl
             refine pure_ (i := 17) (N := some 82) (v := undef) (a' := ?_) (bA3 18 29) rfl rfl (any_of HT_.out (by kernel_rfl)) (fun _ _ _ h => h) (Or.inr ⟨by rfl, rfl⟩) ?_ ?_
             rotate_left
             ·simp only [Act.put, setIfInBounds_toArray, set_cons_zero, set_cons_succ, i64_w, i32_w]
              rfl
             refine pure_ (i := 18) (N := some 83) (v := undef) (a' := ?_) (bA3 19 29) rfl rfl (any_of HT_.out (by kernel_rfl)) (fun _ _ _ h => h) (Or.inr ⟨by rfl, rfl⟩) ?_ ?_
             rotate_left
             ·simp only [Act.put, setIfInBounds_toArray, set_cons_zero, set_cons_succ, i64_w, i32_w]
              rfl
             refine pure_ (i := 19) (N := some 84) (v := undef) (a' := ?_) (bA3 20 29) rfl rfl (any_of HT_.out (by kernel_rfl)) (fun _ _ _ h => h) (Or.inr ⟨by rfl, rfl⟩) ?_ ?_
             rotate_left
             ·simp only [Act.put, setIfInBounds_toArray, set_cons_zero, set_cons_succ, i64_w, i32_w]
              rfl
             refine pure_ (i := 20) (N := some 85) (v := undef) (a' := ?_) (bA3 21 29) rfl rfl (any_of HT_.out (by kernel_rfl)) (fun _ _ _ h => h) (Or.inr ⟨by rfl, rfl⟩) ?_ ?_
             rotate_left
             ·simp only [Act.put, setIfInBounds_toArray, set_cons_zero, set_cons_succ, i64_w, i32_w]
              rfl
             refine pure_ (i := 21) (N := some 86) (v := undef) (a' := ?_) (bA3 22 29) rfl rfl (any_of HT_.out (by kernel_rfl)) (fun _ _ _ h => h) (Or.inr ⟨by rfl, rfl⟩) ?_ ?_
             rotate_left
             ·simp only [Act.put, setIfInBounds_toArray, set_cons_zero, set_cons_succ, i64_w, i32_w]
              rfl
             refine pure_ (i := 22) (N := some 87) (v := undef) (a' := ?_) (bA3 23 29) rfl rfl (any_of HT_.out (by kernel_rfl)) (fun _ _ _ h => h) (Or.inr ⟨by rfl, rfl⟩) ?_ ?_
             rotate_left
             ·simp only [Act.put, setIfInBounds_toArray, set_cons_zero, set_cons_succ, i64_w, i32_w]
              rfl
             refine pure_ (i := 23) (N := some 88) (v := undef) (a' := ?_) (bA3 24 29) rfl rfl (any_of HT_.out (by kernel_rfl)) (fun _ _ _ h => h) (Or.inr ⟨by rfl, rfl⟩) ?_ ?_
             rotate_left
             ·simp only [Act.put, setIfInBounds_toArray, set_cons_zero, set_cons_succ, i64_w, i32_w]
              rfl
             refine pure_ (i := 24) (N := some 89) (v := undef) (a' := ?_) (bA3 25 29) rfl rfl (any_of HT_.out (by kernel_rfl)) (fun _ _ _ h => h) (Or.inr ⟨by rfl, rfl⟩) ?_ ?_
             rotate_left
             ·simp only [Act.put, setIfInBounds_toArray, set_cons_zero, set_cons_succ, i64_w, i32_w]
              rfl
             refine pure_ (i := 25) (N := some 90) (v := undef) (a' := ?_) (bA3 26 29) rfl rfl (any_of HT_.out (by kernel_rfl)) (fun _ _ _ h => h) (Or.inr ⟨by rfl, rfl⟩) ?_ ?_
             rotate_left
             ·simp only [Act.put, setIfInBounds_toArray, set_cons_zero, set_cons_succ, i64_w, i32_w]
              rfl
             refine pure_ (i := 26) (N := some 91) (v := undef) (a' := ?_) (bA3 27 29) rfl rfl (any_of HT_.out (by kernel_rfl)) (fun _ _ _ h => h) (Or.inr ⟨by rfl, rfl⟩) ?_ ?_
             rotate_left
             ·simp only [Act.put, setIfInBounds_toArray, set_cons_zero, set_cons_succ, i64_w, i32_w]
              rfl
             refine pure_ (i := 27) (N := some 92) (v := undef) (a' := ?_) (bA3 28 29) rfl rfl (any_of HT_.out (by kernel_rfl)) (fun _ _ _ h => h) (Or.inr ⟨by rfl, rfl⟩) ?_ ?_
             rotate_left
             ·simp only [Act.put, setIfInBounds_toArray, set_cons_zero, set_cons_succ, i64_w, i32_w]
              rfl
             refine pure_ (i := 28) (N := some 93) (v := ?_) (a' := ?_) (bA3 29 29) rfl rfl (any_of HT_.out (by kernel_rfl)) (fun _ _ _ h => h) (Or.inl ⟨by rfl, ?_⟩) ?_ ?_; rotate_left; (intro w'; go_simp; with_reducible rfl); rotate_left; (simp only [Act.put, setIfInBounds_toArray, set_cons_zero, set_cons_succ, i64_w, i32_w]; rfl)
             refine done_ (done_of HT_.out (by kernel_rfl)) ?_
             try go_wp2
             go_ret
             exact ⟨by first | rfl | (simp <;> rfl) | (simp [*] <;> rfl), by repeat (first | (with_reducible first | exact HB.out | apply ba_ | apply bn_ | apply bd_ | refine below_set ?_ GE151.out | refine below_set ?_ GE157.out) | exact HB.out)⟩
           ·rw [if_neg c26] at H
            have c26b0 : (t159 == 0) = false := beq_eq_false_iff_ne.mpr c26
            have c26b1 : (t159 != 0) = true := bne_iff_ne.mpr c26
            obtain rfl := Option.some.inj H
            have p156 : 0 ≤ (x50_2 : Int) := od_ (by first | (with_reducible assumption) | assumption)
            have q156 : x50_2 < (l0_3.length : Int) := od_ (by first | (with_reducible assumption) | assumption)
            obtain ⟨ad156, e156, hx156_0, hx156_1, hx156_2, hx156_3, hx156_4, hx156_5, hx156_6, hx156_7, hx156_8, hx156_9, hx156_10⟩ := at_T41 HR0_3.out x50_2 p156 q156
            cases e156
            replace hx156_0 := (HB.out.cell (World.block_lt_of_cell? w _ hx156_0)).trans hx156_0
            replace hx156_1 := (HB.out.cell (World.block_lt_of_cell? w _ hx156_1)).trans hx156_1
            replace hx156_2 := (HB.out.cell (World.block_lt_of_cell? w _ hx156_2)).trans hx156_2
            replace hx156_3 := (HB.out.cell (World.block_lt_of_cell? w _ hx156_3)).trans hx156_3
            replace hx156_4 := (HB.out.cell (World.block_lt_of_cell? w _ hx156_4)).trans hx156_4
            replace hx156_5 := (HB.out.cell (World.block_lt_of_cell? w _ hx156_5)).trans hx156_5
            replace hx156_6 := (HB.out.cell (World.block_lt_of_cell? w _ hx156_6)).trans hx156_6
            replace hx156_7 := (HB.out.cell (World.block_lt_of_cell? w _ hx156_7)).trans hx156_7
            replace hx156_8 := (HB.out.cell (World.block_lt_of_cell? w _ hx156_8)).trans hx156_8
            replace hx156_9 := (HB.out.cell (World.block_lt_of_cell? w _ hx156_9)).trans hx156_9
            replace hx156_10 := (HB.out.cell (World.block_lt_of_cell? w _ hx156_10)).trans hx156_10
            replace p156 := eq_true p156
            replace q156 := eq_true q156
            try go_wp2_with (first | ((with_reducible refine gate_dst (N := 6) rfl ?_); (try (refine gate_guard (by rfl) ?_; dsimp only)); refine box_event ?hg (N := 6) ?hd (cs := #[.int .u64 0, .int .u64 0, .bool false, .bool false, .int .u64 0, .int .u64 0, .int .u64 0, .int .u64 0, .int .u64 0, .int .u64 0, .int .i64 0]) (t := 41) ?hr ?_; (case hd => rfl); (case hg => rfl); (case hr => first | (go_simp; done) | (go_simp; rfl)); intro gb157 hg w72 hbox hb; have n0_ := ak_ (kb_ (g := gb151) (o := .cells #[.int .i64 a0_0, .int .i64 a0_1, .int .i64 a0_2, .slice (some ad156) l0_3.length c0_3, .bool a0_4, .bool a0_5, .int .u64 a0_6, .int .u64 a0_7, .int .u64 a0_8, .int .u64 a0_9, .int .u64 a0_10, .int .u64 a0_11, .int .i64 a0_12] 31 (0, 0)) (by (with_reducible repeat (first | refine kn_ ?_ _ | refine kd_ ?_ | refine ka_ ?_ _)); exact BK151.out) hb); have n1_ := ak_ (bt_ (by repeat (first | (with_reducible first | exact HB.out | apply ba_ | apply bn_ | apply bd_ | refine below_set ?_ GE151.out) | exact HB.out)) hb); have n2_ := ak_ (hbox); have n3_ := ak_ ((by rw [hg]; exact (bz_ (by repeat (first | (with_reducible first | exact HB.out | apply ba_ | apply bn_ | apply bd_ | refine below_set ?_ GE151.out) | exact HB.out))) : w.heap.size ≤ gb157)); have n4_ := ak_ ((by rw [hg]; exact (bz_ (by repeat (first | (with_reducible first | exact HB.out | apply ba_ | apply bn_ | apply bd_ | refine below_set ?_ GE151.out) | exact HB.out))) : w.heap.size ≤ gb157)); have n5_ := ak_ ((by rw [hg]; exact Nat.ne_of_lt (blk_lt (g := gb151) (o := .cells #[.int .i64 a0_0, .int .i64 a0_1, .int .i64 a0_2, .slice (some ad156) l0_3.length c0_3, .bool a0_4, .bool a0_5, .int .u64 a0_6, .int .u64 a0_7, .int .u64 a0_8, .int .u64 a0_9, .int .u64 a0_10, .int .u64 a0_11, .int .i64 a0_12] 31 (0, 0)) (by (with_reducible repeat (first | refine kn_ ?_ _ | refine kd_ ?_ | refine ka_ ?_ _)); exact BK151.out)) : gb151 ≠ gb157)); have n6_ := ak_ ((by rw [hg]; exact Nat.ne_of_gt (blk_lt (g := gb151) (o := .cells #[.int .i64 a0_0, .int .i64 a0_1, .int .i64 a0_2, .slice (some ad156) l0_3.length c0_3, .bool a0_4, .bool a0_5, .int .u64 a0_6, .int .u64 a0_7, .int .u64 a0_8, .int .u64 a0_9, .int .u64 a0_10, .int .u64 a0_11, .int .i64 a0_12] 31 (0, 0)) (by (with_reducible repeat (first | refine kn_ ?_ _ | refine kd_ ?_ | refine ka_ ?_ _)); exact BK151.out)) : gb157 ≠ gb151)); clear BK151; clear HB; have BK151 := n0_; have HB := n1_; have BK157 := n2_; have GW157 := n3_; have GE157 := n4_; have NB151_157 := n5_; have NB157_151 := n6_; clear n0_ n1_ n2_ n3_ n4_ n5_ n6_; clear hb hbox hg; have hnb73 := NB157_151.out; have hnc73 := NB151_157.out; have hcz74_0 : w72.cell? ⟨gb157, 0, none⟩ = some (.int .u64 0) := (kc_ BK157.out 0).trans rfl; have hcz74_1 : w72.cell? ⟨gb157, 1, none⟩ = some (.int .u64 0) := (kc_ BK157.out 1).trans rfl; have hcz74_2 : w72.cell? ⟨gb157, 2, none⟩ = some (.bool false) := (kc_ BK157.out 2).trans rfl; have hcz74_3 : w72.cell? ⟨gb157, 3, none⟩ = some (.bool false) := (kc_ BK157.out 3).trans rfl; have hcz74_4 : w72.cell? ⟨gb157, 4, none⟩ = some (.int .u64 0) := (kc_ BK157.out 4).trans rfl; have hcz74_5 : w72.cell? ⟨gb157, 5, none⟩ = some (.int .u64 0) := (kc_ BK157.out 5).trans rfl; have hcz74_6 : w72.cell? ⟨gb157, 6, none⟩ = some (.int .u64 0) := (kc_ BK157.out 6).trans rfl; have hcz74_7 : w72.cell? ⟨gb157, 7, none⟩ = some (.int .u64 0) := (kc_ BK157.out 7).trans rfl; have hcz74_8 : w72.cell? ⟨gb157, 8, none⟩ = some (.int .u64 0) := (kc_ BK157.out 8).trans rfl; have hcz74_9 : w72.cell? ⟨gb157, 9, none⟩ = some (.int .u64 0) := (kc_ BK157.out 9).trans rfl; have hcz74_10 : w72.cell? ⟨gb157, 10, none⟩ = some (.int .i64 0) := (kc_ BK157.out 10).trans rfl; have hfz74_0 := kf_ BK157.out 0; have hfz74_1 := kf_ BK157.out 1; have hfz74_2 := kf_ BK157.out 2; have hfz74_3 := kf_ BK157.out 3; have hfz74_4 := kf_ BK157.out 4; have hfz74_5 := kf_ BK157.out 5; have hfz74_6 := kf_ BK157.out 6; have hfz74_7 := kf_ BK157.out 7; have hfz74_8 := kf_ BK157.out 8; have hfz74_9 := kf_ BK157.out 9; have hfz74_10 := kf_ BK157.out 10; have hcz75_0 : w72.cell? ⟨gb151, 0, none⟩ = some (.int .i64 a0_0) := (kc_ BK151.out 0).trans rfl; have hcz75_1 : w72.cell? ⟨gb151, 1, none⟩ = some (.int .i64 a0_1) := (kc_ BK151.out 1).trans rfl; have hcz75_2 : w72.cell? ⟨gb151, 2, none⟩ = some (.int .i64 a0_2) := (kc_ BK151.out 2).trans rfl; have hcz75_3 : w72.cell? ⟨gb151, 3, none⟩ = some (.slice (some ad156) l0_3.length c0_3) := (kc_ BK151.out 3).trans rfl; have hcz75_4 : w72.cell? ⟨gb151, 4, none⟩ = some (.bool a0_4) := (kc_ BK151.out 4).trans rfl; have hcz75_5 : w72.cell? ⟨gb151, 5, none⟩ = some (.bool a0_5) := (kc_ BK151.out 5).trans rfl; have hcz75_6 : w72.cell? ⟨gb151, 6, none⟩ = some (.int .u64 a0_6) := (kc_ BK151.out 6).trans rfl; have hcz75_7 : w72.cell? ⟨gb151, 7, none⟩ = some (.int .u64 a0_7) := (kc_ BK151.out 7).trans rfl; have hcz75_8 : w72.cell? ⟨gb151, 8, none⟩ = some (.int .u64 a0_8) := (kc_ BK151.out 8).trans rfl; have hcz75_9 : w72.cell? ⟨gb151, 9, none⟩ = some (.int .u64 a0_9) := (kc_ BK151.out 9).trans rfl; have hcz75_10 : w72.cell? ⟨gb151, 10, none⟩ = some (.int .u64 a0_10) := (kc_ BK151.out 10).trans rfl; have hcz75_11 : w72.cell? ⟨gb151, 11, none⟩ = some (.int .u64 a0_11) := (kc_ BK151.out 11).trans rfl; have hcz75_12 : w72.cell? ⟨gb151, 12, none⟩ = some (.int .i64 a0_12) := (kc_ BK151.out 12).trans rfl; have hfz75_0 := kf_ BK151.out 0; have hfz75_1 := kf_ BK151.out 1; have hfz75_2 := kf_ BK151.out 2; have hfz75_3 := kf_ BK151.out 3; have hfz75_4 := kf_ BK151.out 4; have hfz75_5 := kf_ BK151.out 5; have hfz75_6 := kf_ BK151.out 6; have hfz75_7 := kf_ BK151.out 7; have hfz75_8 := kf_ BK151.out 8; have hfz75_9 := kf_ BK151.out 9; have hfz75_10 := kf_ BK151.out 10; have hfz75_11 := kf_ BK151.out 11; have hfz75_12 := kf_ BK151.out 12) | ((with_reducible refine gate_callee (f := 48) rfl ?_); refine goesL_ (some 62) rfl rfl Try.func48 (by kernel_rfl) rfl #[.int .i64 a0_1, .int .i64 a0_0, .agg #[.int .u64 ((rd_T41 l0_3 x50_2).f0.f0), .int .u64 ((rd_T41 l0_3 x50_2).f0.f1)]] rfl (by (try simp only [map_toArray, map_cons, map_nil]); first | done | rfl | (simp only [length_drop, length_take]; rfl)) ?_; (with_reducible refine (layer_May.calls k2 a0_1 a0_0 ((rd_T41 l0_3 x50_2).f0.f0) ((rd_T41 l0_3 x50_2).f0.f1) t158 t159 _ A25.out).mono ?_); rintro e w76 ⟨rfl, hb⟩; refine ⟨_, rfl, ?_⟩; have n0_ := ak_ (kb_ (g := gb151) (o := .cells #[.int .i64 a0_0, .int .i64 a0_1, .int .i64 a0_2, .slice (some ad156) l0_3.length c0_3, .bool a0_4, .bool a0_5, .int .u64 a0_6, .int .u64 a0_7, .int .u64 a0_8, .int .u64 a0_9, .int .u64 a0_10, .int .u64 a0_11, .int .i64 a0_12] 31 (0, 0)) (by (with_reducible repeat (first | refine kn_ ?_ _ | refine kd_ ?_ | refine ka_ ?_ _)); refine blk_far ?_ NB151_157.out _; (with_reducible repeat (first | refine kn_ ?_ _ | refine kd_ ?_ | refine ka_ ?_ _)); refine blk_far ?_ NB151_157.out _; (with_reducible repeat (first | refine kn_ ?_ _ | refine kd_ ?_ | refine ka_ ?_ _)); refine blk_far ?_ NB151_157.out _; (with_reducible repeat (first | refine kn_ ?_ _ | refine kd_ ?_ | refine ka_ ?_ _)); refine blk_far ?_ NB151_157.out _; (with_reducible repeat (first | refine kn_ ?_ _ | refine kd_ ?_ | refine ka_ ?_ _)); refine blk_far ?_ NB151_157.out _; (with_reducible repeat (first | refine kn_ ?_ _ | refine kd_ ?_ | refine ka_ ?_ _)); refine blk_far ?_ NB151_157.out _; (with_reducible repeat (first | refine kn_ ?_ _ | refine kd_ ?_ | refine ka_ ?_ _)); refine blk_far ?_ NB151_157.out _; (with_reducible repeat (first | refine kn_ ?_ _ | refine kd_ ?_ | refine ka_ ?_ _)); refine blk_far ?_ NB151_157.out _; (with_reducible repeat (first | refine kn_ ?_ _ | refine kd_ ?_ | refine ka_ ?_ _)); refine blk_far ?_ NB151_157.out _; (with_reducible repeat (first | refine kn_ ?_ _ | refine kd_ ?_ | refine ka_ ?_ _)); refine blk_far ?_ NB151_157.out _; (with_reducible repeat (first | refine kn_ ?_ _ | refine kd_ ?_ | refine ka_ ?_ _)); refine blk_far ?_ NB151_157.out _; (with_reducible repeat (first | refine kn_ ?_ _ | refine kd_ ?_ | refine ka_ ?_ _)); exact BK151.out) hb); have n1_ := ak_ (kb_ (g := gb157) (o := .cells #[.int .u64 ((rd_T41 l0_3 x50_2).f0.f0), .int .u64 ((rd_T41 l0_3 x50_2).f0.f1), .bool ((rd_T41 l0_3 x50_2).f1.f0), .bool ((rd_T41 l0_3 x50_2).f1.f1), .int .u64 ((rd_T41 l0_3 x50_2).f1.f2.f0), .int .u64 ((rd_T41 l0_3 x50_2).f1.f2.f1), .int .u64 ((rd_T41 l0_3 x50_2).f1.f3.f0.f0), .int .u64 ((rd_T41 l0_3 x50_2).f1.f3.f0.f1), .int .u64 ((rd_T41 l0_3 x50_2).f1.f3.f1.f0), .int .u64 ((rd_T41 l0_3 x50_2).f1.f3.f1.f1), .int .i64 ((rd_T41 l0_3 x50_2).f1.f4)] 41 (0, 0)) (by (with_reducible repeat (first | refine kn_ ?_ _ | refine kd_ ?_ | refine ka_ ?_ _)); refine blk_put (cs := #[.int .u64 ((rd_T41 l0_3 x50_2).f0.f0), .int .u64 ((rd_T41 l0_3 x50_2).f0.f1), .bool ((rd_T41 l0_3 x50_2).f1.f0), .bool ((rd_T41 l0_3 x50_2).f1.f1), .int .u64 ((rd_T41 l0_3 x50_2).f1.f2.f0), .int .u64 ((rd_T41 l0_3 x50_2).f1.f2.f1), .int .u64 ((rd_T41 l0_3 x50_2).f1.f3.f0.f0), .int .u64 ((rd_T41 l0_3 x50_2).f1.f3.f0.f1), .int .u64 ((rd_T41 l0_3 x50_2).f1.f3.f1.f0), .int .u64 ((rd_T41 l0_3 x50_2).f1.f3.f1.f1), .int .i64 0]) ?_ 10 _ rfl; (with_reducible repeat (first | refine kn_ ?_ _ | refine kd_ ?_ | refine ka_ ?_ _)); refine blk_put (cs := #[.int .u64 ((rd_T41 l0_3 x50_2).f0.f0), .int .u64 ((rd_T41 l0_3 x50_2).f0.f1), .bool ((rd_T41 l0_3 x50_2).f1.f0), .bool ((rd_T41 l0_3 x50_2).f1.f1), .int .u64 ((rd_T41 l0_3 x50_2).f1.f2.f0), .int .u64 ((rd_T41 l0_3 x50_2).f1.f2.f1), .int .u64 ((rd_T41 l0_3 x50_2).f1.f3.f0.f0), .int .u64 ((rd_T41 l0_3 x50_2).f1.f3.f0.f1), .int .u64 ((rd_T41 l0_3 x50_2).f1.f3.f1.f0), .int .u64 0, .int .i64 0]) ?_ 9 _ rfl; (with_reducible repeat (first | refine kn_ ?_ _ | refine kd_ ?_ | refine ka_ ?_ _)); refine blk_put (cs := #[.int .u64 ((rd_T41 l0_3 x50_2).f0.f0), .int .u64 ((rd_T41 l0_3 x50_2).f0.f1), .bool ((rd_T41 l0_3 x50_2).f1.f0), .bool ((rd_T41 l0_3 x50_2).f1.f1), .int .u64 ((rd_T41 l0_3 x50_2).f1.f2.f0), .int .u64 ((rd_T41 l0_3 x50_2).f1.f2.f1), .int .u64 ((rd_T41 l0_3 x50_2).f1.f3.f0.f0), .int .u64 ((rd_T41 l0_3 x50_2).f1.f3.f0.f1), .int .u64 0, .int .u64 0, .int .i64 0]) ?_ 8 _ rfl; (with_reducible repeat (first | refine kn_ ?_ _ | refine kd_ ?_ | refine ka_ ?_ _)); refine blk_put (cs := #[.int .u64 ((rd_T41 l0_3 x50_2).f0.f0), .int .u64 ((rd_T41 l0_3 x50_2).f0.f1), .bool ((rd_T41 l0_3 x50_2).f1.f0), .bool ((rd_T41 l0_3 x50_2).f1.f1), .int .u64 ((rd_T41 l0_3 x50_2).f1.f2.f0), .int .u64 ((rd_T41 l0_3 x50_2).f1.f2.f1), .int .u64 ((rd_T41 l0_3 x50_2).f1.f3.f0.f0), .int .u64 0, .int .u64 0, .int .u64 0, .int .i64 0]) ?_ 7 _ rfl; (with_reducible repeat (first | refine kn_ ?_ _ | refine kd_ ?_ | refine ka_ ?_ _)); refine blk_put (cs := #[.int .u64 ((rd_T41 l0_3 x50_2).f0.f0), .int .u64 ((rd_T41 l0_3 x50_2).f0.f1), .bool ((rd_T41 l0_3 x50_2).f1.f0), .bool ((rd_T41 l0_3 x50_2).f1.f1), .int .u64 ((rd_T41 l0_3 x50_2).f1.f2.f0), .int .u64 ((rd_T41 l0_3 x50_2).f1.f2.f1), .int .u64 0, .int .u64 0, .int .u64 0, .int .u64 0, .int .i64 0]) ?_ 6 _ rfl; (with_reducible repeat (first | refine kn_ ?_ _ | refine kd_ ?_ | refine ka_ ?_ _)); refine blk_put (cs := #[.int .u64 ((rd_T41 l0_3 x50_2).f0.f0), .int .u64 ((rd_T41 l0_3 x50_2).f0.f1), .bool ((rd_T41 l0_3 x50_2).f1.f0), .bool ((rd_T41 l0_3 x50_2).f1.f1), .int .u64 ((rd_T41 l0_3 x50_2).f1.f2.f0), .int .u64 0, .int .u64 0, .int .u64 0, .int .u64 0, .int .u64 0, .int .i64 0]) ?_ 5 _ rfl; (with_reducible repeat (first | refine kn_ ?_ _ | refine kd_ ?_ | refine ka_ ?_ _)); refine blk_put (cs := #[.int .u64 ((rd_T41 l0_3 x50_2).f0.f0), .int .u64 ((rd_T41 l0_3 x50_2).f0.f1), .bool ((rd_T41 l0_3 x50_2).f1.f0), .bool ((rd_T41 l0_3 x50_2).f1.f1), .int .u64 0, .int .u64 0, .int .u64 0, .int .u64 0, .int .u64 0, .int .u64 0, .int .i64 0]) ?_ 4 _ rfl; (with_reducible repeat (first | refine kn_ ?_ _ | refine kd_ ?_ | refine ka_ ?_ _)); refine blk_put (cs := #[.int .u64 ((rd_T41 l0_3 x50_2).f0.f0), .int .u64 ((rd_T41 l0_3 x50_2).f0.f1), .bool ((rd_T41 l0_3 x50_2).f1.f0), .bool false, .int .u64 0, .int .u64 0, .int .u64 0, .int .u64 0, .int .u64 0, .int .u64 0, .int .i64 0]) ?_ 3 _ rfl; (with_reducible repeat (first | refine kn_ ?_ _ | refine kd_ ?_ | refine ka_ ?_ _)); refine blk_put (cs := #[.int .u64 ((rd_T41 l0_3 x50_2).f0.f0), .int .u64 ((rd_T41 l0_3 x50_2).f0.f1), .bool false, .bool false, .int .u64 0, .int .u64 0, .int .u64 0, .int .u64 0, .int .u64 0, .int .u64 0, .int .i64 0]) ?_ 2 _ rfl; (with_reducible repeat (first | refine kn_ ?_ _ | refine kd_ ?_ | refine ka_ ?_ _)); refine blk_put (cs := #[.int .u64 ((rd_T41 l0_3 x50_2).f0.f0), .int .u64 0, .bool false, .bool false, .int .u64 0, .int .u64 0, .int .u64 0, .int .u64 0, .int .u64 0, .int .u64 0, .int .i64 0]) ?_ 1 _ rfl; (with_reducible repeat (first | refine kn_ ?_ _ | refine kd_ ?_ | refine ka_ ?_ _)); refine blk_put (cs := #[.int .u64 0, .int .u64 0, .bool false, .bool false, .int .u64 0, .int .u64 0, .int .u64 0, .int .u64 0, .int .u64 0, .int .u64 0, .int .i64 0]) ?_ 0 _ rfl; (with_reducible repeat (first | refine kn_ ?_ _ | refine kd_ ?_ | refine ka_ ?_ _)); exact BK157.out) hb); have n2_ := ak_ (bt_ (by repeat (first | (with_reducible first | exact HB.out | apply ba_ | apply bn_ | apply bd_ | refine below_set ?_ GE151.out | refine below_set ?_ GE157.out) | exact HB.out)) hb); clear BK151; clear BK157; clear HB; have BK151 := n0_; have BK157 := n1_; have HB := n2_; clear n0_ n1_ n2_; (try clear hb); (try clear hb2); (try clear hk); (try clear hi)))
            have n0_ := ak_ (kd_ BK151.out)
            have n1_ := ak_ (kd_ BK157.out)
            have n2_ := ak_ (bd_ HB.out)
            clear BK151
            clear BK157
            clear HB
            have BK151 := n0_
            have BK157 := n1_
            have HB := n2_
            clear n0_ n1_ n2_
            refine start_ (n := 29) (S := fun w' => True) (ds := []) #[false, false, false, false, false, false, false, false, false, false, false, false, false, false, false, false, false, false, false, false, false, false, false, false, false, false, false, false, false] (by kernel_rfl) rfl rfl trivial (fun hHeld => ?_); refine with_tabW head_Check.tab10 head_Check.bits10 (fun HT_ HW_ => ?_)
            generalize w76.drew = w77 at BK151 BK157 HB hHeld ⊢
            refine pure_ (i := 0) (N := some 65) (v := ?_) (a' := ?_) (bA3 1 29) rfl rfl (any_of HT_.out (by kernel_rfl)) (fun _ _ _ h => h) (Or.inl ⟨by rfl, ?_⟩) ?_ ?_; rotate_left; (intro w'; go_simp; with_reducible rfl); rotate_left; (simp only [Act.put, setIfInBounds_toArray, set_cons_zero, set_cons_succ, i64_w, i32_w]; rfl)
            refine pure_ (i := 1) (N := some 66) (v := ?_) (a' := ?_) (bA3 2 29) rfl rfl (any_of HT_.out (by kernel_rfl)) (fun _ _ _ h => h) (Or.inl ⟨by rfl, ?_⟩) ?_ ?_; rotate_left; (intro w'; go_simp; with_reducible rfl); rotate_left; (simp only [Act.put, setIfInBounds_toArray, set_cons_zero, set_cons_succ, i64_w, i32_w]; rfl)
            refine pure_ (i := 2) (N := some 67) (v := ?_) (a' := ?_) (bA3 3 29) rfl rfl (any_of HT_.out (by kernel_rfl)) (fun _ _ _ h => h) (Or.inl ⟨by rfl, ?_⟩) ?_ ?_; rotate_left; (intro w'; go_simp; with_reducible rfl); rotate_left; (simp only [Act.put, setIfInBounds_toArray, set_cons_zero, set_cons_succ, i64_w, i32_w]; rfl)
            refine pure_ (i := 3) (N := some 68) (v := undef) (a' := ?_) (bA3 4 29) rfl rfl (any_of HT_.out (by kernel_rfl)) (fun _ _ _ h => h) (Or.inr ⟨by rfl, rfl⟩) ?_ ?_
            rotate_left
            ·simp only [Act.put, setIfInBounds_toArray, set_cons_zero, set_cons_succ, i64_w, i32_w]
             rfl
            refine pure_ (i := 4) (N := some 69) (v := undef) (a' := ?_) (bA3 5 29) rfl rfl (any_of HT_.out (by kernel_rfl)) (fun _ _ _ h => h) (Or.inr ⟨by rfl, rfl⟩) ?_ ?_
            rotate_left
            ·simp only [Act.put, setIfInBounds_toArray, set_cons_zero, set_cons_succ, i64_w, i32_w]
             rfl
            refine pure_ (i := 5) (N := some 70) (v := ?_) (a' := ?_) (bA3 6 29) rfl rfl (any_of HT_.out (by kernel_rfl)) (fun _ _ _ h => h) (Or.inl ⟨by rfl, ?_⟩) ?_ ?_; rotate_left; (intro w'; go_simp; with_reducible rfl); rotate_left; (simp only [Act.put, setIfInBounds_toArray, set_cons_zero, set_cons_succ, i64_w, i32_w]; rfl)
            refine pure_ (i := 6) (N := some 71) (v := ?_) (a' := ?_) (bA3 7 29) rfl rfl (any_of HT_.out (by kernel_rfl)) (fun _ _ _ h => h) (Or.inl ⟨by rfl, ?_⟩) ?_ ?_; rotate_left; (intro w'; go_simp; with_reducible rfl); rotate_left; (simp only [Act.put, setIfInBounds_toArray, set_cons_zero, set_cons_succ, i64_w, i32_w]; rfl)
            refine pure_ (i := 7) (N := some 72) (v := undef) (a' := ?_) (bA3 8 29) rfl rfl (any_of HT_.out (by kernel_rfl)) (fun _ _ _ h => h) (Or.inr ⟨by rfl, rfl⟩) ?_ ?_
            rotate_left
            ·simp only [Act.put, setIfInBounds_toArray, set_cons_zero, set_cons_succ, i64_w, i32_w]
             rfl
            refine pure_ (i := 8) (N := some 73) (v := undef) (a' := ?_) (bA3 9 29) rfl rfl (any_of HT_.out (by kernel_rfl)) (fun _ _ _ h => h) (Or.inr ⟨by rfl, rfl⟩) ?_ ?_
            rotate_left
            ·simp only [Act.put, setIfInBounds_toArray, set_cons_zero, set_cons_succ, i64_w, i32_w]
             rfl
            refine pure_ (i := 9) (N := some 74) (v := undef) (a' := ?_) (bA3 10 29) rfl rfl (any_of HT_.out (by kernel_rfl)) (fun _ _ _ h => h) (Or.inr ⟨by rfl, rfl⟩) ?_ ?_
            rotate_left
            ·simp only [Act.put, setIfInBounds_toArray, set_cons_zero, set_cons_succ, i64_w, i32_w]
             rfl
            refine pure_ (i := 10) (N := some 75) (v := undef) (a' := ?_) (bA3 11 29) rfl rfl (any_of HT_.out (by kernel_rfl)) (fun _ _ _ h => h) (Or.inr ⟨by rfl, rfl⟩) ?_ ?_
            rotate_left
            ·simp only [Act.put, setIfInBounds_toArray, set_cons_zero, set_cons_succ, i64_w, i32_w]
             rfl
            refine pure_ (i := 11) (N := some 76) (v := ?_) (a' := ?_) (bA3 12 29) rfl rfl (any_of HT_.out (by kernel_rfl)) (fun _ _ _ h => h) (Or.inl ⟨by rfl, ?_⟩) ?_ ?_; rotate_left; (intro w'; go_simp; with_reducible rfl); rotate_left; (simp only [Act.put, setIfInBounds_toArray, set_cons_zero, set_cons_succ, i64_w, i32_w]; rfl)
            refine pure_ (i := 12) (N := some 77) (v := ?_) (a' := ?_) (bA3 13 29) rfl rfl (any_of HT_.out (by kernel_rfl)) (fun _ _ _ h => h) (Or.inl ⟨by rfl, ?_⟩) ?_ ?_; rotate_left; (intro w'; go_simp; with_reducible rfl); rotate_left; (simp only [Act.put, setIfInBounds_toArray, set_cons_zero, set_cons_succ, i64_w, i32_w]; rfl)
            refine pure_ (i := 13) (N := some 78) (v := undef) (a' := ?_) (bA3 14 29) rfl rfl (any_of HT_.out (by kernel_rfl)) (fun _ _ _ h => h) (Or.inr ⟨by rfl, rfl⟩) ?_ ?_
            rotate_left
            ·simp only [Act.put, setIfInBounds_toArray, set_cons_zero, set_cons_succ, i64_w, i32_w]
             rfl
            refine pure_ (i := 14) (N := some 79) (v := undef) (a' := ?_) (bA3 15 29) rfl rfl (any_of HT_.out (by kernel_rfl)) (fun _ _ _ h => h) (Or.inr ⟨by rfl, rfl⟩) ?_ ?_
            rotate_left
            ·simp only [Act.put, setIfInBounds_toArray, set_cons_zero, set_cons_succ, i64_w, i32_w]
             rfl
            refine pure_ (i := 15) (N := some 80) (v := undef) (a' := ?_) (bA3 16 29) rfl rfl (any_of HT_.out (by kernel_rfl)) (fun _ _ _ h => h) (Or.inr ⟨by rfl, rfl⟩) ?_ ?_
            rotate_left
            ·simp only [Act.put, setIfInBounds_toArray, set_cons_zero, set_cons_succ, i64_w, i32_w]
             rfl
            refine pure_ (i := 16) (N := some 81) (v := undef) (a' := ?_) (bA3 17 29) rfl rfl (any_of HT_.out (by kernel_rfl)) (fun _ _ _ h => h) (Or.inr ⟨by rfl, rfl⟩) ?_ ?_
            rotate_left
            ·simp only [Act.put, setIfInBounds_toArray, set_cons_zero, set_cons_succ, i64_w, i32_w]
             rfl
            refine pure_ (i := 17) (N := some 82) (v := undef) (a' := ?_) (bA3 18 29) rfl rfl (any_of HT_.out (by kernel_rfl)) (fun _ _ _ h => h) (Or.inr ⟨by rfl, rfl⟩) ?_ ?_
            rotate_left
            ·simp only [Act.put, setIfInBounds_toArray, set_cons_zero, set_cons_succ, i64_w, i32_w]
             rfl
            refine pure_ (i := 18) (N := some 83) (v := undef) (a' := ?_) (bA3 19 29) rfl rfl (any_of HT_.out (by kernel_rfl)) (fun _ _ _ h => h) (Or.inr ⟨by rfl, rfl⟩) ?_ ?_
            rotate_left
            ·simp only [Act.put, setIfInBounds_toArray, set_cons_zero, set_cons_succ, i64_w, i32_w]
             rfl
            refine pure_ (i := 19) (N := some 84) (v := undef) (a' := ?_) (bA3 20 29) rfl rfl (any_of HT_.out (by kernel_rfl)) (fun _ _ _ h => h) (Or.inr ⟨by rfl, rfl⟩) ?_ ?_
            rotate_left
            ·simp only [Act.put, setIfInBounds_toArray, set_cons_zero, set_cons_succ, i64_w, i32_w]
             rfl
            refine pure_ (i := 20) (N := some 85) (v := undef) (a' := ?_) (bA3 21 29) rfl rfl (any_of HT_.out (by kernel_rfl)) (fun _ _ _ h => h) (Or.inr ⟨by rfl, rfl⟩) ?_ ?_
            rotate_left
            ·simp only [Act.put, setIfInBounds_toArray, set_cons_zero, set_cons_succ, i64_w, i32_w]
             rfl
            refine pure_ (i := 21) (N := some 86) (v := undef) (a' := ?_) (bA3 22 29) rfl rfl (any_of HT_.out (by kernel_rfl)) (fun _ _ _ h => h) (Or.inr ⟨by rfl, rfl⟩) ?_ ?_
            rotate_left
            ·simp only [Act.put, setIfInBounds_toArray, set_cons_zero, set_cons_succ, i64_w, i32_w]
             rfl
            refine pure_ (i := 22) (N := some 87) (v := undef) (a' := ?_) (bA3 23 29) rfl rfl (any_of HT_.out (by kernel_rfl)) (fun _ _ _ h => h) (Or.inr ⟨by rfl, rfl⟩) ?_ ?_
            rotate_left
            ·simp only [Act.put, setIfInBounds_toArray, set_cons_zero, set_cons_succ, i64_w, i32_w]
             rfl
            refine pure_ (i := 23) (N := some 88) (v := undef) (a' := ?_) (bA3 24 29) rfl rfl (any_of HT_.out (by kernel_rfl)) (fun _ _ _ h => h) (Or.inr ⟨by rfl, rfl⟩) ?_ ?_
            rotate_left
            ·simp only [Act.put, setIfInBounds_toArray, set_cons_zero, set_cons_succ, i64_w, i32_w]
             rfl
            refine pure_ (i := 24) (N := some 89) (v := undef) (a' := ?_) (bA3 25 29) rfl rfl (any_of HT_.out (by kernel_rfl)) (fun _ _ _ h => h) (Or.inr ⟨by rfl, rfl⟩) ?_ ?_
            rotate_left
            ·simp only [Act.put, setIfInBounds_toArray, set_cons_zero, set_cons_succ, i64_w, i32_w]
             rfl
            refine pure_ (i := 25) (N := some 90) (v := undef) (a' := ?_) (bA3 26 29) rfl rfl (any_of HT_.out (by kernel_rfl)) (fun _ _ _ h => h) (Or.inr ⟨by rfl, rfl⟩) ?_ ?_
            rotate_left
            ·simp only [Act.put, setIfInBounds_toArray, set_cons_zero, set_cons_succ, i64_w, i32_w]
             rfl
            refine pure_ (i := 26) (N := some 91) (v := undef) (a' := ?_) (bA3 27 29) rfl rfl (any_of HT_.out (by kernel_rfl)) (fun _ _ _ h => h) (Or.inr ⟨by rfl, rfl⟩) ?_ ?_
            rotate_left
            ·simp only [Act.put, setIfInBounds_toArray, set_cons_zero, set_cons_succ, i64_w, i32_w]
             rfl
            refine pure_ (i := 27) (N := some 92) (v := undef) (a' := ?_) (bA3 28 29) rfl rfl (any_of HT_.out (by kernel_rfl)) (fun _ _ _ h => h) (Or.inr ⟨by rfl, rfl⟩) ?_ ?_
            rotate_left
            ·simp only [Act.put, setIfInBounds_toArray, set_cons_zero, set_cons_succ, i64_w, i32_w]
             rfl
            refine pure_ (i := 28) (N := some 93) (v := ?_) (a' := ?_) (bA3 29 29) rfl rfl (any_of HT_.out (by kernel_rfl)) (fun _ _ _ h => h) (Or.inl ⟨by rfl, ?_⟩) ?_ ?_; rotate_left; (intro w'; go_simp; with_reducible rfl); rotate_left; (simp only [Act.put, setIfInBounds_toArray, set_cons_zero, set_cons_succ, i64_w, i32_w]; rfl)
            refine done_ (done_of HT_.out (by kernel_rfl)) ?_
            try go_wp2
            go_ret
            exact ⟨by first | rfl | (simp <;> rfl) | (simp [*] <;> rfl), by repeat (first | (with_reducible first | exact HB.out | apply ba_ | apply bn_ | apply bd_ | refine below_set ?_ GE151.out | refine below_set ?_ GE157.out) | exact HB.out)⟩
          ·rw [if_neg c24] at H
           exact absurd H (by simp)
         ·rw [if_neg c23] at H
          exact absurd H (by simp)
        ·rw [if_neg c22] at H
         have c22b0 : decide (x50_2 < (l0_3.length : Int)) = false := decide_eq_false c22
         clear c22
         obtain rfl := Option.some.inj H
         go_wp2
         go_ret
         exact ⟨by first | rfl | (simp <;> rfl) | (simp [*] <;> rfl), by repeat (first | (with_reducible first | exact HB.out | apply ba_ | apply bn_ | apply bd_ | refine below_set ?_ GE151.out) | exact HB.out)⟩
     ·rw [if_neg c18] at H
      have c18b0 : (t155 == 0) = false := beq_eq_false_iff_ne.mpr c18
      have c18b1 : (t155 != 0) = true := bne_iff_ne.mpr c18
      obtain rfl := Option.some.inj H
      have hcz78_0 : wc.cell? ⟨gb151, 0, none⟩ = some (.int .i64 a0_0) := (kc_ BK151.out 0).trans rfl
      have hcz78_1 : wc.cell? ⟨gb151, 1, none⟩ = some (.int .i64 a0_1) := (kc_ BK151.out 1).trans rfl
      have hcz78_2 : wc.cell? ⟨gb151, 2, none⟩ = some (.int .i64 a0_2) := (kc_ BK151.out 2).trans rfl
      have hcz78_3 : wc.cell? ⟨gb151, 3, none⟩ = some (.slice A0_3 l0_3.length c0_3) := (kc_ BK151.out 3).trans rfl
      have hcz78_4 : wc.cell? ⟨gb151, 4, none⟩ = some (.bool a0_4) := (kc_ BK151.out 4).trans rfl
      have hcz78_5 : wc.cell? ⟨gb151, 5, none⟩ = some (.bool a0_5) := (kc_ BK151.out 5).trans rfl
      have hcz78_6 : wc.cell? ⟨gb151, 6, none⟩ = some (.int .u64 a0_6) := (kc_ BK151.out 6).trans rfl
      have hcz78_7 : wc.cell? ⟨gb151, 7, none⟩ = some (.int .u64 a0_7) := (kc_ BK151.out 7).trans rfl
      have hcz78_8 : wc.cell? ⟨gb151, 8, none⟩ = some (.int .u64 a0_8) := (kc_ BK151.out 8).trans rfl
      have hcz78_9 : wc.cell? ⟨gb151, 9, none⟩ = some (.int .u64 a0_9) := (kc_ BK151.out 9).trans rfl
      have hcz78_10 : wc.cell? ⟨gb151, 10, none⟩ = some (.int .u64 a0_10) := (kc_ BK151.out 10).trans rfl
      have hcz78_11 : wc.cell? ⟨gb151, 11, none⟩ = some (.int .u64 a0_11) := (kc_ BK151.out 11).trans rfl
      have hcz78_12 : wc.cell? ⟨gb151, 12, none⟩ = some (.int .i64 a0_12) := (kc_ BK151.out 12).trans rfl
      have hfz78_0 := kf_ BK151.out 0
      have hfz78_1 := kf_ BK151.out 1
      have hfz78_2 := kf_ BK151.out 2
      have hfz78_3 := kf_ BK151.out 3
      have hfz78_4 := kf_ BK151.out 4
      have hfz78_5 := kf_ BK151.out 5
      have hfz78_6 := kf_ BK151.out 6
      have hfz78_7 := kf_ BK151.out 7
      have hfz78_8 := kf_ BK151.out 8
      have hfz78_9 := kf_ BK151.out 9
      have hfz78_10 := kf_ BK151.out 10
      have hfz78_11 := kf_ BK151.out 11
      have hfz78_12 := kf_ BK151.out 12
      go_wp2_with (first | ((with_reducible refine gate_callee (f := 48) rfl ?_); refine goesL_ (some 41) rfl rfl Try.func48 (by kernel_rfl) rfl #[.int .i64 a0_1, .int .i64 a0_0, .agg #[.int .u64 1, .int .u64 0]] rfl (by (try simp only [map_toArray, map_cons, map_nil]); first | done | rfl | (simp only [length_drop, length_take]; rfl)) ?_; (with_reducible refine (layer_May.calls kj1 a0_1 a0_0 1 0 t154 t155 _ A17.out).mono ?_); rintro e w79 ⟨rfl, hb⟩; refine ⟨_, rfl, ?_⟩; have n0_ := ak_ (kb_ (g := gb151) (o := .cells #[.int .i64 a0_0, .int .i64 a0_1, .int .i64 a0_2, .slice A0_3 l0_3.length c0_3, .bool a0_4, .bool a0_5, .int .u64 a0_6, .int .u64 a0_7, .int .u64 a0_8, .int .u64 a0_9, .int .u64 a0_10, .int .u64 a0_11, .int .i64 a0_12] 31 (0, 0)) (by (with_reducible repeat (first | refine kn_ ?_ _ | refine kd_ ?_ | refine ka_ ?_ _)); exact BK151.out) hb); have n1_ := ak_ (bt_ (by repeat (first | (with_reducible first | exact HB.out | apply ba_ | apply bn_ | apply bd_ | refine below_set ?_ GE151.out) | exact HB.out)) hb); clear BK151; clear HB; have BK151 := n0_; have HB := n1_; clear n0_ n1_; (try clear hb); (try clear hb2); (try clear hk); (try clear hi)))
      go_ret
      exact ⟨by first | rfl | (simp <;> rfl) | (simp [*] <;> rfl), by repeat (first | (with_reducible first | exact HB.out | apply ba_ | apply bn_ | apply bd_ | refine below_set ?_ GE151.out) | exact HB.out)⟩

end Go.Proofs.Ytoljdfgkkkpnbaa.MP
