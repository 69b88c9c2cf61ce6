-- written by a program of this session (wip/tools/mprint.sh) for this seat
import Derived.Test.YtkleiaeihihjnaaMPx0
import Derived.Test.YtkleiaeihihjnaaMPx1
import Derived.Test.YtkleiaeihihjnaaMPx2
import Derived.Lib.SliceRun
import Derived.WalkMore
import Derived.Deep.RegionHeld3
namespace Go.Proofs.Ytkleiaeihihjnaa.MP
open Go.RowKit Go.Proofs.YtkleiaeihihjnaaW.PrintWords Go.Proofs.YtkleiaeihihjnaaW.PrintLast Go.Proofs.YtkleiaeihihjnaaW.PrintMore
open Option (bind_eq_some_iff some.injEq)
open _root_.Go.Proofs.Try
open List (setIfInBounds_toArray set_cons_zero set_cons_succ map_toArray map_cons map_nil length_drop length_take)
attribute [local go_sem] max2_int min2_int max_two min_two max_three min_three max_four min_four
set_option linter.unusedVariables false
set_option linter.unusedSimpArgs false
attribute [local go_sem high] eqA34
def value_Check.j0 : Nat → Int → Bool → Bool → Bool → Int → Int → Int → Int → Int → Int → Int → Bool → Bool → Int → Int → Int → Int → Int → Int → Int → Option (Int)
  | 0, _, _, _, _, _, _, _, _, _, _, _, _, _, _, _, _, _, _, _, _ => none
  | k + 1, x5, x12, x168000, x168001, x168002, x168003, x168004, x168005, x168006, x168007, x168008, x170000, x170001, x170002, x170003, x170004, x170005, x170006, x170007, x170008 => if x12 = true then (if x5 = 0 then (if (!x168000 || (x168001 || ((!(x168002 == 0) || (!(x168003 == 0))) || (((!(x168004 == 0) || (!(x168005 == 0))) || ((!(x168006 == 0) || (!(x168007 == 0))))))))) = true then (some 1) else (some x5)) else (some x5)) else (if x168001 = true then (if x5 = 0 then (if (x168000 || (!x168001 || ((!(x168002 == 0) || (!(x168003 == 0))) || (!(x168008 == 0))))) = true then (some 1) else (some x5)) else (some x5)) else (if x5 = 0 then (if (!(x168000 == x170000) || (!(x168001 == x170001) || ((!(x168002 == x170002) || (!(x168003 == x170003))) || (((!(x168004 == x170004) || (!(x168005 == x170005))) || ((!(x168006 == x170006) || (!(x168007 == x170007))))) || (!(x168008 == x170008)))))) = true then (some 1) else (some x5)) else (some x5)))
def value_Check.f (k : Nat) (l0 : List (S45)) (a1_0 : Bool) (a1_1 : Bool) (a1_2 : Int) (a1_3 : Int) (a1_4 : Int) (a1_5 : Int) (a1_6 : Int) (a1_7 : Int) (a1_8 : Int) : Option (Int) := (term_Check.f l0).bind fun t168 => (if a1_0 = true then (if a1_8 ≥ 0 then (value_Check.j0 k t168 (decide (a1_8 < (l0.length : Int))) a1_0 a1_1 a1_2 a1_3 a1_4 a1_5 a1_6 a1_7 a1_8 false false a1_2 a1_3 0 0 0 0 0) else (value_Check.j0 k t168 false a1_0 a1_1 a1_2 a1_3 a1_4 a1_5 a1_6 a1_7 a1_8 false false a1_2 a1_3 0 0 0 0 0)) else (value_Check.j0 k t168 false a1_0 a1_1 a1_2 a1_3 a1_4 a1_5 a1_6 a1_7 a1_8 false false a1_2 a1_3 0 0 0 0 0))
theorem value_Check.mono_l : ∀ k, (∀ y0 y1 y2 y3 y4 y5 y6 y7 y8 y9 y10 y11 y12 y13 y14 y15 y16 y17 y18 y19, LeO (value_Check.j0 k y0 y1 y2 y3 y4 y5 y6 y7 y8 y9 y10 y11 y12 y13 y14 y15 y16 y17 y18 y19) (value_Check.j0 (k + 1) y0 y1 y2 y3 y4 y5 y6 y7 y8 y9 y10 y11 y12 y13 y14 y15 y16 y17 y18 y19))
  | 0 => fun _ _ _ _ _ _ _ _ _ _ _ _ _ _ _ _ _ _ _ _ r h => by simp [value_Check.j0] at h
  | k + 1 => by
   have ih0 := value_Check.mono_l k
   ·intro y0 y1 y2 y3 y4 y5 y6 y7 y8 y9 y10 y11 y12 y13 y14 y15 y16 y17 y18 y19
    unfold value_Check.j0
    repeat' first | (with_reducible first | exact ih0 .. | exact LeO.refl _ | exact LeO.none _ | refine LeO.ite ?_ ?_ | refine LeO.bind ?_ (fun _ => ?_)) | exact ih0 .. | refine LeO.ite ?_ ?_ | refine LeO.bind ?_ (fun _ => ?_)
theorem value_Check.mono : ∀ a0 a1 a2 a3 a4 a5 a6 a7 a8 a9 k, LeO (value_Check.f k a0 a1 a2 a3 a4 a5 a6 a7 a8 a9) (value_Check.f (k + 1) a0 a1 a2 a3 a4 a5 a6 a7 a8 a9) := by
  intro a0 a1 a2 a3 a4 a5 a6 a7 a8 a9 k
  have ih0 := value_Check.mono_l k
  unfold value_Check.f
  repeat' first | (with_reducible first | exact ih0 .. | exact LeO.refl _ | exact LeO.none _ | refine LeO.ite ?_ ?_ | refine LeO.bind ?_ (fun _ => ?_)) | exact ih0 .. | refine LeO.ite ?_ ?_ | refine LeO.bind ?_ (fun _ => ?_)
set_option maxHeartbeats 8000000 in
set_option maxRecDepth 100000 in
theorem value_Check.calls (k : Nat) (A0 : Option Addr) (c0 : Nat) (l0 : List (S45)) (a1_0 : Bool) (a1_1 : Bool) (a1_2 : Int) (a1_3 : Int) (a1_4 : Int) (a1_5 : Int) (a1_6 : Int) (a1_7 : Int) (a1_8 : Int) (r : Int) (w : World) (hr0 : Kd.C k45 w A0 l0.length l0) (hc0 : l0.length ≤ c0) (h : value_Check.f k l0 a1_0 a1_1 a1_2 a1_3 a1_4 a1_5 a1_6 a1_7 a1_8 = some r) :
   Calls Try.prog 58 #[.slice A0 l0.length c0, .agg #[.bool a1_0, .bool a1_1, .int .u64 a1_2, .int .u64 a1_3, .int .u64 a1_4, .int .u64 a1_5, .int .u64 a1_6, .int .u64 a1_7, .int .i64 a1_8]] w fun e w' => e = .returned (.int .i64 r) ∧ Below w.heap.size w w' := by
  have hu34 := underlying34
  have hu24 := underlying24
  have hu32 := underlying32
  have HR0 := ak_ hr0
  have HC0 := ak_ hc0
  clear hr0 hc0
  have HB := ak_ (Below.refl w.heap.size w)
  have H : ((term_Check.f l0).bind fun t168 => (if a1_0 = true then (if a1_8 ≥ 0 then (value_Check.j0 k t168 (decide (a1_8 < (l0.length : Int))) a1_0 a1_1 a1_2 a1_3 a1_4 a1_5 a1_6 a1_7 a1_8 false false a1_2 a1_3 0 0 0 0 0) else (value_Check.j0 k t168 false a1_0 a1_1 a1_2 a1_3 a1_4 a1_5 a1_6 a1_7 a1_8 false false a1_2 a1_3 0 0 0 0 0)) else (value_Check.j0 k t168 false a1_0 a1_1 a1_2 a1_3 a1_4 a1_5 a1_6 a1_7 a1_8 false false a1_2 a1_3 0 0 0 0 0))) = some r := h
  clear h
  replace H := bind_eq_some_iff.mp H
  obtain ⟨t168, A30, H⟩ := H
  replace H : (if a1_0 = true then (if a1_8 ≥ 0 then (value_Check.j0 k t168 (decide (a1_8 < (l0.length : Int))) a1_0 a1_1 a1_2 a1_3 a1_4 a1_5 a1_6 a1_7 a1_8 false false a1_2 a1_3 0 0 0 0 0) else (value_Check.j0 k t168 false a1_0 a1_1 a1_2 a1_3 a1_4 a1_5 a1_6 a1_7 a1_8 false false a1_2 a1_3 0 0 0 0 0)) else (value_Check.j0 k t168 false a1_0 a1_1 a1_2 a1_3 a1_4 a1_5 a1_6 a1_7 a1_8 false false a1_2 a1_3 0 0 0 0 0)) = some r := H
  have A3 := ak_ A30
  clear A30
  have HC4 := ak_ H
  clear H
  go_enter func58, ntmps58
  go_upto_region 3 with (first | ((with_reducible refine gate_dst (N := 3) rfl ?_); (try (refine gate_guard (by rfl) ?_; dsimp only)); refine bx_ 3 #[.bool a1_0, .bool a1_1, .int .u64 a1_2, .int .u64 a1_3, .int .u64 a1_4, .int .u64 a1_5, .int .u64 a1_6, .int .u64 a1_7, .int .i64 a1_8] 34 ?_; intro gb167 hg w5 hbox hb; have BK167 := ak_ hbox; have GW167 := ak_ (gs_ hg HB); have GE167 := ak_ (gs_ hg HB); replace HB := ak_ (bt_ (bl_ HB) hb); clear hb hbox hg) | ((with_reducible refine gate_callee (f := 34) rfl ?_); refine gl_ (some 8) func34 #[.slice A0 l0.length c0] ?_; (with_reducible refine (term_Check.calls _ _ l0 t168 _ ?side1 ?side2 A3.out).mono ?_); (case side1 => repeat (first | exact (Kd.C_below HR0.out HB.out) | (with_reducible refine Kd.C_alloc ?_ _) | (with_reducible refine Kd.C_drewN ?_ _) | (with_reducible refine Kd.C_drew ?_))); (case side2 => exact HC0.out); rintro e w6 ⟨rfl, hb⟩; refine ⟨_, rfl, ?_⟩; replace BK167 := ak_ (kb_ (kl_ BK167) hb); replace HB := ak_ (bt_ (bw1_ HB GE167) hb); (try clear hb); (try clear hk); obtain ⟨hcz7_0, hcz7_1, hcz7_2, hcz7_3, hcz7_4, hcz7_5, hcz7_6, hcz7_7, hcz7_8, hfz7_0, hfz7_1, hfz7_2, hfz7_3, hfz7_4, hfz7_5, hfz7_6, hfz7_7, hfz7_8⟩ := kc9_ BK167.out) | ((with_reducible refine gate_dst (N := 6) rfl ?_); (try (refine gate_guard (by rfl) ?_; dsimp only)); refine bx_ 6 #[.bool false, .bool false, .int .u64 0, .int .u64 0, .int .u64 0, .int .u64 0, .int .u64 0, .int .u64 0, .int .i64 0] 34 ?_; intro gb169 hg w8 hbox hb; have BK169 := ak_ hbox; have GW169 := ak_ (gw1_ HB GE167 hg); have GE169 := ak_ (gw1_ HB GE167 hg); replace HB := ak_ (bt_ (bw1_ HB GE167) hb); have NB167_169 := ak_ (nl_ hg BK167); have NB169_167 := ak_ (nr_ hg BK167); replace BK167 := ak_ (kb_ (kl_ BK167) hb); clear hb hbox hg; have hnb9 := NB169_167.out; have hnc9 := NB167_169.out; obtain ⟨hcz10_0, hcz10_1, hcz10_2, hcz10_3, hcz10_4, hcz10_5, hcz10_6, hcz10_7, hcz10_8, hfz10_0, hfz10_1, hfz10_2, hfz10_3, hfz10_4, hfz10_5, hfz10_6, hfz10_7, hfz10_8⟩ := kc9_ BK169.out))
  (try simp only [Act.put, setIfInBounds_toArray, set_cons_zero, set_cons_succ])
  go_cut [12] (fun v12 wc => ∃ (kq : Nat) (x12_3 : Bool), v12 = .bool x12_3 ∧ Aside0 (value_Check.j0 kq t168 x12_3 a1_0 a1_1 a1_2 a1_3 a1_4 a1_5 a1_6 a1_7 a1_8 false false a1_2 a1_3 0 0 0 0 0 = some r) ∧ Aside0 (kq ≤ k) ∧ Aside0 (wc.heap[gb167]? = some (.cells #[.bool a1_0, .bool a1_1, .int .u64 a1_2, .int .u64 a1_3, .int .u64 a1_4, .int .u64 a1_5, .int .u64 a1_6, .int .u64 a1_7, .int .i64 a1_8] 34 (0, 0))) ∧ Aside0 (wc.heap[gb169]? = some (.cells #[.bool false, .bool false, .int .u64 a1_2, .int .u64 a1_3, .int .u64 0, .int .u64 0, .int .u64 0, .int .u64 0, .int .i64 0] 34 (0, 0))) ∧ Aside0 (Below w.heap.size w wc))
  case first =>
   have H := HC4.out
   clear HC4
   by_cases c11 : a1_0 = true
   ·subst c11
    have H1 : (if a1_8 ≥ 0 then (value_Check.j0 k t168 (decide (a1_8 < (l0.length : Int))) true a1_1 a1_2 a1_3 a1_4 a1_5 a1_6 a1_7 a1_8 false false a1_2 a1_3 0 0 0 0 0) else (value_Check.j0 k t168 false true a1_1 a1_2 a1_3 a1_4 a1_5 a1_6 a1_7 a1_8 false false a1_2 a1_3 0 0 0 0 0)) = some r := by rw [if_pos rfl] at H; exact H
    clear H
    have H := H1
    clear H1
    by_cases c12 : a1_8 ≥ 0
    ·rw [if_pos c12] at H
     have c12b0 : decide (0 ≤ a1_8) = true := decide_eq_true c12
     clear c12
     (first | rw [c12b0] | (simp only [i64_w, i32_w]; rw [c12b0]) | skip)
     have H' := ak_ H
     clear H
     have hnb13 := NB167_169.out
     have hnc13 := NB169_167.out
     obtain ⟨hcz14_0, hcz14_1, hcz14_2, hcz14_3, hcz14_4, hcz14_5, hcz14_6, hcz14_7, hcz14_8, hfz14_0, hfz14_1, hfz14_2, hfz14_3, hfz14_4, hfz14_5, hfz14_6, hfz14_7, hfz14_8⟩ := kc9_ BK167.out
     go_wp2
     go_wp2
     go_meet
     case rel => exact ⟨_, (decide (a1_8 < (l0.length : Int))), rf_, H', ⟨by first | omega | exact Nat.le_refl _⟩, ⟨by (with_reducible repeat (first | refine kn_ ?_ _ | refine kd_ ?_ | refine ka_ ?_ _)); (iterate 9 refine blk_far ?_ NB167_169.out _); exact BK167.out⟩, ⟨by (with_reducible repeat (first | refine kn_ ?_ _ | refine kd_ ?_ | refine ka_ ?_ _)); exact sC_blk BK169.out rfl rfl⟩, ⟨bw2_ HB GE167 GE169⟩⟩
    ·rw [if_neg c12] at H
     have c12b0 : decide (0 ≤ a1_8) = false := decide_eq_false c12
     clear c12
     (first | rw [c12b0] | (simp only [i64_w, i32_w]; rw [c12b0]) | skip)
     have H' := ak_ H
     clear H
     have hnb15 := NB167_169.out
     have hnc15 := NB169_167.out
     obtain ⟨hcz16_0, hcz16_1, hcz16_2, hcz16_3, hcz16_4, hcz16_5, hcz16_6, hcz16_7, hcz16_8, hfz16_0, hfz16_1, hfz16_2, hfz16_3, hfz16_4, hfz16_5, hfz16_6, hfz16_7, hfz16_8⟩ := kc9_ BK167.out
     go_wp2
     go_wp2
     go_meet
     case rel => exact ⟨_, (false), rf_, H', ⟨by first | omega | exact Nat.le_refl _⟩, ⟨by (with_reducible repeat (first | refine kn_ ?_ _ | refine kd_ ?_ | refine ka_ ?_ _)); (iterate 9 refine blk_far ?_ NB167_169.out _); exact BK167.out⟩, ⟨by (with_reducible repeat (first | refine kn_ ?_ _ | refine kd_ ?_ | refine ka_ ?_ _)); exact sC_blk BK169.out rfl rfl⟩, ⟨bw2_ HB GE167 GE169⟩⟩
   ·replace c11 := Bool.eq_false_iff.mpr c11
    subst c11
    have H1 : (value_Check.j0 k t168 false false a1_1 a1_2 a1_3 a1_4 a1_5 a1_6 a1_7 a1_8 false false a1_2 a1_3 0 0 0 0 0) = some r := by rw [if_neg (show ¬ (false = true) by decide)] at H; exact H
    clear H
    have H := H1
    clear H1
    have H' := ak_ H
    clear H
    have hnb17 := NB167_169.out
    have hnc17 := NB169_167.out
    obtain ⟨hcz18_0, hcz18_1, hcz18_2, hcz18_3, hcz18_4, hcz18_5, hcz18_6, hcz18_7, hcz18_8, hfz18_0, hfz18_1, hfz18_2, hfz18_3, hfz18_4, hfz18_5, hfz18_6, hfz18_7, hfz18_8⟩ := kc9_ BK167.out
    go_wp2
    go_wp2
    go_meet
    case rel => exact ⟨_, (false), rf_, H', ⟨by first | omega | exact Nat.le_refl _⟩, ⟨by (with_reducible repeat (first | refine kn_ ?_ _ | refine kd_ ?_ | refine ka_ ?_ _)); (iterate 9 refine blk_far ?_ NB167_169.out _); exact BK167.out⟩, ⟨by (with_reducible repeat (first | refine kn_ ?_ _ | refine kd_ ?_ | refine ka_ ?_ _)); exact sC_blk BK169.out rfl rfl⟩, ⟨bw2_ HB GE167 GE169⟩⟩
  case rest =>
   clear HC4
   try clear c1
   try clear p2
   try clear c3
   try clear c5
   try clear c9
   try clear c11
   try clear c12
   try clear c12b0
   try clear c13
   try clear c15
   try clear c17
   try clear hcz10_0 hcz10_1 hcz10_2 hcz10_3 hcz10_4 hcz10_5 hcz10_6 hcz10_7 hcz10_8
   try clear hcz14_0 hcz14_1 hcz14_2 hcz14_3 hcz14_4 hcz14_5 hcz14_6 hcz14_7 hcz14_8
   try clear hcz16_0 hcz16_1 hcz16_2 hcz16_3 hcz16_4 hcz16_5 hcz16_6 hcz16_7 hcz16_8
   try clear hcz18_0 hcz18_1 hcz18_2 hcz18_3 hcz18_4 hcz18_5 hcz18_6 hcz18_7 hcz18_8
   try clear hcz7_0 hcz7_1 hcz7_2 hcz7_3 hcz7_4 hcz7_5 hcz7_6 hcz7_7 hcz7_8
   try clear hfz10_0 hfz10_1 hfz10_2 hfz10_3 hfz10_4 hfz10_5 hfz10_6 hfz10_7 hfz10_8
   try clear hfz14_0 hfz14_1 hfz14_2 hfz14_3 hfz14_4 hfz14_5 hfz14_6 hfz14_7 hfz14_8
   try clear hfz16_0 hfz16_1 hfz16_2 hfz16_3 hfz16_4 hfz16_5 hfz16_6 hfz16_7 hfz16_8
   try clear hfz18_0 hfz18_1 hfz18_2 hfz18_3 hfz18_4 hfz18_5 hfz18_6 hfz18_7 hfz18_8
   try clear hfz7_0 hfz7_1 hfz7_2 hfz7_3 hfz7_4 hfz7_5 hfz7_6 hfz7_7 hfz7_8
   obtain ⟨kq, x12_3, rfl, HA, HJ3, BK167, BK169, HB⟩ := hcut
   cases kq with
   | zero => exact absurd HA.out (by simp [value_Check.j0])
   | succ kj3 =>
    have H := HA.out
    clear HA
    simp only [value_Check.j0] at H
    by_cases c19 : x12_3 = true
    ·subst c19
     have H1 : (if t168 = 0 then (if (!a1_0 || (a1_1 || ((!(a1_2 == 0) || (!(a1_3 == 0))) || (((!(a1_4 == 0) || (!(a1_5 == 0))) || ((!(a1_6 == 0) || (!(a1_7 == 0))))))))) = true then (some 1) else (some t168)) else (some t168)) = some r := by rw [if_pos rfl] at H; exact H
     clear H
     have H := H1
     clear H1
     by_cases c20 : t168 = 0
     ·rw [if_pos c20] at H
      have c20b0 : (t168 == 0) = true := beq_iff_eq.mpr c20
      have c20b1 : (t168 != 0) = false := bne_eq_false_iff_eq.mpr c20
      clear c20
      by_cases c21 : (!a1_0 || (a1_1 || ((!(a1_2 == 0) || (!(a1_3 == 0))) || (((!(a1_4 == 0) || (!(a1_5 == 0))) || ((!(a1_6 == 0) || (!(a1_7 == 0))))))))) = true
      ·rw [if_pos c21] at H
       have c21b0 : (!a1_0 || (a1_1 || ((!(a1_2 == 0) || (!(a1_3 == 0))) || (((!(a1_4 == 0) || (!(a1_5 == 0))) || ((!(a1_6 == 0) || (!(a1_7 == 0))))))))) = true := c21
       clear c21
       obtain rfl := Option.some.inj H
       have hnb22 := NB167_169.out
       have hnc22 := NB169_167.out
       obtain ⟨hcz23_0, hcz23_1, hcz23_2, hcz23_3, hcz23_4, hcz23_5, hcz23_6, hcz23_7, hcz23_8, hfz23_0, hfz23_1, hfz23_2, hfz23_3, hfz23_4, hfz23_5, hfz23_6, hfz23_7, hfz23_8⟩ := kc9_ BK167.out
       obtain ⟨hcz24_0, hcz24_1, hcz24_2, hcz24_3, hcz24_4, hcz24_5, hcz24_6, hcz24_7, hcz24_8, hfz24_0, hfz24_1, hfz24_2, hfz24_3, hfz24_4, hfz24_5, hfz24_6, hfz24_7, hfz24_8⟩ := kc9_ BK169.out
       go_wp2
       go_wp2
       go_ret
       exact ea_ (bw2_ HB GE167 GE169)
      ·rw [if_neg c21] at H
       have c21b0 : (!a1_0 || (a1_1 || ((!(a1_2 == 0) || (!(a1_3 == 0))) || (((!(a1_4 == 0) || (!(a1_5 == 0))) || ((!(a1_6 == 0) || (!(a1_7 == 0))))))))) = false := by simpa using c21
       clear c21
       obtain rfl := Option.some.inj H
       have hnb25 := NB167_169.out
       have hnc25 := NB169_167.out
       obtain ⟨hcz26_0, hcz26_1, hcz26_2, hcz26_3, hcz26_4, hcz26_5, hcz26_6, hcz26_7, hcz26_8, hfz26_0, hfz26_1, hfz26_2, hfz26_3, hfz26_4, hfz26_5, hfz26_6, hfz26_7, hfz26_8⟩ := kc9_ BK167.out
       obtain ⟨hcz27_0, hcz27_1, hcz27_2, hcz27_3, hcz27_4, hcz27_5, hcz27_6, hcz27_7, hcz27_8, hfz27_0, hfz27_1, hfz27_2, hfz27_3, hfz27_4, hfz27_5, hfz27_6, hfz27_7, hfz27_8⟩ := kc9_ BK169.out
       go_wp2
       go_wp2
       go_ret
       exact ea_ (bw2_ HB GE167 GE169)
     ·rw [if_neg c20] at H
      have c20b0 : (t168 == 0) = false := beq_eq_false_iff_ne.mpr c20
      have c20b1 : (t168 != 0) = true := bne_iff_ne.mpr c20
      obtain rfl := Option.some.inj H
      have hnb28 := NB167_169.out
      have hnc28 := NB169_167.out
      obtain ⟨hcz29_0, hcz29_1, hcz29_2, hcz29_3, hcz29_4, hcz29_5, hcz29_6, hcz29_7, hcz29_8, hfz29_0, hfz29_1, hfz29_2, hfz29_3, hfz29_4, hfz29_5, hfz29_6, hfz29_7, hfz29_8⟩ := kc9_ BK167.out
      obtain ⟨hcz30_0, hcz30_1, hcz30_2, hcz30_3, hcz30_4, hcz30_5, hcz30_6, hcz30_7, hcz30_8, hfz30_0, hfz30_1, hfz30_2, hfz30_3, hfz30_4, hfz30_5, hfz30_6, hfz30_7, hfz30_8⟩ := kc9_ BK169.out
      go_wp2
      go_wp2
      go_ret
      exact ea_ (bw2_ HB GE167 GE169)
    ·replace c19 := Bool.eq_false_iff.mpr c19
     subst c19
     have H1 : (if a1_1 = true then (if t168 = 0 then (if (a1_0 || (!a1_1 || ((!(a1_2 == 0) || (!(a1_3 == 0))) || (!(a1_8 == 0))))) = true then (some 1) else (some t168)) else (some t168)) else (if t168 = 0 then (if (!(a1_0 == false) || (!(a1_1 == false) || ((!(a1_2 == a1_2) || (!(a1_3 == a1_3))) || (((!(a1_4 == 0) || (!(a1_5 == 0))) || ((!(a1_6 == 0) || (!(a1_7 == 0))))) || (!(a1_8 == 0)))))) = true then (some 1) else (some t168)) else (some t168))) = some r := by rw [if_neg (show ¬ (false = true) by decide)] at H; exact H
     clear H
     have H := H1
     clear H1
     by_cases c31 : a1_1 = true
     ·subst c31
      have H1 : (if t168 = 0 then (if (a1_0 || (!true || ((!(a1_2 == 0) || (!(a1_3 == 0))) || (!(a1_8 == 0))))) = true then (some 1) else (some t168)) else (some t168)) = some r := by rw [if_pos rfl] at H; exact H
      clear H
      have H := H1
      clear H1
      by_cases c32 : t168 = 0
      ·rw [if_pos c32] at H
       have c32b0 : (t168 == 0) = true := beq_iff_eq.mpr c32
       have c32b1 : (t168 != 0) = false := bne_eq_false_iff_eq.mpr c32
       clear c32
       by_cases c33 : (a1_0 || (!true || ((!(a1_2 == 0) || (!(a1_3 == 0))) || (!(a1_8 == 0))))) = true
       ·rw [if_pos c33] at H
        have c33b0 : (a1_0 || (!true || ((!(a1_2 == 0) || (!(a1_3 == 0))) || (!(a1_8 == 0))))) = true := c33
        simp only [Bool.not_true, Bool.not_false, Bool.false_or, Bool.true_or, beq_self_eq_true, beq_false, beq_true, Bool.not_not] at c33b0
        clear c33
        obtain rfl := Option.some.inj H
        have hnb34 := NB167_169.out
        have hnc34 := NB169_167.out
        obtain ⟨hcz35_0, hcz35_1, hcz35_2, hcz35_3, hcz35_4, hcz35_5, hcz35_6, hcz35_7, hcz35_8, hfz35_0, hfz35_1, hfz35_2, hfz35_3, hfz35_4, hfz35_5, hfz35_6, hfz35_7, hfz35_8⟩ := kc9_ BK167.out
        obtain ⟨hcz36_0, hcz36_1, hcz36_2, hcz36_3, hcz36_4, hcz36_5, hcz36_6, hcz36_7, hcz36_8, hfz36_0, hfz36_1, hfz36_2, hfz36_3, hfz36_4, hfz36_5, hfz36_6, hfz36_7, hfz36_8⟩ := kc9_ BK169.out
        go_wp2
        go_wp2
        go_ret
        exact ea_ (bw2_ HB GE167 GE169)
       ·rw [if_neg c33] at H
        have c33b0 : (a1_0 || (!true || ((!(a1_2 == 0) || (!(a1_3 == 0))) || (!(a1_8 == 0))))) = false := by simpa using c33
        simp only [Bool.not_true, Bool.not_false, Bool.false_or, Bool.true_or, beq_self_eq_true, beq_false, beq_true, Bool.not_not] at c33b0
        clear c33
        obtain rfl := Option.some.inj H
        have hnb37 := NB167_169.out
        have hnc37 := NB169_167.out
        obtain ⟨hcz38_0, hcz38_1, hcz38_2, hcz38_3, hcz38_4, hcz38_5, hcz38_6, hcz38_7, hcz38_8, hfz38_0, hfz38_1, hfz38_2, hfz38_3, hfz38_4, hfz38_5, hfz38_6, hfz38_7, hfz38_8⟩ := kc9_ BK167.out
        obtain ⟨hcz39_0, hcz39_1, hcz39_2, hcz39_3, hcz39_4, hcz39_5, hcz39_6, hcz39_7, hcz39_8, hfz39_0, hfz39_1, hfz39_2, hfz39_3, hfz39_4, hfz39_5, hfz39_6, hfz39_7, hfz39_8⟩ := kc9_ BK169.out
        go_wp2
        go_wp2
        go_ret
        exact ea_ (bw2_ HB GE167 GE169)
      ·rw [if_neg c32] at H
       have c32b0 : (t168 == 0) = false := beq_eq_false_iff_ne.mpr c32
       have c32b1 : (t168 != 0) = true := bne_iff_ne.mpr c32
       obtain rfl := Option.some.inj H
       have hnb40 := NB167_169.out
       have hnc40 := NB169_167.out
       obtain ⟨hcz41_0, hcz41_1, hcz41_2, hcz41_3, hcz41_4, hcz41_5, hcz41_6, hcz41_7, hcz41_8, hfz41_0, hfz41_1, hfz41_2, hfz41_3, hfz41_4, hfz41_5, hfz41_6, hfz41_7, hfz41_8⟩ := kc9_ BK167.out
       obtain ⟨hcz42_0, hcz42_1, hcz42_2, hcz42_3, hcz42_4, hcz42_5, hcz42_6, hcz42_7, hcz42_8, hfz42_0, hfz42_1, hfz42_2, hfz42_3, hfz42_4, hfz42_5, hfz42_6, hfz42_7, hfz42_8⟩ := kc9_ BK169.out
       go_wp2
       go_wp2
       go_ret
       exact ea_ (bw2_ HB GE167 GE169)
     ·replace c31 := Bool.eq_false_iff.mpr c31
      subst c31
      have H1 : (if t168 = 0 then (if (!(a1_0 == false) || (!(false == false) || ((!(a1_2 == a1_2) || (!(a1_3 == a1_3))) || (((!(a1_4 == 0) || (!(a1_5 == 0))) || ((!(a1_6 == 0) || (!(a1_7 == 0))))) || (!(a1_8 == 0)))))) = true then (some 1) else (some t168)) else (some t168)) = some r := by rw [if_neg (show ¬ (false = true) by decide)] at H; exact H
      clear H
      have H := H1
      clear H1
      by_cases c43 : t168 = 0
      ·rw [if_pos c43] at H
       have c43b0 : (t168 == 0) = true := beq_iff_eq.mpr c43
       have c43b1 : (t168 != 0) = false := bne_eq_false_iff_eq.mpr c43
       clear c43
       by_cases c44 : (!(a1_0 == false) || (!(false == false) || ((!(a1_2 == a1_2) || (!(a1_3 == a1_3))) || (((!(a1_4 == 0) || (!(a1_5 == 0))) || ((!(a1_6 == 0) || (!(a1_7 == 0))))) || (!(a1_8 == 0)))))) = true
       ·rw [if_pos c44] at H
        have c44b0 : (!(a1_0 == false) || (!(false == false) || ((!(a1_2 == a1_2) || (!(a1_3 == a1_3))) || (((!(a1_4 == 0) || (!(a1_5 == 0))) || ((!(a1_6 == 0) || (!(a1_7 == 0))))) || (!(a1_8 == 0)))))) = true := c44
        simp only [Bool.not_true, Bool.not_false, Bool.false_or, Bool.true_or, beq_self_eq_true, beq_false, beq_true, Bool.not_not] at c44b0
        clear c44
        obtain rfl := Option.some.inj H
        have hnb45 := NB167_169.out
        have hnc45 := NB169_167.out
        obtain ⟨hcz46_0, hcz46_1, hcz46_2, hcz46_3, hcz46_4, hcz46_5, hcz46_6, hcz46_7, hcz46_8, hfz46_0, hfz46_1, hfz46_2, hfz46_3, hfz46_4, hfz46_5, hfz46_6, hfz46_7, hfz46_8⟩ := kc9_ BK167.out
        obtain ⟨hcz47_0, hcz47_1, hcz47_2, hcz47_3, hcz47_4, hcz47_5, hcz47_6, hcz47_7, hcz47_8, hfz47_0, hfz47_1, hfz47_2, hfz47_3, hfz47_4, hfz47_5, hfz47_6, hfz47_7, hfz47_8⟩ := kc9_ BK169.out
        go_wp2
        go_wp2
        go_ret
        exact ea_ (bw2_ HB GE167 GE169)
       ·rw [if_neg c44] at H
        have c44b0 : (!(a1_0 == false) || (!(false == false) || ((!(a1_2 == a1_2) || (!(a1_3 == a1_3))) || (((!(a1_4 == 0) || (!(a1_5 == 0))) || ((!(a1_6 == 0) || (!(a1_7 == 0))))) || (!(a1_8 == 0)))))) = false := by simpa using c44
        simp only [Bool.not_true, Bool.not_false, Bool.false_or, Bool.true_or, beq_self_eq_true, beq_false, beq_true, Bool.not_not] at c44b0
        clear c44
        obtain rfl := Option.some.inj H
        have hnb48 := NB167_169.out
        have hnc48 := NB169_167.out
        obtain ⟨hcz49_0, hcz49_1, hcz49_2, hcz49_3, hcz49_4, hcz49_5, hcz49_6, hcz49_7, hcz49_8, hfz49_0, hfz49_1, hfz49_2, hfz49_3, hfz49_4, hfz49_5, hfz49_6, hfz49_7, hfz49_8⟩ := kc9_ BK167.out
        obtain ⟨hcz50_0, hcz50_1, hcz50_2, hcz50_3, hcz50_4, hcz50_5, hcz50_6, hcz50_7, hcz50_8, hfz50_0, hfz50_1, hfz50_2, hfz50_3, hfz50_4, hfz50_5, hfz50_6, hfz50_7, hfz50_8⟩ := kc9_ BK169.out
        go_wp2
        go_wp2
        go_ret
        exact ea_ (bw2_ HB GE167 GE169)
      ·rw [if_neg c43] at H
       have c43b0 : (t168 == 0) = false := beq_eq_false_iff_ne.mpr c43
       have c43b1 : (t168 != 0) = true := bne_iff_ne.mpr c43
       obtain rfl := Option.some.inj H
       have hnb51 := NB167_169.out
       have hnc51 := NB169_167.out
       obtain ⟨hcz52_0, hcz52_1, hcz52_2, hcz52_3, hcz52_4, hcz52_5, hcz52_6, hcz52_7, hcz52_8, hfz52_0, hfz52_1, hfz52_2, hfz52_3, hfz52_4, hfz52_5, hfz52_6, hfz52_7, hfz52_8⟩ := kc9_ BK167.out
       go_wp2
       go_wp2
       go_ret
       exact ea_ (bw2_ HB GE167 GE169)
structure LbBut (g : Nat) (w w' : World) : Prop where
  os : w'.os = w.os
  tape : w'.tape = w.tape
  output : w'.output = w.output
  size : w.heap.size ≤ w'.heap.size
  block : ∀ k, k < w.heap.size → k ≠ g → w'.heap[k]? = w.heap[k]?
theorem LbBut.refl (g : Nat) (w : World) : LbBut g w w := ⟨rfl, rfl, rfl, Nat.le_refl _, fun _ _ _ => rfl⟩
theorem LbBut.trans {g : Nat} {a b c : World} (h : LbBut g a b) (k : LbBut g b c) : LbBut g a c :=
  ⟨k.os.trans h.os, k.tape.trans h.tape, k.output.trans h.output, Nat.le_trans h.size k.size, fun i hi hn => (k.block i (Nat.lt_of_lt_of_le hi h.size) hn).trans (h.block i hi hn)⟩
theorem LbBut.of {g : Nat} {a b : World} (h : Below a.heap.size a b) : LbBut g a b := ⟨h.os, h.tape, h.output, h.size, fun k hk _ => h.block k hk⟩
theorem LbBut.set (g i : Nat) (w : World) (u : Value) : LbBut g w (w.setCell ⟨g, i, none⟩ u) :=
  ⟨rfl, rfl, rfl, by simp [World.setCell], fun k _ hn => Below.heap_setCell w _ u k hn⟩
theorem LbBut.drew {g : Nat} {a b : World} (h : LbBut g a b) : LbBut g a b.drew := ⟨h.os, h.tape, h.output, h.size, h.block⟩
theorem LbBut.below {g B : Nat} {a b : World} (h : LbBut g a b) (hg : B ≤ g) (hB : B ≤ a.heap.size) : Below B a b :=
  ⟨h.os, h.tape, h.output, h.size, fun k hk => h.block k (Nat.lt_of_lt_of_le hk hB) (by omega)⟩
theorem lb_R {w : World} {base : Nat} {v : Value} {l : List S45} {g B : Nat} (h : Kd.R k45 45 w base (fun _ => True) v l) (hg : g < base) (hB : B ≤ base) : ∃ A c, v = .slice A l.length c ∧ Kd.R k45 45 w B (fun k => k ≠ g) (.slice A l.length c) l := by
  obtain ⟨A, c, rfl⟩ := Kd.R_slice h
  exact ⟨A, c, rfl, Kd.R_lower (Kd.R_mono (Kd.R_bound h) (fun k hk => by have := hk.2.1; omega)) hB⟩
theorem lb_put9 {w : World} {g : Nat} {T : TypeId} {a0 a1 a2 a3 a4 a5 a6 a7 a8 : Value} (b0 b1 b2 b3 b4 b5 b6 b7 b8 : Value) (h : w.heap[g]? = some (.cells #[a0, a1, a2, a3, a4, a5, a6, a7, a8] T (0, 0))) : (((((((((w.setCell ⟨g, 0, none⟩ b0).setCell ⟨g, 1, none⟩ b1).setCell ⟨g, 2, none⟩ b2).setCell ⟨g, 3, none⟩ b3).setCell ⟨g, 4, none⟩ b4).setCell ⟨g, 5, none⟩ b5).setCell ⟨g, 6, none⟩ b6).setCell ⟨g, 7, none⟩ b7).setCell ⟨g, 8, none⟩ b8).heap[g]? = some (.cells #[b0, b1, b2, b3, b4, b5, b6, b7, b8] T (0, 0)) :=
  blk_put (cs' := #[b0, b1, b2, b3, b4, b5, b6, b7, b8]) (blk_put (cs' := #[b0, b1, b2, b3, b4, b5, b6, b7, a8]) (blk_put (cs' := #[b0, b1, b2, b3, b4, b5, b6, a7, a8]) (blk_put (cs' := #[b0, b1, b2, b3, b4, b5, a6, a7, a8]) (blk_put (cs' := #[b0, b1, b2, b3, b4, a5, a6, a7, a8]) (blk_put (cs' := #[b0, b1, b2, b3, a4, a5, a6, a7, a8]) (blk_put (cs' := #[b0, b1, b2, a3, a4, a5, a6, a7, a8]) (blk_put (cs' := #[b0, b1, a2, a3, a4, a5, a6, a7, a8]) (blk_put (cs' := #[b0, a1, a2, a3, a4, a5, a6, a7, a8]) h 0 b0 rfl) 1 b1 rfl) 2 b2 rfl) 3 b3 rfl) 4 b4 rfl) 5 b5 rfl) 6 b6 rfl) 7 b7 rfl) 8 b8 rfl
theorem lb_but9 (w : World) (g : Nat) (b0 b1 b2 b3 b4 b5 b6 b7 b8 : Value) : LbBut g w (((((((((w.setCell ⟨g, 0, none⟩ b0).setCell ⟨g, 1, none⟩ b1).setCell ⟨g, 2, none⟩ b2).setCell ⟨g, 3, none⟩ b3).setCell ⟨g, 4, none⟩ b4).setCell ⟨g, 5, none⟩ b5).setCell ⟨g, 6, none⟩ b6).setCell ⟨g, 7, none⟩ b7).setCell ⟨g, 8, none⟩ b8) :=
  ((((((((LbBut.set g 0 w b0).trans (LbBut.set g 1 _ b1)).trans (LbBut.set g 2 _ b2)).trans (LbBut.set g 3 _ b3)).trans (LbBut.set g 4 _ b4)).trans (LbBut.set g 5 _ b5)).trans (LbBut.set g 6 _ b6)).trans (LbBut.set g 7 _ b7)).trans (LbBut.set g 8 _ b8)
def Wk (B : Nat) (w : World) (g : Nat) (l : List S45) (v : S34) (e : Int) : Prop :=
  B ≤ g ∧ ∃ (A : Option Addr) (c : Nat), w.heap[g]? = some (.cells #[.slice A l.length c, .bool v.f0, .bool v.f1, .int .u64 v.f2.f0, .int .u64 v.f2.f1, .int .u64 v.f3.f0.f0, .int .u64 v.f3.f0.f1, .int .u64 v.f3.f1.f0, .int .u64 v.f3.f1.f1, .int .i64 v.f4, .int .i64 e] 88 (0, 0)) ∧ Kd.R k45 45 w B (fun k => k ≠ g) (.slice A l.length c) l
theorem Wk.below {B : Nat} {w w' : World} {g : Nat} {l : List S45} {v : S34} {e : Int} (h : Wk B w g l v e) (hb : Below w.heap.size w w') : Wk B w' g l v e := by
  obtain ⟨hB, A, c, h1, h2⟩ := h
  exact ⟨hB, A, c, kb_ h1 hb, Kd.R_below h2 hb⟩
theorem Wk.lt {B : Nat} {w : World} {g : Nat} {l : List S45} {v : S34} {e : Int} (h : Wk B w g l v e) : g < w.heap.size := by
  obtain ⟨_, A, c, h1, _⟩ := h
  exact blk_lt h1
theorem lb_fin {w8 w9 : World} {g3 g B base : Nat} {v : Value} {l : List S45} (hR : Kd.R k45 45 w8 B (fun k => k ≠ g) v l) (hlt : g3 < B) (hb : LbBut g3 w8 w9) (hBase : base ≤ B) : Kd.R k45 45 w9 base (fun _ => True) v l :=
  Kd.R_lower (Kd.R_mono (Kd.R_step (Kd.R_mono (Kd.R_bound hR) (fun k hk => show k ≠ g3 by have := hk.2.1; omega)) (fun k ho hk => hb.block k hk ho)) (fun _ _ => trivial)) hBase
def api_Term.f (l0 : List S45) : Option (List S45) := if l0.length < 1759218604441 then some l0 else none
set_option maxHeartbeats 8000000 in
set_option maxRecDepth 100000 in
theorem api_Term.calls (A0 : Option Addr) (c0 : Nat) (l0 : List S45) (r : List S45) (w : World) (hr0 : Kd.C k45 w A0 l0.length l0) (hc0 : l0.length ≤ c0) (h : api_Term.f l0 = some r) :
   Calls Try.prog 76 #[.slice A0 l0.length c0] w fun e w' => ∃ v0_ : Value, e = .returned (v0_) ∧ Kd.R k45 45 w' w.heap.size (fun _ => True) v0_ r ∧ Below w.heap.size w w' := by
  have hl : l0.length < 1759218604441 := by
   by_cases c : l0.length < 1759218604441
   ·exact c
   ·simp [api_Term.f, c] at h
  obtain rfl : l0 = r := by simpa [api_Term.f, hl] using h
  clear h
  have q22 : ∀ (w : World) (a : Option Addr) (n c n' c' : Nat), (binOp .eql 27 (.slice a n c) (.slice none n' c')).run Try.prog w = .ok (.bool a.isNone) w := fun w a n c n' c' => Lib.run_eql_slice_nil w _ _ a n c n' c' underlying27
  cases A0 with
  | none =>
   have h0 : l0 = [] := by
    apply List.length_eq_zero_iff.1
    by_cases hz : 0 < l0.length
    ·obtain ⟨_, h, _⟩ := hr0.2.2 hz
     cases h
    ·omega
   subst h0
   clear hr0
   have i0 : (none : Option Addr).isNone = true := rfl
   go_enter func76, ntmps76
   go_wp2
   go_ret
   exact ⟨_, rfl, Kd.R_nil _ _ _ _ _, Below.refl _ _⟩
  | some ad =>
   have HR0 := ak_ hr0
   clear hr0
   have hR0 : Kd.R k45 45 (w.alloc (.cells #[] 45)) w.heap.size (fun _ => True) (.slice (some ⟨w.heap.size, 0, none⟩) 0 0) [] := ⟨fun _ _ => trivial, [], (by have h := World.ownsRow_lit (base := w.heap.size) (e := 45) (size := 3) w #[] 0 (Nat.le_refl _) (by simp only [maxLen]; omega) rfl; exact h), ⟨rfl, fun i p hi => by simp at hi⟩⟩
   have i0 : (some ad : Option Addr).isNone = false := rfl
   go_enter func76, ntmps76
   go_wp2_with (first | (at_builtin; refine Kd.R_append_rows k45 (w0 := w) w.heap.size rfl (.tmp 5) (.tmp 6) 27 45 (.agg #[.int .i64 0, .int .i64 0, .int .i64 0]) 24 rfl underlying27 info45 rfl (by decide) (by omega) (.slice (some ⟨w.heap.size, 0, none⟩) 0 0) [] l0 _ _ _ (fun _ => True) (fun _ => False) rfl rfl hR0 (Kd.C_alloc HR0.out _) (fun x cs h => by obtain rfl := k45_open h; exact k45_mkM _ _ _ x) (fun _ h => h.elim) (fun _ _ => trivial) (ba_ (Below.refl _ _) _) (by simp) (by simp; omega) ?_; intro v1 w1 ho hb hg hat; clear hg hat; have HO := ak_ ho; have HB := ak_ hb; clear ho hb))
   go_ret
   exact ⟨_, rfl, HO.out, HB.out⟩
theorem lb_Clone (A0 : Option Addr) (c0 : Nat) (l0 : List S45) (w : World) (hr0 : Kd.C k45 w A0 l0.length l0) (hc0 : l0.length ≤ c0) (h : l0.length < 1759218604441) :
   Calls Try.prog 76 #[.slice A0 l0.length c0] w fun e w' => ∃ v0_ : Value, e = .returned (v0_) ∧ Kd.R k45 45 w' w.heap.size (fun _ => True) v0_ l0 ∧ Below w.heap.size w w' := api_Term.calls A0 c0 l0 l0 w hr0 hc0 (by simp [api_Term.f, h])
def label_start.f (k : Nat) (l : List S45) (v : S34) : Option Int := if l.length < 1759218604441 then ((value_Check.f k l v.f0 v.f1 v.f2.f0 v.f2.f1 v.f3.f0.f0 v.f3.f0.f1 v.f3.f1.f0 v.f3.f1.f1 v.f4).bind fun ec => if ec = 0 then (if v.f1 = true then some 1 else if v.f0 = true then (if 0 ≤ v.f4 ∧ v.f4 < (l.length : Int) then some (if (rd_T45 l v.f4).f0 = 5 then 1 else 0) else none) else some 0) else some ec) else none
def label_start.T1 : Bool × List (List Nat × List Nat) := (true, [([], []), ([], []), ([], []), ([], []), ([2, 3], [2, 3]), ([0, 1, 4], [0, 1, 4]), ([5], [5]), ([6, 4, 0, 1, 2, 3, 4, 5, 6], [6])])
def label_start.B1 : List Nat := [0, 0, 0, 0, 12, 31, 63, 127]
theorem label_start.tab1 : rtab .any (opsOf Try.f44 1) = label_start.T1 := by kernel_rfl
theorem label_start.bits1 : waitsOk label_start.T1.2 label_start.B1 = true := by kernel_rfl
theorem label_start.mono : ∀ l v k, LeO (label_start.f k l v) (label_start.f (k + 1) l v) := by
  intro l v k
  unfold label_start.f
  repeat' first | (with_reducible first | exact value_Check.mono .. | exact LeO.refl _ | exact LeO.none _ | refine LeO.ite ?_ ?_ | refine LeO.bind ?_ (fun _ => ?_))
set_option maxHeartbeats 8000000 in
set_option maxRecDepth 100000 in
theorem label_start.calls (k : Nat) (l : List S45) (v : S34) (e : Int) (A : Option Addr) (c : Nat) (w : World) (hr : Kd.C k45 w A l.length l) (hc : l.length ≤ c) (hs : label_start.f k l v = some e) :
   Calls Try.prog 44 #[.slice A l.length c, .agg #[.bool v.f0, .bool v.f1, .int .u64 v.f2.f0, .int .u64 v.f2.f1, .int .u64 v.f3.f0.f0, .int .u64 v.f3.f0.f1, .int .u64 v.f3.f1.f0, .int .u64 v.f3.f1.f1, .int .i64 v.f4]] w fun r w' => ∃ g : Nat, r = .returned (.pointer (some ⟨g, 0, none⟩)) ∧ Wk w.heap.size w' g l v e ∧ Below w.heap.size w w' := by
  have hu_v := underlying34
  unfold label_start.f at hs
  have hcl : l.length < 1759218604441 := by
   by_cases c : l.length < 1759218604441
   ·exact c
   ·rw [if_neg c] at hs
    exact absurd hs (by simp)
  rw [if_pos hcl] at hs
  have HCL := ak_ hcl
  clear hcl
  obtain ⟨ec, hv, hs1⟩ := bind_eq_some_iff.mp hs
  have HV := ak_ hv
  have HS := ak_ hs1
  have HC := ak_ hr
  have HL := ak_ hc
  have HB := ak_ (Below.refl w.heap.size w)
  clear hv hs hs1 hr hc
  go_enter func44, ntmps44
  go_wp2_with (first | ((with_reducible refine gate_dst (N := 3) rfl ?_); refine bx_ 3 #[.bool v.f0, .bool v.f1, .int .u64 v.f2.f0, .int .u64 v.f2.f1, .int .u64 v.f3.f0.f0, .int .u64 v.f3.f0.f1, .int .u64 v.f3.f1.f0, .int .u64 v.f3.f1.f1, .int .i64 v.f4] 34 ?_; intro gs hgs w1 hbox hb; have n1_ := ak_ hb; have BS := ak_ hbox; clear HB hb hbox hgs; have HB := n1_; clear n1_))
  replace BS := ak_ (kd_ BS.out)
  replace HB := ak_ (bd_ HB.out)
  refine start_ (n := 8) (S := fun w' => w'.cell? ⟨gs, 0, none⟩ = some (.bool v.f0) ∧ w'.cell? ⟨gs, 1, none⟩ = some (.bool v.f1) ∧ w'.cell? ⟨gs, 2, none⟩ = some (.int .u64 v.f2.f0) ∧ w'.cell? ⟨gs, 3, none⟩ = some (.int .u64 v.f2.f1) ∧ w'.cell? ⟨gs, 4, none⟩ = some (.int .u64 v.f3.f0.f0) ∧ w'.cell? ⟨gs, 5, none⟩ = some (.int .u64 v.f3.f0.f1) ∧ w'.cell? ⟨gs, 6, none⟩ = some (.int .u64 v.f3.f1.f0) ∧ w'.cell? ⟨gs, 7, none⟩ = some (.int .u64 v.f3.f1.f1) ∧ w'.cell? ⟨gs, 8, none⟩ = some (.int .i64 v.f4)) (ds := [6]) #[false, false, false, false, false, false, false, false] (by kernel_rfl) rfl rfl ⟨(kc_ BS.out 0).trans rfl, (kc_ BS.out 1).trans rfl, (kc_ BS.out 2).trans rfl, (kc_ BS.out 3).trans rfl, (kc_ BS.out 4).trans rfl, (kc_ BS.out 5).trans rfl, (kc_ BS.out 6).trans rfl, (kc_ BS.out 7).trans rfl, (kc_ BS.out 8).trans rfl⟩ (fun hHeld => ?_); refine with_tabW label_start.tab1 label_start.bits1 (fun HT_ HW_ => ?_)
  generalize w1.drew = w2 at BS HB hHeld ⊢
  refine pu_ HT_ 0 (some 6) #[true, false, false, false, false, false, false, false] ?_
  refine tk_ HT_ HW_ hHeld 1 (some 7) #[true, true, false, false, false, false, false, false] rfl (by rintro w' ⟨s0, s1, s2, s3, s4, s5, s6, s7, s8⟩; go_simp; with_reducible rfl) ?_
  refine pu_ HT_ 2 (some 8) #[true, true, true, false, false, false, false, false] ?_
  refine tk_ HT_ HW_ hHeld 3 (some 9) #[true, true, true, true, false, false, false, false] rfl (by rintro w' ⟨s0, s1, s2, s3, s4, s5, s6, s7, s8⟩; go_simp; with_reducible rfl) ?_
  refine one_ (i := 4) (N := some 10) #[true, true, true, true, true, false, false, false] rfl rfl (one_of HT_.out (by kernel_rfl)) (by decide) (fun K hK => ?_)
  refine gg_ func58 #[.slice A l.length c, .agg #[.bool v.f0, .bool v.f1, .int .u64 v.f2.f0, .int .u64 v.f2.f1, .int .u64 v.f3.f0.f0, .int .u64 v.f3.f0.f1, .int .u64 v.f3.f1.f0, .int .u64 v.f3.f1.f1, .int .i64 v.f4]] ?_
  refine (value_Check.calls k A c l v.f0 v.f1 v.f2.f0 v.f2.f1 v.f3.f0.f0 v.f3.f0.f1 v.f3.f1.f0 v.f3.f1.f1 v.f4 ec _ (Kd.C_below HC.out HB.out) HL.out HV.out).mono ?_
  rintro r w3 ⟨rfl, hb⟩
  refine ⟨_, rfl, ?_⟩
  replace BS := ak_ (kb_ BS.out hb)
  replace HB := ak_ (bt_ HB.out hb)
  clear hb
  refine hK.out _ _ ⟨(kc_ BS.out 0).trans rfl, (kc_ BS.out 1).trans rfl, (kc_ BS.out 2).trans rfl, (kc_ BS.out 3).trans rfl, (kc_ BS.out 4).trans rfl, (kc_ BS.out 5).trans rfl, (kc_ BS.out 6).trans rfl, (kc_ BS.out 7).trans rfl, (kc_ BS.out 8).trans rfl⟩ (fun hHeld => ?_)
  clear hK K
  refine norm_ (a' := ?_) ?_ ?_
  rotate_left
  ·show Act.put _ (some 10) _ = _
   simp only [Act.put, setIfInBounds_toArray, set_cons_zero, set_cons_succ, i64_w, i32_w]
   rfl
  refine pu_ HT_ 5 (some 11) #[true, true, true, true, true, true, false, false] ?_
  refine last_ (i := 6) (N := some 12) #[true, true, true, true, true, true, true, false] rfl rfl (one_of HT_.out (by kernel_rfl)) (by decide) (fun K hK => ?_)
  refine box_step (by rfl) (N := 12) rfl (cs := #[.slice A l.length c, .bool v.f0, .bool v.f1, .int .u64 v.f2.f0, .int .u64 v.f2.f1, .int .u64 v.f3.f0.f0, .int .u64 v.f3.f0.f1, .int .u64 v.f3.f1.f0, .int .u64 v.f3.f1.f1, .int .i64 v.f4, .int .i64 ec]) (t := 88) (by first | (go_simp; done) | (go_simp; rfl)) ?_
  intro g hgw w4 hbox hb
  have GE := ak_ (show w.heap.size ≤ g by rw [hgw]; exact bz_ HB.out)
  have BK := ak_ hbox
  replace BS := ak_ (kb_ BS.out hb)
  replace HB := ak_ (bt_ HB.out hb)
  clear hb hbox hgw
  refine hK.out _ _ ?_
  clear hK K
  refine norm_ (a' := ?_) ?_ ?_
  rotate_left
  ·show Act.put _ (some 12) _ = _
   simp only [Act.put, setIfInBounds_toArray, set_cons_zero, set_cons_succ, i64_w, i32_w]
   rfl
  refine pu_ HT_ 7 (some 5) #[true, true, true, true, true, true, true, true] ?_
  refine done_ (done_of HT_.out (by kernel_rfl)) ?_
  have hk10 : w4.cell? ⟨g, 10, none⟩ = some (.int .i64 ec) := (kc_ BK.out 10).trans rfl
  have hkf10 := kf_ BK.out 10
  have hv0 : w4.cell? ⟨gs, 0, none⟩ = some (.bool v.f0) := (kc_ BS.out 0).trans rfl
  have hv1 : w4.cell? ⟨gs, 1, none⟩ = some (.bool v.f1) := (kc_ BS.out 1).trans rfl
  have hv8 : w4.cell? ⟨gs, 8, none⟩ = some (.int .i64 v.f4) := (kc_ BS.out 8).trans rfl
  have hs := HS.out
  clear HS
  by_cases ce : ec = 0
  ·rw [if_pos ce] at hs
   subst ce
   by_cases c1 : v.f1 = true
   ·rw [if_pos c1] at hs
    obtain rfl := Option.some.inj hs
    rw [c1] at hv1
    clear hs
    go_wp2_with (first | (go_at_call 76; refine (lb_Clone A c l _ (Kd.C_below HC.out (below_set HB.out GE.out)) HL.out HCL.out).mono ?_; rintro r w5 ⟨vl, rfl, ho, hb⟩; obtain ⟨A', c', eo, hC'⟩ := lb_R (B := w.heap.size) ho (blk_lt (blk_put BK.out 10 (.int .i64 1) rfl)) (bz_ (below_set HB.out GE.out)); subst eo; have HC' := ak_ hC'; replace BK := ak_ (kb_ (blk_put BK.out 10 (.int .i64 1) rfl) hb); replace HB := ak_ (bt_ (below_set HB.out GE.out) hb); clear BS HC ho hb hC'; have hk0 : w5.cell? ⟨g, 0, none⟩ = some (.slice A l.length c) := (kc_ BK.out 0).trans rfl; have hkf0 := kf_ BK.out 0))
    go_ret
    exact ⟨g, rfl, ⟨GE.out, A', c', blk_put BK.out 0 _ rfl, Kd.R_far HC'.out (p := ⟨g, 0, none⟩) (fun _ hk => hk) _⟩, below_set HB.out GE.out⟩
   ·rw [if_neg c1] at hs
    have c1f : v.f1 = false := by simpa using c1
    rw [c1f] at hv1
    by_cases c0 : v.f0 = true
    ·rw [if_pos c0] at hs
     rw [c0] at hv0
     by_cases ci : 0 ≤ v.f4 ∧ v.f4 < (l.length : Int)
     ·rw [if_pos ci] at hs
      obtain ⟨i0, i1⟩ := ci
      obtain ⟨ad, ea, hx, hx1, hx2⟩ := at_T45 (Kd.C_below HC.out HB.out) v.f4 i0 i1
      subst ea
      have i0c := eq_true i0
      have i1c := eq_true i1
      clear i0 i1
      by_cases ck : (rd_T45 l v.f4).f0 = 5
      ·rw [if_pos ck] at hs
       obtain rfl := Option.some.inj hs
       have ckb : ((rd_T45 l v.f4).f0 == 5) = true := by simpa using ck
       clear hs
       go_wp2_with (first | (go_at_call 76; refine (lb_Clone (some ad) c l _ (Kd.C_below HC.out (below_set HB.out GE.out)) HL.out HCL.out).mono ?_; rintro r w5 ⟨vl, rfl, ho, hb⟩; obtain ⟨A', c', eo, hC'⟩ := lb_R (B := w.heap.size) ho (blk_lt (blk_put BK.out 10 (.int .i64 1) rfl)) (bz_ (below_set HB.out GE.out)); subst eo; have HC' := ak_ hC'; replace BK := ak_ (kb_ (blk_put BK.out 10 (.int .i64 1) rfl) hb); replace HB := ak_ (bt_ (below_set HB.out GE.out) hb); clear BS HC ho hb hC'; have hk0 : w5.cell? ⟨g, 0, none⟩ = some (.slice (some ad) l.length c) := (kc_ BK.out 0).trans rfl; have hkf0 := kf_ BK.out 0))
       go_ret
       exact ⟨g, rfl, ⟨GE.out, A', c', blk_put BK.out 0 _ rfl, Kd.R_far HC'.out (p := ⟨g, 0, none⟩) (fun _ hk => hk) _⟩, below_set HB.out GE.out⟩
      ·rw [if_neg ck] at hs
       obtain rfl := Option.some.inj hs
       have ckb : ((rd_T45 l v.f4).f0 == 5) = false := by simpa using ck
       clear hs
       go_wp2_with (first | (go_at_call 76; refine (lb_Clone (some ad) c l _ (Kd.C_below HC.out HB.out) HL.out HCL.out).mono ?_; rintro r w5 ⟨vl, rfl, ho, hb⟩; obtain ⟨A', c', eo, hC'⟩ := lb_R (B := w.heap.size) ho (blk_lt BK.out) (bz_ HB.out); subst eo; have HC' := ak_ hC'; replace BK := ak_ (kb_ BK.out hb); replace HB := ak_ (bt_ HB.out hb); clear BS HC ho hb hC'; have hk0 : w5.cell? ⟨g, 0, none⟩ = some (.slice (some ad) l.length c) := (kc_ BK.out 0).trans rfl; have hkf0 := kf_ BK.out 0))
       go_ret
       exact ⟨g, rfl, ⟨GE.out, A', c', blk_put BK.out 0 _ rfl, Kd.R_far HC'.out (p := ⟨g, 0, none⟩) (fun _ hk => hk) _⟩, below_set HB.out GE.out⟩
     ·rw [if_neg ci] at hs
      exact absurd hs (by simp)
    ·rw [if_neg c0] at hs
     obtain rfl := Option.some.inj hs
     have c0f : v.f0 = false := by simpa using c0
     rw [c0f] at hv0
     clear hs
     go_wp2_with (first | (go_at_call 76; refine (lb_Clone A c l _ (Kd.C_below HC.out HB.out) HL.out HCL.out).mono ?_; rintro r w5 ⟨vl, rfl, ho, hb⟩; obtain ⟨A', c', eo, hC'⟩ := lb_R (B := w.heap.size) ho (blk_lt BK.out) (bz_ HB.out); subst eo; have HC' := ak_ hC'; replace BK := ak_ (kb_ BK.out hb); replace HB := ak_ (bt_ HB.out hb); clear BS HC ho hb hC'; have hk0 : w5.cell? ⟨g, 0, none⟩ = some (.slice A l.length c) := (kc_ BK.out 0).trans rfl; have hkf0 := kf_ BK.out 0))
     go_ret
     exact ⟨g, rfl, ⟨GE.out, A', c', blk_put BK.out 0 _ rfl, Kd.R_far HC'.out (p := ⟨g, 0, none⟩) (fun _ hk => hk) _⟩, below_set HB.out GE.out⟩
  ·rw [if_neg ce] at hs
   obtain rfl := Option.some.inj hs
   have ceb : (ec == 0) = false := by simpa using ce
   clear hs
   go_wp2_with (first | (go_at_call 76; refine (lb_Clone A c l _ (Kd.C_below HC.out HB.out) HL.out HCL.out).mono ?_; rintro r w5 ⟨vl, rfl, ho, hb⟩; obtain ⟨A', c', eo, hC'⟩ := lb_R (B := w.heap.size) ho (blk_lt BK.out) (bz_ HB.out); subst eo; have HC' := ak_ hC'; replace BK := ak_ (kb_ BK.out hb); replace HB := ak_ (bt_ HB.out hb); clear BS HC ho hb hC'; have hk0 : w5.cell? ⟨g, 0, none⟩ = some (.slice A l.length c) := (kc_ BK.out 0).trans rfl; have hkf0 := kf_ BK.out 0))
   go_ret
   exact ⟨g, rfl, ⟨GE.out, A', c', blk_put BK.out 0 _ rfl, Kd.R_far HC'.out (p := ⟨g, 0, none⟩) (fun _ hk => hk) _⟩, below_set HB.out GE.out⟩
end Go.Proofs.Ytkleiaeihihjnaa.MP
