-- written by a program of this session (wip/tools/mprint.sh) for this seat
import Derived.Test.YtoljdfgkkkpnbaaMPx0
import Derived.Test.YtoljdfgkkkpnbaaMPx3
import Derived.Laws.StructEq
import Derived.ChangeKeysEq
namespace Go.Proofs.Ytoljdfgkkkpnbaa.MP
open Go.RowKit Go.Proofs.YtoljdfgkkkpnbaaW.PrintWords Go.Proofs.YtoljdfgkkkpnbaaW.PrintLast Go.Proofs.YtoljdfgkkkpnbaaW.PrintMore
open Option (bind_eq_some_iff some.injEq)
open _root_.Go.Proofs.Try
open List (setIfInBounds_toArray set_cons_zero set_cons_succ map_toArray map_cons map_nil length_drop length_take)
attribute [local go_sem] max2_int min2_int max_two min_two max_three min_three max_four min_four
set_option linter.unusedVariables false
set_option linter.unusedSimpArgs false
def value_is.l0 : Nat → List (S75) → List Bool → List (S29) → List (S29) → Int → Int → Option (Int)
  | 0, _, _, _, _, _, _ => none
  | k + 1, x0, x1, x2, x11, x12, x13 => if x13 < x12 then (if 0 ≤ x13 then (if x13 < (x11.length : Int) then ((value_Check.f k x0 ((rd_T29 x11 x13).f0) ((rd_T29 x11 x13).f1) ((rd_T29 x11 x13).f2.f0) ((rd_T29 x11 x13).f2.f1) ((rd_T29 x11 x13).f3.f0.f0) ((rd_T29 x11 x13).f3.f0.f1) ((rd_T29 x11 x13).f3.f1.f0) ((rd_T29 x11 x13).f3.f1.f1) ((rd_T29 x11 x13).f4)).bind fun t263 => (if t263 = 0 then (if (rd_T29 x11 x13).f0 = true then (if 0 ≤ ((rd_T29 x11 x13).f4) then (if ((rd_T29 x11 x13).f4) < (x0.length : Int) then (if x13 < (x1.length : Int) then (if ((((rd_T75 x0 ((rd_T29 x11 x13).f4)).f0) == 5) != (rdOf false x1 x13)) = true then (some 1) else (if 0 < (x2.length : Int) then (if (((rd_T29 x11 x13).f0) != ((rd_T29 x2 0).f0)) = true then (some 1) else (value_is.l0 k x0 x1 x2 x11 x12 (wrap64 (x13 + 1)))) else (none))) else (none)) else (none)) else (none)) else (if x13 < (x1.length : Int) then (if (((rd_T29 x11 x13).f1) != (rdOf false x1 x13)) = true then (some 1) else (if 0 < (x2.length : Int) then (if (((rd_T29 x11 x13).f0) != ((rd_T29 x2 0).f0)) = true then (some 1) else (value_is.l0 k x0 x1 x2 x11 x12 (wrap64 (x13 + 1)))) else (none))) else (none))) else (some t263))) else (none)) else (none)) else (some 0)
def value_is.f (k : Nat) (l0 : List (S75)) (l1 : List Bool) (l2 : List (S29)) : Option (Int) := value_is.l0 k l0 l1 l2 l2 (l2.length : Int) 0
theorem value_is.mono_l : ∀ k, (∀ y0 y1 y2 y3 y4 y5, LeO (value_is.l0 k y0 y1 y2 y3 y4 y5) (value_is.l0 (k + 1) y0 y1 y2 y3 y4 y5))
  | 0 => fun _ _ _ _ _ _ r h => by simp [value_is.l0] at h
  | k + 1 => by
   have ih0 := value_is.mono_l k
   ·intro y0 y1 y2 y3 y4 y5
    unfold value_is.l0
    repeat' first | (with_reducible first | exact ih0 .. | exact value_Check.mono .. | exact LeO.refl _ | exact LeO.none _ | refine LeO.ite ?_ ?_ | refine LeO.bind ?_ (fun _ => ?_)) | exact ih0 .. | exact value_Check.mono .. | refine LeO.ite ?_ ?_ | refine LeO.bind ?_ (fun _ => ?_)
theorem value_is.mono : ∀ a0 a1 a2 k, LeO (value_is.f k a0 a1 a2) (value_is.f (k + 1) a0 a1 a2) := by
  intro a0 a1 a2 k
  have ih0 := value_is.mono_l k
  unfold value_is.f
  repeat' first | (with_reducible first | exact ih0 .. | exact value_Check.mono .. | exact LeO.refl _ | exact LeO.none _ | refine LeO.ite ?_ ?_ | refine LeO.bind ?_ (fun _ => ?_)) | exact ih0 .. | exact value_Check.mono .. | refine LeO.ite ?_ ?_ | refine LeO.bind ?_ (fun _ => ?_)
set_option maxHeartbeats 8000000 in
set_option maxRecDepth 100000 in
theorem value_is.calls (k : Nat) (A0 : Option Addr) (c0 : Nat) (l0 : List (S75)) (A1 : Option Addr) (c1 : Nat) (l1 : List Bool) (A2 : Option Addr) (c2 : Nat) (l2 : List (S29)) (r : Int) (w : World) (hr0 : Kd.C k75 w A0 l0.length l0) (hc0 : l0.length ≤ c0) (hr1 : Kd.C Kd.bool w A1 l1.length l1) (hc1 : l1.length ≤ c1) (hr2 : Kd.C k29 w A2 l2.length l2) (hc2 : l2.length ≤ c2) (h : value_is.f k l0 l1 l2 = some r) :
   Calls Try.prog 157 #[.slice A0 l0.length c0, .slice A1 l1.length c1, .slice A2 l2.length c2] w fun e w' => e = .returned (.int .i64 r) ∧ Below w.heap.size w w' := by
  have hu29 := underlying29
  have HR0 := ak_ hr0
  have HC0 := ak_ hc0
  clear hr0 hc0
  have HR1 := ak_ hr1
  have HC1 := ak_ hc1
  clear hr1 hc1
  have HR2 := ak_ hr2
  have HC2 := ak_ hc2
  clear hr2 hc2
  have HB := ak_ (Below.refl w.heap.size w)
  have H : (value_is.l0 k l0 l1 l2 l2 (l2.length : Int) 0) = some r := h
  clear h
  have H' := ak_ H
  clear H
  go_enter func157, ntmps157
  go_wp2
  repeat (go_quiet (fail); try go_wp2)
  go_loopg [13] k (fun kq v13 w' => ∃ (x13_1 : Int), v13 = .int .i64 x13_1 ∧ Aside0 (value_is.l0 kq l0 l1 l2 l2 (l2.length : Int) x13_1 = some r) ∧ Aside0 (kq ≤ k) ∧ Aside0 (Below w.heap.size w w'))
  case atStart => exact ⟨(0), rf_, H', ⟨Nat.le_refl _⟩, ⟨bl_ HB⟩⟩
  case round =>
   clear H'
   try clear c1
   try clear c2
   try clear p2
   obtain ⟨x13_1, rfl, HA, HK1, HB⟩ := hrel
   cases gk with
   | zero => exact absurd HA.out (by simp [value_is.l0])
   | succ k1 =>
    have H := HA.out
    clear HA
    simp only [value_is.l0] at H
    by_cases c4 : x13_1 < (l2.length : Int)
    ·rw [if_pos c4] at H
     have c4b0 := decide_eq_true c4
     clear c4
     by_cases c5 : 0 ≤ x13_1
     ·rw [if_pos c5] at H
      have c5b0 := decide_eq_true c5
      clear c5
      by_cases c6 : x13_1 < (l2.length : Int)
      ·rw [if_pos c6] at H
       have c6b0 := decide_eq_true c6
       clear c6
       replace H := bind_eq_some_iff.mp H
       obtain ⟨t263, A70, H⟩ := H
       replace H : (if t263 = 0 then (if (rd_T29 l2 x13_1).f0 = true then (if 0 ≤ ((rd_T29 l2 x13_1).f4) then (if ((rd_T29 l2 x13_1).f4) < (l0.length : Int) then (if x13_1 < (l1.length : Int) then (if ((((rd_T75 l0 ((rd_T29 l2 x13_1).f4)).f0) == 5) != (rdOf false l1 x13_1)) = true then (some 1) else (if 0 < (l2.length : Int) then (if (((rd_T29 l2 x13_1).f0) != ((rd_T29 l2 0).f0)) = true then (some 1) else (value_is.l0 k1 l0 l1 l2 l2 (l2.length : Int) (wrap64 (x13_1 + 1)))) else (none))) else (none)) else (none)) else (none)) else (if x13_1 < (l1.length : Int) then (if (((rd_T29 l2 x13_1).f1) != (rdOf false l1 x13_1)) = true then (some 1) else (if 0 < (l2.length : Int) then (if (((rd_T29 l2 x13_1).f0) != ((rd_T29 l2 0).f0)) = true then (some 1) else (value_is.l0 k1 l0 l1 l2 l2 (l2.length : Int) (wrap64 (x13_1 + 1)))) else (none))) else (none))) else (some t263)) = some r := H
       have A7 := ak_ A70
       clear A70
       by_cases c8 : t263 = 0
       ·rw [if_pos c8] at H
        have c8b0 : (t263 == 0) = true := beq_iff_eq.mpr c8
        have c8b1 : (t263 != 0) = false := bne_eq_false_iff_eq.mpr c8
        clear c8
        obtain ⟨bq9, hbq9⟩ : ∃ b_ : Bool, b_ = ((rd_T29 l2 x13_1).f0) := ⟨_, rfl⟩
        replace H : (if bq9 = true then (if 0 ≤ ((rd_T29 l2 x13_1).f4) then (if ((rd_T29 l2 x13_1).f4) < (l0.length : Int) then (if x13_1 < (l1.length : Int) then (if ((((rd_T75 l0 ((rd_T29 l2 x13_1).f4)).f0) == 5) != (rdOf false l1 x13_1)) = true then (some 1) else (if 0 < (l2.length : Int) then (if ((bq9) != ((rd_T29 l2 0).f0)) = true then (some 1) else (value_is.l0 k1 l0 l1 l2 l2 (l2.length : Int) (wrap64 (x13_1 + 1)))) else (none))) else (none)) else (none)) else (none)) else (if x13_1 < (l1.length : Int) then (if (((rd_T29 l2 x13_1).f1) != (rdOf false l1 x13_1)) = true then (some 1) else (if 0 < (l2.length : Int) then (if ((bq9) != ((rd_T29 l2 0).f0)) = true then (some 1) else (value_is.l0 k1 l0 l1 l2 l2 (l2.length : Int) (wrap64 (x13_1 + 1)))) else (none))) else (none))) = some r := by rw [← hbq9] at H; exact H
        have Nbq9 := ak_ hbq9
        clear hbq9
        by_cases c10 : bq9 = true
        ·subst c10
         have n_ := A7.out
         rw [← Nbq9.out] at n_
         clear A7
         have A7 := ak_ n_
         clear n_
         have H1 : (if 0 ≤ ((rd_T29 l2 x13_1).f4) then (if ((rd_T29 l2 x13_1).f4) < (l0.length : Int) then (if x13_1 < (l1.length : Int) then (if ((((rd_T75 l0 ((rd_T29 l2 x13_1).f4)).f0) == 5) != (rdOf false l1 x13_1)) = true then (some 1) else (if 0 < (l2.length : Int) then (if ((true) != ((rd_T29 l2 0).f0)) = true then (some 1) else (value_is.l0 k1 l0 l1 l2 l2 (l2.length : Int) (wrap64 (x13_1 + 1)))) else (none))) else (none)) else (none)) else (none)) = some r := by rw [if_pos rfl] at H; exact H
         clear H
         have H := H1
         clear H1
         by_cases c11 : 0 ≤ ((rd_T29 l2 x13_1).f4)
         ·rw [if_pos c11] at H
          have c11b0 := decide_eq_true c11
          clear c11
          by_cases c12 : ((rd_T29 l2 x13_1).f4) < (l0.length : Int)
          ·rw [if_pos c12] at H
           have c12b0 := decide_eq_true c12
           clear c12
           by_cases c13 : x13_1 < (l1.length : Int)
           ·rw [if_pos c13] at H
            have c13b0 := decide_eq_true c13
            clear c13
            by_cases c14 : ((((rd_T75 l0 ((rd_T29 l2 x13_1).f4)).f0) == 5) != (rdOf false l1 x13_1)) = true
            ·rw [if_pos c14] at H
             have c14b0 : ((((rd_T75 l0 ((rd_T29 l2 x13_1).f4)).f0) == 5) != (rdOf false l1 x13_1)) = true := c14
             (try (have c14b1 : decide ((((rd_T75 l0 ((rd_T29 l2 x13_1).f4)).f0) == 5) = (rdOf false l1 x13_1)) = false := by simpa using c14))
             (try (have c14b2 : ((((rd_T75 l0 ((rd_T29 l2 x13_1).f4)).f0) == 5) == (rdOf false l1 x13_1)) = false := by simpa using c14))
             (try (have c14b3 : ¬ ((((rd_T75 l0 ((rd_T29 l2 x13_1).f4)).f0) == 5) = (rdOf false l1 x13_1)) := by simpa using c14))
             clear c14
             obtain rfl := Option.some.inj H
             have p261 : 0 ≤ (x13_1 : Int) := od_ (by first | (with_reducible assumption) | assumption)
             have q261 : x13_1 < (l2.length : Int) := od_ (by first | (with_reducible assumption) | assumption)
             obtain ⟨ad261, e261, hx261_0, hx261_1, hx261_2, hx261_3, hx261_4, hx261_5, hx261_6, hx261_7, hx261_8⟩ := at_T29 HR2.out x13_1 p261 q261
             (try rw [← Nbq9.out] at hx261_0)
             (try rw [← Nbq9.out] at hx261_1)
             cases e261
             replace hx261_0 := cx_ HB hx261_0
             replace hx261_1 := cx_ HB hx261_1
             replace hx261_2 := cx_ HB hx261_2
             replace hx261_3 := cx_ HB hx261_3
             replace hx261_4 := cx_ HB hx261_4
             replace hx261_5 := cx_ HB hx261_5
             replace hx261_6 := cx_ HB hx261_6
             replace hx261_7 := cx_ HB hx261_7
             replace hx261_8 := cx_ HB hx261_8
             replace p261 := eq_true p261
             replace q261 := eq_true q261
             go_wp2_with (first | ((with_reducible refine gate_dst (N := 8) rfl ?_); refine bx_ 8 #[.bool false, .bool false, .int .u64 0, .int .u64 0, .int .u64 0, .int .u64 0, .int .u64 0, .int .u64 0, .int .i64 0] 29 ?_; intro gb262 hg w15 hbox hb; have BK262 := ak_ hbox; have GW262 := ak_ (gs_ hg HB); have GE262 := ak_ (gs_ hg HB); replace HB := ak_ (bt_ (bl_ HB) hb); clear hb hbox hg; obtain ⟨hcz16_0, hcz16_1, hcz16_2, hcz16_3, hcz16_4, hcz16_5, hcz16_6, hcz16_7, hcz16_8, hfz16_0, hfz16_1, hfz16_2, hfz16_3, hfz16_4, hfz16_5, hfz16_6, hfz16_7, hfz16_8⟩ := kc9_ BK262.out) | (go_at_call 127; (with_reducible refine (value_Check.calls k1 _ _ l0 true ((rd_T29 l2 x13_1).f1) ((rd_T29 l2 x13_1).f2.f0) ((rd_T29 l2 x13_1).f2.f1) ((rd_T29 l2 x13_1).f3.f0.f0) ((rd_T29 l2 x13_1).f3.f0.f1) ((rd_T29 l2 x13_1).f3.f1.f0) ((rd_T29 l2 x13_1).f3.f1.f1) ((rd_T29 l2 x13_1).f4) t263 _ ?side1 ?side2 A7.out).mono ?_); (case side1 => exact Kd.C_below HR0.out (bw1_ HB GE262)); (case side2 => exact HC0.out); rintro e w17 ⟨rfl, hb⟩; replace BK262 := ak_ (kb_ (g := gb262) (o := .cells #[.bool true, .bool ((rd_T29 l2 x13_1).f1), .int .u64 ((rd_T29 l2 x13_1).f2.f0), .int .u64 ((rd_T29 l2 x13_1).f2.f1), .int .u64 ((rd_T29 l2 x13_1).f3.f0.f0), .int .u64 ((rd_T29 l2 x13_1).f3.f0.f1), .int .u64 ((rd_T29 l2 x13_1).f3.f1.f0), .int .u64 ((rd_T29 l2 x13_1).f3.f1.f1), .int .i64 ((rd_T29 l2 x13_1).f4)] 29 (0, 0)) (by (with_reducible repeat (first | refine kn_ ?_ _ | refine kd_ ?_ | refine ka_ ?_ _)); exact sC_blk BK262.out rfl rfl) hb); replace HB := ak_ (bt_ (bw1_ HB GE262) hb); (try clear hb); (try clear hk); obtain ⟨hcz18_0, hcz18_1, hcz18_2, hcz18_3, hcz18_4, hcz18_5, hcz18_6, hcz18_7, hcz18_8, hfz18_0, hfz18_1, hfz18_2, hfz18_3, hfz18_4, hfz18_5, hfz18_6, hfz18_7, hfz18_8⟩ := kc9_ BK262.out; have p264 : 0 ≤ (((rd_T29 l2 x13_1).f4) : Int) := od_ (by first | (with_reducible assumption) | assumption); have q264 : ((rd_T29 l2 x13_1).f4) < (l0.length : Int) := od_ (by first | (with_reducible assumption) | assumption); obtain ⟨ad264, e264, hx264_0, hx264_1, hx264_2⟩ := at_T75 HR0.out ((rd_T29 l2 x13_1).f4) p264 q264; cases e264; replace hx264_0 := cx_ HB hx264_0; replace hx264_1 := cx_ HB hx264_1; replace hx264_2 := cx_ HB hx264_2; replace p264 := eq_true p264; replace q264 := eq_true q264; have p265 : 0 ≤ (x13_1 : Int) := od_ (by first | (with_reducible assumption) | assumption); have q265 : x13_1 < (l1.length : Int) := od_ (by first | (with_reducible assumption) | assumption); obtain ⟨ad265, e265, hx265_0⟩ := Kd.at_bool HR1.out x13_1 p265 q265; (try rw [← Nbq9.out] at hx265_0); cases e265; replace hx265_0 := cx_ HB hx265_0; replace p265 := eq_true p265; replace q265 := eq_true q265))
             repeat (go_quiet (first | ((with_reducible refine gate_dst (N := 8) rfl ?_); refine bx_ 8 #[.bool false, .bool false, .int .u64 0, .int .u64 0, .int .u64 0, .int .u64 0, .int .u64 0, .int .u64 0, .int .i64 0] 29 ?_; intro gb262 hg w15 hbox hb; have BK262 := ak_ hbox; have GW262 := ak_ (gs_ hg HB); have GE262 := ak_ (gs_ hg HB); replace HB := ak_ (bt_ (bl_ HB) hb); clear hb hbox hg; obtain ⟨hcz16_0, hcz16_1, hcz16_2, hcz16_3, hcz16_4, hcz16_5, hcz16_6, hcz16_7, hcz16_8, hfz16_0, hfz16_1, hfz16_2, hfz16_3, hfz16_4, hfz16_5, hfz16_6, hfz16_7, hfz16_8⟩ := kc9_ BK262.out) | (go_at_call 127; (with_reducible refine (value_Check.calls k1 _ _ l0 true ((rd_T29 l2 x13_1).f1) ((rd_T29 l2 x13_1).f2.f0) ((rd_T29 l2 x13_1).f2.f1) ((rd_T29 l2 x13_1).f3.f0.f0) ((rd_T29 l2 x13_1).f3.f0.f1) ((rd_T29 l2 x13_1).f3.f1.f0) ((rd_T29 l2 x13_1).f3.f1.f1) ((rd_T29 l2 x13_1).f4) t263 _ ?side1 ?side2 A7.out).mono ?_); (case side1 => exact Kd.C_below HR0.out (bw1_ HB GE262)); (case side2 => exact HC0.out); rintro e w17 ⟨rfl, hb⟩; replace BK262 := ak_ (kb_ (g := gb262) (o := .cells #[.bool true, .bool ((rd_T29 l2 x13_1).f1), .int .u64 ((rd_T29 l2 x13_1).f2.f0), .int .u64 ((rd_T29 l2 x13_1).f2.f1), .int .u64 ((rd_T29 l2 x13_1).f3.f0.f0), .int .u64 ((rd_T29 l2 x13_1).f3.f0.f1), .int .u64 ((rd_T29 l2 x13_1).f3.f1.f0), .int .u64 ((rd_T29 l2 x13_1).f3.f1.f1), .int .i64 ((rd_T29 l2 x13_1).f4)] 29 (0, 0)) (by (with_reducible repeat (first | refine kn_ ?_ _ | refine kd_ ?_ | refine ka_ ?_ _)); exact sC_blk BK262.out rfl rfl) hb); replace HB := ak_ (bt_ (bw1_ HB GE262) hb); (try clear hb); (try clear hk); obtain ⟨hcz18_0, hcz18_1, hcz18_2, hcz18_3, hcz18_4, hcz18_5, hcz18_6, hcz18_7, hcz18_8, hfz18_0, hfz18_1, hfz18_2, hfz18_3, hfz18_4, hfz18_5, hfz18_6, hfz18_7, hfz18_8⟩ := kc9_ BK262.out; have p264 : 0 ≤ (((rd_T29 l2 x13_1).f4) : Int) := od_ (by first | (with_reducible assumption) | assumption); have q264 : ((rd_T29 l2 x13_1).f4) < (l0.length : Int) := od_ (by first | (with_reducible assumption) | assumption); obtain ⟨ad264, e264, hx264_0, hx264_1, hx264_2⟩ := at_T75 HR0.out ((rd_T29 l2 x13_1).f4) p264 q264; cases e264; replace hx264_0 := cx_ HB hx264_0; replace hx264_1 := cx_ HB hx264_1; replace hx264_2 := cx_ HB hx264_2; replace p264 := eq_true p264; replace q264 := eq_true q264; have p265 : 0 ≤ (x13_1 : Int) := od_ (by first | (with_reducible assumption) | assumption); have q265 : x13_1 < (l1.length : Int) := od_ (by first | (with_reducible assumption) | assumption); obtain ⟨ad265, e265, hx265_0⟩ := Kd.at_bool HR1.out x13_1 p265 q265; (try rw [← Nbq9.out] at hx265_0); cases e265; replace hx265_0 := cx_ HB hx265_0; replace p265 := eq_true p265; replace q265 := eq_true q265)); try go_wp2_with (first | ((with_reducible refine gate_dst (N := 8) rfl ?_); refine bx_ 8 #[.bool false, .bool false, .int .u64 0, .int .u64 0, .int .u64 0, .int .u64 0, .int .u64 0, .int .u64 0, .int .i64 0] 29 ?_; intro gb262 hg w15 hbox hb; have BK262 := ak_ hbox; have GW262 := ak_ (gs_ hg HB); have GE262 := ak_ (gs_ hg HB); replace HB := ak_ (bt_ (bl_ HB) hb); clear hb hbox hg; obtain ⟨hcz16_0, hcz16_1, hcz16_2, hcz16_3, hcz16_4, hcz16_5, hcz16_6, hcz16_7, hcz16_8, hfz16_0, hfz16_1, hfz16_2, hfz16_3, hfz16_4, hfz16_5, hfz16_6, hfz16_7, hfz16_8⟩ := kc9_ BK262.out) | (go_at_call 127; (with_reducible refine (value_Check.calls k1 _ _ l0 true ((rd_T29 l2 x13_1).f1) ((rd_T29 l2 x13_1).f2.f0) ((rd_T29 l2 x13_1).f2.f1) ((rd_T29 l2 x13_1).f3.f0.f0) ((rd_T29 l2 x13_1).f3.f0.f1) ((rd_T29 l2 x13_1).f3.f1.f0) ((rd_T29 l2 x13_1).f3.f1.f1) ((rd_T29 l2 x13_1).f4) t263 _ ?side1 ?side2 A7.out).mono ?_); (case side1 => exact Kd.C_below HR0.out (bw1_ HB GE262)); (case side2 => exact HC0.out); rintro e w17 ⟨rfl, hb⟩; replace BK262 := ak_ (kb_ (g := gb262) (o := .cells #[.bool true, .bool ((rd_T29 l2 x13_1).f1), .int .u64 ((rd_T29 l2 x13_1).f2.f0), .int .u64 ((rd_T29 l2 x13_1).f2.f1), .int .u64 ((rd_T29 l2 x13_1).f3.f0.f0), .int .u64 ((rd_T29 l2 x13_1).f3.f0.f1), .int .u64 ((rd_T29 l2 x13_1).f3.f1.f0), .int .u64 ((rd_T29 l2 x13_1).f3.f1.f1), .int .i64 ((rd_T29 l2 x13_1).f4)] 29 (0, 0)) (by (with_reducible repeat (first | refine kn_ ?_ _ | refine kd_ ?_ | refine ka_ ?_ _)); exact sC_blk BK262.out rfl rfl) hb); replace HB := ak_ (bt_ (bw1_ HB GE262) hb); (try clear hb); (try clear hk); obtain ⟨hcz18_0, hcz18_1, hcz18_2, hcz18_3, hcz18_4, hcz18_5, hcz18_6, hcz18_7, hcz18_8, hfz18_0, hfz18_1, hfz18_2, hfz18_3, hfz18_4, hfz18_5, hfz18_6, hfz18_7, hfz18_8⟩ := kc9_ BK262.out; have p264 : 0 ≤ (((rd_T29 l2 x13_1).f4) : Int) := od_ (by first | (with_reducible assumption) | assumption); have q264 : ((rd_T29 l2 x13_1).f4) < (l0.length : Int) := od_ (by first | (with_reducible assumption) | assumption); obtain ⟨ad264, e264, hx264_0, hx264_1, hx264_2⟩ := at_T75 HR0.out ((rd_T29 l2 x13_1).f4) p264 q264; cases e264; replace hx264_0 := cx_ HB hx264_0; replace hx264_1 := cx_ HB hx264_1; replace hx264_2 := cx_ HB hx264_2; replace p264 := eq_true p264; replace q264 := eq_true q264; have p265 : 0 ≤ (x13_1 : Int) := od_ (by first | (with_reducible assumption) | assumption); have q265 : x13_1 < (l1.length : Int) := od_ (by first | (with_reducible assumption) | assumption); obtain ⟨ad265, e265, hx265_0⟩ := Kd.at_bool HR1.out x13_1 p265 q265; (try rw [← Nbq9.out] at hx265_0); cases e265; replace hx265_0 := cx_ HB hx265_0; replace p265 := eq_true p265; replace q265 := eq_true q265)))
             go_ret
             exact ea_ (bw1_ HB GE262)
            ·rw [if_neg c14] at H
             have c14b0 : ((((rd_T75 l0 ((rd_T29 l2 x13_1).f4)).f0) == 5) != (rdOf false l1 x13_1)) = false := by simpa using c14
             (try (have c14b1 : decide ((((rd_T75 l0 ((rd_T29 l2 x13_1).f4)).f0) == 5) = (rdOf false l1 x13_1)) = true := by simpa using c14))
             (try (have c14b2 : ((((rd_T75 l0 ((rd_T29 l2 x13_1).f4)).f0) == 5) == (rdOf false l1 x13_1)) = true := by simpa using c14))
             clear c14
             by_cases c19 : 0 < (l2.length : Int)
             ·rw [if_pos c19] at H
              have c19b0 := decide_eq_true c19
              have c19b1 : decide (0 < l2.length) = true := decide_eq_true (by omega)
              clear c19
              by_cases c20 : ((true) != ((rd_T29 l2 0).f0)) = true
              ·rw [if_pos c20] at H
               have c20b0 : ((true) != ((rd_T29 l2 0).f0)) = true := c20
               (try (have c20b1 : decide ((true) = ((rd_T29 l2 0).f0)) = false := by simpa using c20))
               (try (have c20b2 : ((true) == ((rd_T29 l2 0).f0)) = false := by simpa using c20))
               (try (have c20b3 : ¬ ((true) = ((rd_T29 l2 0).f0)) := by simpa using c20))
               clear c20
               obtain rfl := Option.some.inj H
               have p261 : 0 ≤ (x13_1 : Int) := od_ (by first | (with_reducible assumption) | assumption)
               have q261 : x13_1 < (l2.length : Int) := od_ (by first | (with_reducible assumption) | assumption)
               obtain ⟨ad261, e261, hx261_0, hx261_1, hx261_2, hx261_3, hx261_4, hx261_5, hx261_6, hx261_7, hx261_8⟩ := at_T29 HR2.out x13_1 p261 q261
               (try rw [← Nbq9.out] at hx261_0)
               (try rw [← Nbq9.out] at hx261_1)
               cases e261
               replace hx261_0 := cx_ HB hx261_0
               replace hx261_1 := cx_ HB hx261_1
               replace hx261_2 := cx_ HB hx261_2
               replace hx261_3 := cx_ HB hx261_3
               replace hx261_4 := cx_ HB hx261_4
               replace hx261_5 := cx_ HB hx261_5
               replace hx261_6 := cx_ HB hx261_6
               replace hx261_7 := cx_ HB hx261_7
               replace hx261_8 := cx_ HB hx261_8
               replace p261 := eq_true p261
               replace q261 := eq_true q261
               go_wp2_with (first | ((with_reducible refine gate_dst (N := 8) rfl ?_); refine bx_ 8 #[.bool false, .bool false, .int .u64 0, .int .u64 0, .int .u64 0, .int .u64 0, .int .u64 0, .int .u64 0, .int .i64 0] 29 ?_; intro gb262 hg w21 hbox hb; have BK262 := ak_ hbox; have GW262 := ak_ (gs_ hg HB); have GE262 := ak_ (gs_ hg HB); replace HB := ak_ (bt_ (bl_ HB) hb); clear hb hbox hg; obtain ⟨hcz22_0, hcz22_1, hcz22_2, hcz22_3, hcz22_4, hcz22_5, hcz22_6, hcz22_7, hcz22_8, hfz22_0, hfz22_1, hfz22_2, hfz22_3, hfz22_4, hfz22_5, hfz22_6, hfz22_7, hfz22_8⟩ := kc9_ BK262.out) | (go_at_call 127; (with_reducible refine (value_Check.calls k1 _ _ l0 true ((rd_T29 l2 x13_1).f1) ((rd_T29 l2 x13_1).f2.f0) ((rd_T29 l2 x13_1).f2.f1) ((rd_T29 l2 x13_1).f3.f0.f0) ((rd_T29 l2 x13_1).f3.f0.f1) ((rd_T29 l2 x13_1).f3.f1.f0) ((rd_T29 l2 x13_1).f3.f1.f1) ((rd_T29 l2 x13_1).f4) t263 _ ?side1 ?side2 A7.out).mono ?_); (case side1 => exact Kd.C_below HR0.out (bw1_ HB GE262)); (case side2 => exact HC0.out); rintro e w23 ⟨rfl, hb⟩; replace BK262 := ak_ (kb_ (g := gb262) (o := .cells #[.bool true, .bool ((rd_T29 l2 x13_1).f1), .int .u64 ((rd_T29 l2 x13_1).f2.f0), .int .u64 ((rd_T29 l2 x13_1).f2.f1), .int .u64 ((rd_T29 l2 x13_1).f3.f0.f0), .int .u64 ((rd_T29 l2 x13_1).f3.f0.f1), .int .u64 ((rd_T29 l2 x13_1).f3.f1.f0), .int .u64 ((rd_T29 l2 x13_1).f3.f1.f1), .int .i64 ((rd_T29 l2 x13_1).f4)] 29 (0, 0)) (by (with_reducible repeat (first | refine kn_ ?_ _ | refine kd_ ?_ | refine ka_ ?_ _)); exact sC_blk BK262.out rfl rfl) hb); replace HB := ak_ (bt_ (bw1_ HB GE262) hb); (try clear hb); (try clear hk); obtain ⟨hcz24_0, hcz24_1, hcz24_2, hcz24_3, hcz24_4, hcz24_5, hcz24_6, hcz24_7, hcz24_8, hfz24_0, hfz24_1, hfz24_2, hfz24_3, hfz24_4, hfz24_5, hfz24_6, hfz24_7, hfz24_8⟩ := kc9_ BK262.out; have p264 : 0 ≤ (((rd_T29 l2 x13_1).f4) : Int) := od_ (by first | (with_reducible assumption) | assumption); have q264 : ((rd_T29 l2 x13_1).f4) < (l0.length : Int) := od_ (by first | (with_reducible assumption) | assumption); obtain ⟨ad264, e264, hx264_0, hx264_1, hx264_2⟩ := at_T75 HR0.out ((rd_T29 l2 x13_1).f4) p264 q264; cases e264; replace hx264_0 := cx_ HB hx264_0; replace hx264_1 := cx_ HB hx264_1; replace hx264_2 := cx_ HB hx264_2; replace p264 := eq_true p264; replace q264 := eq_true q264; have p265 : 0 ≤ (x13_1 : Int) := od_ (by first | (with_reducible assumption) | assumption); have q265 : x13_1 < (l1.length : Int) := od_ (by first | (with_reducible assumption) | assumption); obtain ⟨ad265, e265, hx265_0⟩ := Kd.at_bool HR1.out x13_1 p265 q265; (try rw [← Nbq9.out] at hx265_0); cases e265; replace hx265_0 := cx_ HB hx265_0; replace p265 := eq_true p265; replace q265 := eq_true q265; have p266 : 0 ≤ (0 : Int) := (by omega); have q266 : 0 < (l2.length : Int) := od_ (by first | (with_reducible assumption) | assumption); obtain ⟨ad266, e266, hx266_0, hx266_1, hx266_2, hx266_3, hx266_4, hx266_5, hx266_6, hx266_7, hx266_8⟩ := at_T29 HR2.out 0 p266 q266; (try rw [← Nbq9.out] at hx266_0); (try rw [← Nbq9.out] at hx266_1); obtain rfl : ad261 = ad266 := (by injection e266); have qi266 : (0 < l2.length) = True := eq_true (by omega); (try rw [show ((0 : Int)).toNat = 0 from rfl] at hx266_0); (try rw [show 0 * 9 = 0 from rfl] at hx266_0); (try rw [Addr.add_zero'] at hx266_0); (try rw [show ((0 : Int)).toNat = 0 from rfl] at hx266_1); (try rw [show 0 * 9 = 0 from rfl] at hx266_1); (try rw [Addr.add_zero'] at hx266_1); (try rw [show ((0 : Int)).toNat = 0 from rfl] at hx266_2); (try rw [show 0 * 9 = 0 from rfl] at hx266_2); (try rw [Addr.add_zero'] at hx266_2); (try rw [show ((0 : Int)).toNat = 0 from rfl] at hx266_3); (try rw [show 0 * 9 = 0 from rfl] at hx266_3); (try rw [Addr.add_zero'] at hx266_3); (try rw [show ((0 : Int)).toNat = 0 from rfl] at hx266_4); (try rw [show 0 * 9 = 0 from rfl] at hx266_4); (try rw [Addr.add_zero'] at hx266_4); (try rw [show ((0 : Int)).toNat = 0 from rfl] at hx266_5); (try rw [show 0 * 9 = 0 from rfl] at hx266_5); (try rw [Addr.add_zero'] at hx266_5); (try rw [show ((0 : Int)).toNat = 0 from rfl] at hx266_6); (try rw [show 0 * 9 = 0 from rfl] at hx266_6); (try rw [Addr.add_zero'] at hx266_6); (try rw [show ((0 : Int)).toNat = 0 from rfl] at hx266_7); (try rw [show 0 * 9 = 0 from rfl] at hx266_7); (try rw [Addr.add_zero'] at hx266_7); (try rw [show ((0 : Int)).toNat = 0 from rfl] at hx266_8); (try rw [show 0 * 9 = 0 from rfl] at hx266_8); (try rw [Addr.add_zero'] at hx266_8); replace hx266_0 := cx_ HB hx266_0; replace hx266_1 := cx_ HB hx266_1; replace hx266_2 := cx_ HB hx266_2; replace hx266_3 := cx_ HB hx266_3; replace hx266_4 := cx_ HB hx266_4; replace hx266_5 := cx_ HB hx266_5; replace hx266_6 := cx_ HB hx266_6; replace hx266_7 := cx_ HB hx266_7; replace hx266_8 := cx_ HB hx266_8; replace p266 := eq_true p266; replace q266 := eq_true q266))
               repeat (go_quiet (first | ((with_reducible refine gate_dst (N := 8) rfl ?_); refine bx_ 8 #[.bool false, .bool false, .int .u64 0, .int .u64 0, .int .u64 0, .int .u64 0, .int .u64 0, .int .u64 0, .int .i64 0] 29 ?_; intro gb262 hg w21 hbox hb; have BK262 := ak_ hbox; have GW262 := ak_ (gs_ hg HB); have GE262 := ak_ (gs_ hg HB); replace HB := ak_ (bt_ (bl_ HB) hb); clear hb hbox hg; obtain ⟨hcz22_0, hcz22_1, hcz22_2, hcz22_3, hcz22_4, hcz22_5, hcz22_6, hcz22_7, hcz22_8, hfz22_0, hfz22_1, hfz22_2, hfz22_3, hfz22_4, hfz22_5, hfz22_6, hfz22_7, hfz22_8⟩ := kc9_ BK262.out) | (go_at_call 127; (with_reducible refine (value_Check.calls k1 _ _ l0 true ((rd_T29 l2 x13_1).f1) ((rd_T29 l2 x13_1).f2.f0) ((rd_T29 l2 x13_1).f2.f1) ((rd_T29 l2 x13_1).f3.f0.f0) ((rd_T29 l2 x13_1).f3.f0.f1) ((rd_T29 l2 x13_1).f3.f1.f0) ((rd_T29 l2 x13_1).f3.f1.f1) ((rd_T29 l2 x13_1).f4) t263 _ ?side1 ?side2 A7.out).mono ?_); (case side1 => exact Kd.C_below HR0.out (bw1_ HB GE262)); (case side2 => exact HC0.out); rintro e w23 ⟨rfl, hb⟩; replace BK262 := ak_ (kb_ (g := gb262) (o := .cells #[.bool true, .bool ((rd_T29 l2 x13_1).f1), .int .u64 ((rd_T29 l2 x13_1).f2.f0), .int .u64 ((rd_T29 l2 x13_1).f2.f1), .int .u64 ((rd_T29 l2 x13_1).f3.f0.f0), .int .u64 ((rd_T29 l2 x13_1).f3.f0.f1), .int .u64 ((rd_T29 l2 x13_1).f3.f1.f0), .int .u64 ((rd_T29 l2 x13_1).f3.f1.f1), .int .i64 ((rd_T29 l2 x13_1).f4)] 29 (0, 0)) (by (with_reducible repeat (first | refine kn_ ?_ _ | refine kd_ ?_ | refine ka_ ?_ _)); exact sC_blk BK262.out rfl rfl) hb); replace HB := ak_ (bt_ (bw1_ HB GE262) hb); (try clear hb); (try clear hk); obtain ⟨hcz24_0, hcz24_1, hcz24_2, hcz24_3, hcz24_4, hcz24_5, hcz24_6, hcz24_7, hcz24_8, hfz24_0, hfz24_1, hfz24_2, hfz24_3, hfz24_4, hfz24_5, hfz24_6, hfz24_7, hfz24_8⟩ := kc9_ BK262.out; have p264 : 0 ≤ (((rd_T29 l2 x13_1).f4) : Int) := od_ (by first | (with_reducible assumption) | assumption); have q264 : ((rd_T29 l2 x13_1).f4) < (l0.length : Int) := od_ (by first | (with_reducible assumption) | assumption); obtain ⟨ad264, e264, hx264_0, hx264_1, hx264_2⟩ := at_T75 HR0.out ((rd_T29 l2 x13_1).f4) p264 q264; cases e264; replace hx264_0 := cx_ HB hx264_0; replace hx264_1 := cx_ HB hx264_1; replace hx264_2 := cx_ HB hx264_2; replace p264 := eq_true p264; replace q264 := eq_true q264; have p265 : 0 ≤ (x13_1 : Int) := od_ (by first | (with_reducible assumption) | assumption); have q265 : x13_1 < (l1.length : Int) := od_ (by first | (with_reducible assumption) | assumption); obtain ⟨ad265, e265, hx265_0⟩ := Kd.at_bool HR1.out x13_1 p265 q265; (try rw [← Nbq9.out] at hx265_0); cases e265; replace hx265_0 := cx_ HB hx265_0; replace p265 := eq_true p265; replace q265 := eq_true q265; have p266 : 0 ≤ (0 : Int) := (by omega); have q266 : 0 < (l2.length : Int) := od_ (by first | (with_reducible assumption) | assumption); obtain ⟨ad266, e266, hx266_0, hx266_1, hx266_2, hx266_3, hx266_4, hx266_5, hx266_6, hx266_7, hx266_8⟩ := at_T29 HR2.out 0 p266 q266; (try rw [← Nbq9.out] at hx266_0); (try rw [← Nbq9.out] at hx266_1); obtain rfl : ad261 = ad266 := (by injection e266); have qi266 : (0 < l2.length) = True := eq_true (by omega); (try rw [show ((0 : Int)).toNat = 0 from rfl] at hx266_0); (try rw [show 0 * 9 = 0 from rfl] at hx266_0); (try rw [Addr.add_zero'] at hx266_0); (try rw [show ((0 : Int)).toNat = 0 from rfl] at hx266_1); (try rw [show 0 * 9 = 0 from rfl] at hx266_1); (try rw [Addr.add_zero'] at hx266_1); (try rw [show ((0 : Int)).toNat = 0 from rfl] at hx266_2); (try rw [show 0 * 9 = 0 from rfl] at hx266_2); (try rw [Addr.add_zero'] at hx266_2); (try rw [show ((0 : Int)).toNat = 0 from rfl] at hx266_3); (try rw [show 0 * 9 = 0 from rfl] at hx266_3); (try rw [Addr.add_zero'] at hx266_3); (try rw [show ((0 : Int)).toNat = 0 from rfl] at hx266_4); (try rw [show 0 * 9 = 0 from rfl] at hx266_4); (try rw [Addr.add_zero'] at hx266_4); (try rw [show ((0 : Int)).toNat = 0 from rfl] at hx266_5); (try rw [show 0 * 9 = 0 from rfl] at hx266_5); (try rw [Addr.add_zero'] at hx266_5); (try rw [show ((0 : Int)).toNat = 0 from rfl] at hx266_6); (try rw [show 0 * 9 = 0 from rfl] at hx266_6); (try rw [Addr.add_zero'] at hx266_6); (try rw [show ((0 : Int)).toNat = 0 from rfl] at hx266_7); (try rw [show 0 * 9 = 0 from rfl] at hx266_7); (try rw [Addr.add_zero'] at hx266_7); (try rw [show ((0 : Int)).toNat = 0 from rfl] at hx266_8); (try rw [show 0 * 9 = 0 from rfl] at hx266_8); (try rw [Addr.add_zero'] at hx266_8); replace hx266_0 := cx_ HB hx266_0; replace hx266_1 := cx_ HB hx266_1; replace hx266_2 := cx_ HB hx266_2; replace hx266_3 := cx_ HB hx266_3; replace hx266_4 := cx_ HB hx266_4; replace hx266_5 := cx_ HB hx266_5; replace hx266_6 := cx_ HB hx266_6; replace hx266_7 := cx_ HB hx266_7; replace hx266_8 := cx_ HB hx266_8; replace p266 := eq_true p266; replace q266 := eq_true q266)); try go_wp2_with (first | ((with_reducible refine gate_dst (N := 8) rfl ?_); refine bx_ 8 #[.bool false, .bool false, .int .u64 0, .int .u64 0, .int .u64 0, .int .u64 0, .int .u64 0, .int .u64 0, .int .i64 0] 29 ?_; intro gb262 hg w21 hbox hb; have BK262 := ak_ hbox; have GW262 := ak_ (gs_ hg HB); have GE262 := ak_ (gs_ hg HB); replace HB := ak_ (bt_ (bl_ HB) hb); clear hb hbox hg; obtain ⟨hcz22_0, hcz22_1, hcz22_2, hcz22_3, hcz22_4, hcz22_5, hcz22_6, hcz22_7, hcz22_8, hfz22_0, hfz22_1, hfz22_2, hfz22_3, hfz22_4, hfz22_5, hfz22_6, hfz22_7, hfz22_8⟩ := kc9_ BK262.out) | (go_at_call 127; (with_reducible refine (value_Check.calls k1 _ _ l0 true ((rd_T29 l2 x13_1).f1) ((rd_T29 l2 x13_1).f2.f0) ((rd_T29 l2 x13_1).f2.f1) ((rd_T29 l2 x13_1).f3.f0.f0) ((rd_T29 l2 x13_1).f3.f0.f1) ((rd_T29 l2 x13_1).f3.f1.f0) ((rd_T29 l2 x13_1).f3.f1.f1) ((rd_T29 l2 x13_1).f4) t263 _ ?side1 ?side2 A7.out).mono ?_); (case side1 => exact Kd.C_below HR0.out (bw1_ HB GE262)); (case side2 => exact HC0.out); rintro e w23 ⟨rfl, hb⟩; replace BK262 := ak_ (kb_ (g := gb262) (o := .cells #[.bool true, .bool ((rd_T29 l2 x13_1).f1), .int .u64 ((rd_T29 l2 x13_1).f2.f0), .int .u64 ((rd_T29 l2 x13_1).f2.f1), .int .u64 ((rd_T29 l2 x13_1).f3.f0.f0), .int .u64 ((rd_T29 l2 x13_1).f3.f0.f1), .int .u64 ((rd_T29 l2 x13_1).f3.f1.f0), .int .u64 ((rd_T29 l2 x13_1).f3.f1.f1), .int .i64 ((rd_T29 l2 x13_1).f4)] 29 (0, 0)) (by (with_reducible repeat (first | refine kn_ ?_ _ | refine kd_ ?_ | refine ka_ ?_ _)); exact sC_blk BK262.out rfl rfl) hb); replace HB := ak_ (bt_ (bw1_ HB GE262) hb); (try clear hb); (try clear hk); obtain ⟨hcz24_0, hcz24_1, hcz24_2, hcz24_3, hcz24_4, hcz24_5, hcz24_6, hcz24_7, hcz24_8, hfz24_0, hfz24_1, hfz24_2, hfz24_3, hfz24_4, hfz24_5, hfz24_6, hfz24_7, hfz24_8⟩ := kc9_ BK262.out; have p264 : 0 ≤ (((rd_T29 l2 x13_1).f4) : Int) := od_ (by first | (with_reducible assumption) | assumption); have q264 : ((rd_T29 l2 x13_1).f4) < (l0.length : Int) := od_ (by first | (with_reducible assumption) | assumption); obtain ⟨ad264, e264, hx264_0, hx264_1, hx264_2⟩ := at_T75 HR0.out ((rd_T29 l2 x13_1).f4) p264 q264; cases e264; replace hx264_0 := cx_ HB hx264_0; replace hx264_1 := cx_ HB hx264_1; replace hx264_2 := cx_ HB hx264_2; replace p264 := eq_true p264; replace q264 := eq_true q264; have p265 : 0 ≤ (x13_1 : Int) := od_ (by first | (with_reducible assumption) | assumption); have q265 : x13_1 < (l1.length : Int) := od_ (by first | (with_reducible assumption) | assumption); obtain ⟨ad265, e265, hx265_0⟩ := Kd.at_bool HR1.out x13_1 p265 q265; (try rw [← Nbq9.out] at hx265_0); cases e265; replace hx265_0 := cx_ HB hx265_0; replace p265 := eq_true p265; replace q265 := eq_true q265; have p266 : 0 ≤ (0 : Int) := (by omega); have q266 : 0 < (l2.length : Int) := od_ (by first | (with_reducible assumption) | assumption); obtain ⟨ad266, e266, hx266_0, hx266_1, hx266_2, hx266_3, hx266_4, hx266_5, hx266_6, hx266_7, hx266_8⟩ := at_T29 HR2.out 0 p266 q266; (try rw [← Nbq9.out] at hx266_0); (try rw [← Nbq9.out] at hx266_1); obtain rfl : ad261 = ad266 := (by injection e266); have qi266 : (0 < l2.length) = True := eq_true (by omega); (try rw [show ((0 : Int)).toNat = 0 from rfl] at hx266_0); (try rw [show 0 * 9 = 0 from rfl] at hx266_0); (try rw [Addr.add_zero'] at hx266_0); (try rw [show ((0 : Int)).toNat = 0 from rfl] at hx266_1); (try rw [show 0 * 9 = 0 from rfl] at hx266_1); (try rw [Addr.add_zero'] at hx266_1); (try rw [show ((0 : Int)).toNat = 0 from rfl] at hx266_2); (try rw [show 0 * 9 = 0 from rfl] at hx266_2); (try rw [Addr.add_zero'] at hx266_2); (try rw [show ((0 : Int)).toNat = 0 from rfl] at hx266_3); (try rw [show 0 * 9 = 0 from rfl] at hx266_3); (try rw [Addr.add_zero'] at hx266_3); (try rw [show ((0 : Int)).toNat = 0 from rfl] at hx266_4); (try rw [show 0 * 9 = 0 from rfl] at hx266_4); (try rw [Addr.add_zero'] at hx266_4); (try rw [show ((0 : Int)).toNat = 0 from rfl] at hx266_5); (try rw [show 0 * 9 = 0 from rfl] at hx266_5); (try rw [Addr.add_zero'] at hx266_5); (try rw [show ((0 : Int)).toNat = 0 from rfl] at hx266_6); (try rw [show 0 * 9 = 0 from rfl] at hx266_6); (try rw [Addr.add_zero'] at hx266_6); (try rw [show ((0 : Int)).toNat = 0 from rfl] at hx266_7); (try rw [show 0 * 9 = 0 from rfl] at hx266_7); (try rw [Addr.add_zero'] at hx266_7); (try rw [show ((0 : Int)).toNat = 0 from rfl] at hx266_8); (try rw [show 0 * 9 = 0 from rfl] at hx266_8); (try rw [Addr.add_zero'] at hx266_8); replace hx266_0 := cx_ HB hx266_0; replace hx266_1 := cx_ HB hx266_1; replace hx266_2 := cx_ HB hx266_2; replace hx266_3 := cx_ HB hx266_3; replace hx266_4 := cx_ HB hx266_4; replace hx266_5 := cx_ HB hx266_5; replace hx266_6 := cx_ HB hx266_6; replace hx266_7 := cx_ HB hx266_7; replace hx266_8 := cx_ HB hx266_8; replace p266 := eq_true p266; replace q266 := eq_true q266)))
               go_ret
               exact ea_ (bw1_ HB GE262)
              ·rw [if_neg c20] at H
               have c20b0 : ((true) != ((rd_T29 l2 0).f0)) = false := by simpa using c20
               (try (have c20b1 : decide ((true) = ((rd_T29 l2 0).f0)) = true := by simpa using c20))
               (try (have c20b2 : ((true) == ((rd_T29 l2 0).f0)) = true := by simpa using c20))
               clear c20
               have H' := ak_ H
               clear H
               have p261 : 0 ≤ (x13_1 : Int) := od_ (by first | (with_reducible assumption) | assumption)
               have q261 : x13_1 < (l2.length : Int) := od_ (by first | (with_reducible assumption) | assumption)
               obtain ⟨ad261, e261, hx261_0, hx261_1, hx261_2, hx261_3, hx261_4, hx261_5, hx261_6, hx261_7, hx261_8⟩ := at_T29 HR2.out x13_1 p261 q261
               (try rw [← Nbq9.out] at hx261_0)
               (try rw [← Nbq9.out] at hx261_1)
               cases e261
               replace hx261_0 := cx_ HB hx261_0
               replace hx261_1 := cx_ HB hx261_1
               replace hx261_2 := cx_ HB hx261_2
               replace hx261_3 := cx_ HB hx261_3
               replace hx261_4 := cx_ HB hx261_4
               replace hx261_5 := cx_ HB hx261_5
               replace hx261_6 := cx_ HB hx261_6
               replace hx261_7 := cx_ HB hx261_7
               replace hx261_8 := cx_ HB hx261_8
               replace p261 := eq_true p261
               replace q261 := eq_true q261
               go_wp2_with (first | ((with_reducible refine gate_dst (N := 8) rfl ?_); refine bx_ 8 #[.bool false, .bool false, .int .u64 0, .int .u64 0, .int .u64 0, .int .u64 0, .int .u64 0, .int .u64 0, .int .i64 0] 29 ?_; intro gb262 hg w25 hbox hb; have BK262 := ak_ hbox; have GW262 := ak_ (gs_ hg HB); have GE262 := ak_ (gs_ hg HB); replace HB := ak_ (bt_ (bl_ HB) hb); clear hb hbox hg; obtain ⟨hcz26_0, hcz26_1, hcz26_2, hcz26_3, hcz26_4, hcz26_5, hcz26_6, hcz26_7, hcz26_8, hfz26_0, hfz26_1, hfz26_2, hfz26_3, hfz26_4, hfz26_5, hfz26_6, hfz26_7, hfz26_8⟩ := kc9_ BK262.out) | (go_at_call 127; (with_reducible refine (value_Check.calls k1 _ _ l0 true ((rd_T29 l2 x13_1).f1) ((rd_T29 l2 x13_1).f2.f0) ((rd_T29 l2 x13_1).f2.f1) ((rd_T29 l2 x13_1).f3.f0.f0) ((rd_T29 l2 x13_1).f3.f0.f1) ((rd_T29 l2 x13_1).f3.f1.f0) ((rd_T29 l2 x13_1).f3.f1.f1) ((rd_T29 l2 x13_1).f4) t263 _ ?side1 ?side2 A7.out).mono ?_); (case side1 => exact Kd.C_below HR0.out (bw1_ HB GE262)); (case side2 => exact HC0.out); rintro e w27 ⟨rfl, hb⟩; replace BK262 := ak_ (kb_ (g := gb262) (o := .cells #[.bool true, .bool ((rd_T29 l2 x13_1).f1), .int .u64 ((rd_T29 l2 x13_1).f2.f0), .int .u64 ((rd_T29 l2 x13_1).f2.f1), .int .u64 ((rd_T29 l2 x13_1).f3.f0.f0), .int .u64 ((rd_T29 l2 x13_1).f3.f0.f1), .int .u64 ((rd_T29 l2 x13_1).f3.f1.f0), .int .u64 ((rd_T29 l2 x13_1).f3.f1.f1), .int .i64 ((rd_T29 l2 x13_1).f4)] 29 (0, 0)) (by (with_reducible repeat (first | refine kn_ ?_ _ | refine kd_ ?_ | refine ka_ ?_ _)); exact sC_blk BK262.out rfl rfl) hb); replace HB := ak_ (bt_ (bw1_ HB GE262) hb); (try clear hb); (try clear hk); obtain ⟨hcz28_0, hcz28_1, hcz28_2, hcz28_3, hcz28_4, hcz28_5, hcz28_6, hcz28_7, hcz28_8, hfz28_0, hfz28_1, hfz28_2, hfz28_3, hfz28_4, hfz28_5, hfz28_6, hfz28_7, hfz28_8⟩ := kc9_ BK262.out; have p264 : 0 ≤ (((rd_T29 l2 x13_1).f4) : Int) := od_ (by first | (with_reducible assumption) | assumption); have q264 : ((rd_T29 l2 x13_1).f4) < (l0.length : Int) := od_ (by first | (with_reducible assumption) | assumption); obtain ⟨ad264, e264, hx264_0, hx264_1, hx264_2⟩ := at_T75 HR0.out ((rd_T29 l2 x13_1).f4) p264 q264; cases e264; replace hx264_0 := cx_ HB hx264_0; replace hx264_1 := cx_ HB hx264_1; replace hx264_2 := cx_ HB hx264_2; replace p264 := eq_true p264; replace q264 := eq_true q264; have p265 : 0 ≤ (x13_1 : Int) := od_ (by first | (with_reducible assumption) | assumption); have q265 : x13_1 < (l1.length : Int) := od_ (by first | (with_reducible assumption) | assumption); obtain ⟨ad265, e265, hx265_0⟩ := Kd.at_bool HR1.out x13_1 p265 q265; (try rw [← Nbq9.out] at hx265_0); cases e265; replace hx265_0 := cx_ HB hx265_0; replace p265 := eq_true p265; replace q265 := eq_true q265; have p266 : 0 ≤ (0 : Int) := (by omega); have q266 : 0 < (l2.length : Int) := od_ (by first | (with_reducible assumption) | assumption); obtain ⟨ad266, e266, hx266_0, hx266_1, hx266_2, hx266_3, hx266_4, hx266_5, hx266_6, hx266_7, hx266_8⟩ := at_T29 HR2.out 0 p266 q266; (try rw [← Nbq9.out] at hx266_0); (try rw [← Nbq9.out] at hx266_1); obtain rfl : ad261 = ad266 := (by injection e266); have qi266 : (0 < l2.length) = True := eq_true (by omega); (try rw [show ((0 : Int)).toNat = 0 from rfl] at hx266_0); (try rw [show 0 * 9 = 0 from rfl] at hx266_0); (try rw [Addr.add_zero'] at hx266_0); (try rw [show ((0 : Int)).toNat = 0 from rfl] at hx266_1); (try rw [show 0 * 9 = 0 from rfl] at hx266_1); (try rw [Addr.add_zero'] at hx266_1); (try rw [show ((0 : Int)).toNat = 0 from rfl] at hx266_2); (try rw [show 0 * 9 = 0 from rfl] at hx266_2); (try rw [Addr.add_zero'] at hx266_2); (try rw [show ((0 : Int)).toNat = 0 from rfl] at hx266_3); (try rw [show 0 * 9 = 0 from rfl] at hx266_3); (try rw [Addr.add_zero'] at hx266_3); (try rw [show ((0 : Int)).toNat = 0 from rfl] at hx266_4); (try rw [show 0 * 9 = 0 from rfl] at hx266_4); (try rw [Addr.add_zero'] at hx266_4); (try rw [show ((0 : Int)).toNat = 0 from rfl] at hx266_5); (try rw [show 0 * 9 = 0 from rfl] at hx266_5); (try rw [Addr.add_zero'] at hx266_5); (try rw [show ((0 : Int)).toNat = 0 from rfl] at hx266_6); (try rw [show 0 * 9 = 0 from rfl] at hx266_6); (try rw [Addr.add_zero'] at hx266_6); (try rw [show ((0 : Int)).toNat = 0 from rfl] at hx266_7); (try rw [show 0 * 9 = 0 from rfl] at hx266_7); (try rw [Addr.add_zero'] at hx266_7); (try rw [show ((0 : Int)).toNat = 0 from rfl] at hx266_8); (try rw [show 0 * 9 = 0 from rfl] at hx266_8); (try rw [Addr.add_zero'] at hx266_8); replace hx266_0 := cx_ HB hx266_0; replace hx266_1 := cx_ HB hx266_1; replace hx266_2 := cx_ HB hx266_2; replace hx266_3 := cx_ HB hx266_3; replace hx266_4 := cx_ HB hx266_4; replace hx266_5 := cx_ HB hx266_5; replace hx266_6 := cx_ HB hx266_6; replace hx266_7 := cx_ HB hx266_7; replace hx266_8 := cx_ HB hx266_8; replace p266 := eq_true p266; replace q266 := eq_true q266))
               repeat (go_quiet (first | ((with_reducible refine gate_dst (N := 8) rfl ?_); refine bx_ 8 #[.bool false, .bool false, .int .u64 0, .int .u64 0, .int .u64 0, .int .u64 0, .int .u64 0, .int .u64 0, .int .i64 0] 29 ?_; intro gb262 hg w25 hbox hb; have BK262 := ak_ hbox; have GW262 := ak_ (gs_ hg HB); have GE262 := ak_ (gs_ hg HB); replace HB := ak_ (bt_ (bl_ HB) hb); clear hb hbox hg; obtain ⟨hcz26_0, hcz26_1, hcz26_2, hcz26_3, hcz26_4, hcz26_5, hcz26_6, hcz26_7, hcz26_8, hfz26_0, hfz26_1, hfz26_2, hfz26_3, hfz26_4, hfz26_5, hfz26_6, hfz26_7, hfz26_8⟩ := kc9_ BK262.out) | (go_at_call 127; (with_reducible refine (value_Check.calls k1 _ _ l0 true ((rd_T29 l2 x13_1).f1) ((rd_T29 l2 x13_1).f2.f0) ((rd_T29 l2 x13_1).f2.f1) ((rd_T29 l2 x13_1).f3.f0.f0) ((rd_T29 l2 x13_1).f3.f0.f1) ((rd_T29 l2 x13_1).f3.f1.f0) ((rd_T29 l2 x13_1).f3.f1.f1) ((rd_T29 l2 x13_1).f4) t263 _ ?side1 ?side2 A7.out).mono ?_); (case side1 => exact Kd.C_below HR0.out (bw1_ HB GE262)); (case side2 => exact HC0.out); rintro e w27 ⟨rfl, hb⟩; replace BK262 := ak_ (kb_ (g := gb262) (o := .cells #[.bool true, .bool ((rd_T29 l2 x13_1).f1), .int .u64 ((rd_T29 l2 x13_1).f2.f0), .int .u64 ((rd_T29 l2 x13_1).f2.f1), .int .u64 ((rd_T29 l2 x13_1).f3.f0.f0), .int .u64 ((rd_T29 l2 x13_1).f3.f0.f1), .int .u64 ((rd_T29 l2 x13_1).f3.f1.f0), .int .u64 ((rd_T29 l2 x13_1).f3.f1.f1), .int .i64 ((rd_T29 l2 x13_1).f4)] 29 (0, 0)) (by (with_reducible repeat (first | refine kn_ ?_ _ | refine kd_ ?_ | refine ka_ ?_ _)); exact sC_blk BK262.out rfl rfl) hb); replace HB := ak_ (bt_ (bw1_ HB GE262) hb); (try clear hb); (try clear hk); obtain ⟨hcz28_0, hcz28_1, hcz28_2, hcz28_3, hcz28_4, hcz28_5, hcz28_6, hcz28_7, hcz28_8, hfz28_0, hfz28_1, hfz28_2, hfz28_3, hfz28_4, hfz28_5, hfz28_6, hfz28_7, hfz28_8⟩ := kc9_ BK262.out; have p264 : 0 ≤ (((rd_T29 l2 x13_1).f4) : Int) := od_ (by first | (with_reducible assumption) | assumption); have q264 : ((rd_T29 l2 x13_1).f4) < (l0.length : Int) := od_ (by first | (with_reducible assumption) | assumption); obtain ⟨ad264, e264, hx264_0, hx264_1, hx264_2⟩ := at_T75 HR0.out ((rd_T29 l2 x13_1).f4) p264 q264; cases e264; replace hx264_0 := cx_ HB hx264_0; replace hx264_1 := cx_ HB hx264_1; replace hx264_2 := cx_ HB hx264_2; replace p264 := eq_true p264; replace q264 := eq_true q264; have p265 : 0 ≤ (x13_1 : Int) := od_ (by first | (with_reducible assumption) | assumption); have q265 : x13_1 < (l1.length : Int) := od_ (by first | (with_reducible assumption) | assumption); obtain ⟨ad265, e265, hx265_0⟩ := Kd.at_bool HR1.out x13_1 p265 q265; (try rw [← Nbq9.out] at hx265_0); cases e265; replace hx265_0 := cx_ HB hx265_0; replace p265 := eq_true p265; replace q265 := eq_true q265; have p266 : 0 ≤ (0 : Int) := (by omega); have q266 : 0 < (l2.length : Int) := od_ (by first | (with_reducible assumption) | assumption); obtain ⟨ad266, e266, hx266_0, hx266_1, hx266_2, hx266_3, hx266_4, hx266_5, hx266_6, hx266_7, hx266_8⟩ := at_T29 HR2.out 0 p266 q266; (try rw [← Nbq9.out] at hx266_0); (try rw [← Nbq9.out] at hx266_1); obtain rfl : ad261 = ad266 := (by injection e266); have qi266 : (0 < l2.length) = True := eq_true (by omega); (try rw [show ((0 : Int)).toNat = 0 from rfl] at hx266_0); (try rw [show 0 * 9 = 0 from rfl] at hx266_0); (try rw [Addr.add_zero'] at hx266_0); (try rw [show ((0 : Int)).toNat = 0 from rfl] at hx266_1); (try rw [show 0 * 9 = 0 from rfl] at hx266_1); (try rw [Addr.add_zero'] at hx266_1); (try rw [show ((0 : Int)).toNat = 0 from rfl] at hx266_2); (try rw [show 0 * 9 = 0 from rfl] at hx266_2); (try rw [Addr.add_zero'] at hx266_2); (try rw [show ((0 : Int)).toNat = 0 from rfl] at hx266_3); (try rw [show 0 * 9 = 0 from rfl] at hx266_3); (try rw [Addr.add_zero'] at hx266_3); (try rw [show ((0 : Int)).toNat = 0 from rfl] at hx266_4); (try rw [show 0 * 9 = 0 from rfl] at hx266_4); (try rw [Addr.add_zero'] at hx266_4); (try rw [show ((0 : Int)).toNat = 0 from rfl] at hx266_5); (try rw [show 0 * 9 = 0 from rfl] at hx266_5); (try rw [Addr.add_zero'] at hx266_5); (try rw [show ((0 : Int)).toNat = 0 from rfl] at hx266_6); (try rw [show 0 * 9 = 0 from rfl] at hx266_6); (try rw [Addr.add_zero'] at hx266_6); (try rw [show ((0 : Int)).toNat = 0 from rfl] at hx266_7); (try rw [show 0 * 9 = 0 from rfl] at hx266_7); (try rw [Addr.add_zero'] at hx266_7); (try rw [show ((0 : Int)).toNat = 0 from rfl] at hx266_8); (try rw [show 0 * 9 = 0 from rfl] at hx266_8); (try rw [Addr.add_zero'] at hx266_8); replace hx266_0 := cx_ HB hx266_0; replace hx266_1 := cx_ HB hx266_1; replace hx266_2 := cx_ HB hx266_2; replace hx266_3 := cx_ HB hx266_3; replace hx266_4 := cx_ HB hx266_4; replace hx266_5 := cx_ HB hx266_5; replace hx266_6 := cx_ HB hx266_6; replace hx266_7 := cx_ HB hx266_7; replace hx266_8 := cx_ HB hx266_8; replace p266 := eq_true p266; replace q266 := eq_true q266)); try go_wp2_with (first | ((with_reducible refine gate_dst (N := 8) rfl ?_); refine bx_ 8 #[.bool false, .bool false, .int .u64 0, .int .u64 0, .int .u64 0, .int .u64 0, .int .u64 0, .int .u64 0, .int .i64 0] 29 ?_; intro gb262 hg w25 hbox hb; have BK262 := ak_ hbox; have GW262 := ak_ (gs_ hg HB); have GE262 := ak_ (gs_ hg HB); replace HB := ak_ (bt_ (bl_ HB) hb); clear hb hbox hg; obtain ⟨hcz26_0, hcz26_1, hcz26_2, hcz26_3, hcz26_4, hcz26_5, hcz26_6, hcz26_7, hcz26_8, hfz26_0, hfz26_1, hfz26_2, hfz26_3, hfz26_4, hfz26_5, hfz26_6, hfz26_7, hfz26_8⟩ := kc9_ BK262.out) | (go_at_call 127; (with_reducible refine (value_Check.calls k1 _ _ l0 true ((rd_T29 l2 x13_1).f1) ((rd_T29 l2 x13_1).f2.f0) ((rd_T29 l2 x13_1).f2.f1) ((rd_T29 l2 x13_1).f3.f0.f0) ((rd_T29 l2 x13_1).f3.f0.f1) ((rd_T29 l2 x13_1).f3.f1.f0) ((rd_T29 l2 x13_1).f3.f1.f1) ((rd_T29 l2 x13_1).f4) t263 _ ?side1 ?side2 A7.out).mono ?_); (case side1 => exact Kd.C_below HR0.out (bw1_ HB GE262)); (case side2 => exact HC0.out); rintro e w27 ⟨rfl, hb⟩; replace BK262 := ak_ (kb_ (g := gb262) (o := .cells #[.bool true, .bool ((rd_T29 l2 x13_1).f1), .int .u64 ((rd_T29 l2 x13_1).f2.f0), .int .u64 ((rd_T29 l2 x13_1).f2.f1), .int .u64 ((rd_T29 l2 x13_1).f3.f0.f0), .int .u64 ((rd_T29 l2 x13_1).f3.f0.f1), .int .u64 ((rd_T29 l2 x13_1).f3.f1.f0), .int .u64 ((rd_T29 l2 x13_1).f3.f1.f1), .int .i64 ((rd_T29 l2 x13_1).f4)] 29 (0, 0)) (by (with_reducible repeat (first | refine kn_ ?_ _ | refine kd_ ?_ | refine ka_ ?_ _)); exact sC_blk BK262.out rfl rfl) hb); replace HB := ak_ (bt_ (bw1_ HB GE262) hb); (try clear hb); (try clear hk); obtain ⟨hcz28_0, hcz28_1, hcz28_2, hcz28_3, hcz28_4, hcz28_5, hcz28_6, hcz28_7, hcz28_8, hfz28_0, hfz28_1, hfz28_2, hfz28_3, hfz28_4, hfz28_5, hfz28_6, hfz28_7, hfz28_8⟩ := kc9_ BK262.out; have p264 : 0 ≤ (((rd_T29 l2 x13_1).f4) : Int) := od_ (by first | (with_reducible assumption) | assumption); have q264 : ((rd_T29 l2 x13_1).f4) < (l0.length : Int) := od_ (by first | (with_reducible assumption) | assumption); obtain ⟨ad264, e264, hx264_0, hx264_1, hx264_2⟩ := at_T75 HR0.out ((rd_T29 l2 x13_1).f4) p264 q264; cases e264; replace hx264_0 := cx_ HB hx264_0; replace hx264_1 := cx_ HB hx264_1; replace hx264_2 := cx_ HB hx264_2; replace p264 := eq_true p264; replace q264 := eq_true q264; have p265 : 0 ≤ (x13_1 : Int) := od_ (by first | (with_reducible assumption) | assumption); have q265 : x13_1 < (l1.length : Int) := od_ (by first | (with_reducible assumption) | assumption); obtain ⟨ad265, e265, hx265_0⟩ := Kd.at_bool HR1.out x13_1 p265 q265; (try rw [← Nbq9.out] at hx265_0); cases e265; replace hx265_0 := cx_ HB hx265_0; replace p265 := eq_true p265; replace q265 := eq_true q265; have p266 : 0 ≤ (0 : Int) := (by omega); have q266 : 0 < (l2.length : Int) := od_ (by first | (with_reducible assumption) | assumption); obtain ⟨ad266, e266, hx266_0, hx266_1, hx266_2, hx266_3, hx266_4, hx266_5, hx266_6, hx266_7, hx266_8⟩ := at_T29 HR2.out 0 p266 q266; (try rw [← Nbq9.out] at hx266_0); (try rw [← Nbq9.out] at hx266_1); obtain rfl : ad261 = ad266 := (by injection e266); have qi266 : (0 < l2.length) = True := eq_true (by omega); (try rw [show ((0 : Int)).toNat = 0 from rfl] at hx266_0); (try rw [show 0 * 9 = 0 from rfl] at hx266_0); (try rw [Addr.add_zero'] at hx266_0); (try rw [show ((0 : Int)).toNat = 0 from rfl] at hx266_1); (try rw [show 0 * 9 = 0 from rfl] at hx266_1); (try rw [Addr.add_zero'] at hx266_1); (try rw [show ((0 : Int)).toNat = 0 from rfl] at hx266_2); (try rw [show 0 * 9 = 0 from rfl] at hx266_2); (try rw [Addr.add_zero'] at hx266_2); (try rw [show ((0 : Int)).toNat = 0 from rfl] at hx266_3); (try rw [show 0 * 9 = 0 from rfl] at hx266_3); (try rw [Addr.add_zero'] at hx266_3); (try rw [show ((0 : Int)).toNat = 0 from rfl] at hx266_4); (try rw [show 0 * 9 = 0 from rfl] at hx266_4); (try rw [Addr.add_zero'] at hx266_4); (try rw [show ((0 : Int)).toNat = 0 from rfl] at hx266_5); (try rw [show 0 * 9 = 0 from rfl] at hx266_5); (try rw [Addr.add_zero'] at hx266_5); (try rw [show ((0 : Int)).toNat = 0 from rfl] at hx266_6); (try rw [show 0 * 9 = 0 from rfl] at hx266_6); (try rw [Addr.add_zero'] at hx266_6); (try rw [show ((0 : Int)).toNat = 0 from rfl] at hx266_7); (try rw [show 0 * 9 = 0 from rfl] at hx266_7); (try rw [Addr.add_zero'] at hx266_7); (try rw [show ((0 : Int)).toNat = 0 from rfl] at hx266_8); (try rw [show 0 * 9 = 0 from rfl] at hx266_8); (try rw [Addr.add_zero'] at hx266_8); replace hx266_0 := cx_ HB hx266_0; replace hx266_1 := cx_ HB hx266_1; replace hx266_2 := cx_ HB hx266_2; replace hx266_3 := cx_ HB hx266_3; replace hx266_4 := cx_ HB hx266_4; replace hx266_5 := cx_ HB hx266_5; replace hx266_6 := cx_ HB hx266_6; replace hx266_7 := cx_ HB hx266_7; replace hx266_8 := cx_ HB hx266_8; replace p266 := eq_true p266; replace q266 := eq_true q266)))
               go_roundg k1
               case measure => have := HK1.out; omega
               case rel => exact ⟨(wrap64 (x13_1 + 1)), rf_, H', ⟨by have := HK1.out; omega⟩, ⟨bw1_ HB GE262⟩⟩
             ·rw [if_neg c19] at H
              exact absurd H (by simp)
           ·rw [if_neg c13] at H
            exact absurd H (by simp)
          ·rw [if_neg c12] at H
           exact absurd H (by simp)
         ·rw [if_neg c11] at H
          exact absurd H (by simp)
        ·replace c10 := Bool.eq_false_iff.mpr c10
         subst c10
         have n_ := A7.out
         rw [← Nbq9.out] at n_
         clear A7
         have A7 := ak_ n_
         clear n_
         have H1 : (if x13_1 < (l1.length : Int) then (if (((rd_T29 l2 x13_1).f1) != (rdOf false l1 x13_1)) = true then (some 1) else (if 0 < (l2.length : Int) then (if ((false) != ((rd_T29 l2 0).f0)) = true then (some 1) else (value_is.l0 k1 l0 l1 l2 l2 (l2.length : Int) (wrap64 (x13_1 + 1)))) else (none))) else (none)) = some r := by rw [if_neg (show ¬ (false = true) by decide)] at H; exact H
         clear H
         have H := H1
         clear H1
         by_cases c29 : x13_1 < (l1.length : Int)
         ·rw [if_pos c29] at H
          have c29b0 := decide_eq_true c29
          clear c29
          by_cases c30 : (((rd_T29 l2 x13_1).f1) != (rdOf false l1 x13_1)) = true
          ·rw [if_pos c30] at H
           have c30b0 : (((rd_T29 l2 x13_1).f1) != (rdOf false l1 x13_1)) = true := c30
           (try (have c30b1 : decide (((rd_T29 l2 x13_1).f1) = (rdOf false l1 x13_1)) = false := by simpa using c30))
           (try (have c30b2 : (((rd_T29 l2 x13_1).f1) == (rdOf false l1 x13_1)) = false := by simpa using c30))
           (try (have c30b3 : ¬ (((rd_T29 l2 x13_1).f1) = (rdOf false l1 x13_1)) := by simpa using c30))
           clear c30
           obtain rfl := Option.some.inj H
           have p261 : 0 ≤ (x13_1 : Int) := od_ (by first | (with_reducible assumption) | assumption)
           have q261 : x13_1 < (l2.length : Int) := od_ (by first | (with_reducible assumption) | assumption)
           obtain ⟨ad261, e261, hx261_0, hx261_1, hx261_2, hx261_3, hx261_4, hx261_5, hx261_6, hx261_7, hx261_8⟩ := at_T29 HR2.out x13_1 p261 q261
           (try rw [← Nbq9.out] at hx261_0)
           (try rw [← Nbq9.out] at hx261_1)
           cases e261
           replace hx261_0 := cx_ HB hx261_0
           replace hx261_1 := cx_ HB hx261_1
           replace hx261_2 := cx_ HB hx261_2
           replace hx261_3 := cx_ HB hx261_3
           replace hx261_4 := cx_ HB hx261_4
           replace hx261_5 := cx_ HB hx261_5
           replace hx261_6 := cx_ HB hx261_6
           replace hx261_7 := cx_ HB hx261_7
           replace hx261_8 := cx_ HB hx261_8
           replace p261 := eq_true p261
           replace q261 := eq_true q261
           go_wp2_with (first | ((with_reducible refine gate_dst (N := 8) rfl ?_); refine bx_ 8 #[.bool false, .bool false, .int .u64 0, .int .u64 0, .int .u64 0, .int .u64 0, .int .u64 0, .int .u64 0, .int .i64 0] 29 ?_; intro gb262 hg w31 hbox hb; have BK262 := ak_ hbox; have GW262 := ak_ (gs_ hg HB); have GE262 := ak_ (gs_ hg HB); replace HB := ak_ (bt_ (bl_ HB) hb); clear hb hbox hg; obtain ⟨hcz32_0, hcz32_1, hcz32_2, hcz32_3, hcz32_4, hcz32_5, hcz32_6, hcz32_7, hcz32_8, hfz32_0, hfz32_1, hfz32_2, hfz32_3, hfz32_4, hfz32_5, hfz32_6, hfz32_7, hfz32_8⟩ := kc9_ BK262.out) | (go_at_call 127; (with_reducible refine (value_Check.calls k1 _ _ l0 false ((rd_T29 l2 x13_1).f1) ((rd_T29 l2 x13_1).f2.f0) ((rd_T29 l2 x13_1).f2.f1) ((rd_T29 l2 x13_1).f3.f0.f0) ((rd_T29 l2 x13_1).f3.f0.f1) ((rd_T29 l2 x13_1).f3.f1.f0) ((rd_T29 l2 x13_1).f3.f1.f1) ((rd_T29 l2 x13_1).f4) t263 _ ?side1 ?side2 A7.out).mono ?_); (case side1 => exact Kd.C_below HR0.out (bw1_ HB GE262)); (case side2 => exact HC0.out); rintro e w33 ⟨rfl, hb⟩; replace BK262 := ak_ (kb_ (g := gb262) (o := .cells #[.bool false, .bool ((rd_T29 l2 x13_1).f1), .int .u64 ((rd_T29 l2 x13_1).f2.f0), .int .u64 ((rd_T29 l2 x13_1).f2.f1), .int .u64 ((rd_T29 l2 x13_1).f3.f0.f0), .int .u64 ((rd_T29 l2 x13_1).f3.f0.f1), .int .u64 ((rd_T29 l2 x13_1).f3.f1.f0), .int .u64 ((rd_T29 l2 x13_1).f3.f1.f1), .int .i64 ((rd_T29 l2 x13_1).f4)] 29 (0, 0)) (by (with_reducible repeat (first | refine kn_ ?_ _ | refine kd_ ?_ | refine ka_ ?_ _)); exact sC_blk BK262.out rfl rfl) hb); replace HB := ak_ (bt_ (bw1_ HB GE262) hb); (try clear hb); (try clear hk); obtain ⟨hcz34_0, hcz34_1, hcz34_2, hcz34_3, hcz34_4, hcz34_5, hcz34_6, hcz34_7, hcz34_8, hfz34_0, hfz34_1, hfz34_2, hfz34_3, hfz34_4, hfz34_5, hfz34_6, hfz34_7, hfz34_8⟩ := kc9_ BK262.out; have p267 : 0 ≤ (x13_1 : Int) := od_ (by first | (with_reducible assumption) | assumption); have q267 : x13_1 < (l1.length : Int) := od_ (by first | (with_reducible assumption) | assumption); obtain ⟨ad267, e267, hx267_0⟩ := Kd.at_bool HR1.out x13_1 p267 q267; (try rw [← Nbq9.out] at hx267_0); cases e267; replace hx267_0 := cx_ HB hx267_0; replace p267 := eq_true p267; replace q267 := eq_true q267))
           repeat (go_quiet (first | ((with_reducible refine gate_dst (N := 8) rfl ?_); refine bx_ 8 #[.bool false, .bool false, .int .u64 0, .int .u64 0, .int .u64 0, .int .u64 0, .int .u64 0, .int .u64 0, .int .i64 0] 29 ?_; intro gb262 hg w31 hbox hb; have BK262 := ak_ hbox; have GW262 := ak_ (gs_ hg HB); have GE262 := ak_ (gs_ hg HB); replace HB := ak_ (bt_ (bl_ HB) hb); clear hb hbox hg; obtain ⟨hcz32_0, hcz32_1, hcz32_2, hcz32_3, hcz32_4, hcz32_5, hcz32_6, hcz32_7, hcz32_8, hfz32_0, hfz32_1, hfz32_2, hfz32_3, hfz32_4, hfz32_5, hfz32_6, hfz32_7, hfz32_8⟩ := kc9_ BK262.out) | (go_at_call 127; (with_reducible refine (value_Check.calls k1 _ _ l0 false ((rd_T29 l2 x13_1).f1) ((rd_T29 l2 x13_1).f2.f0) ((rd_T29 l2 x13_1).f2.f1) ((rd_T29 l2 x13_1).f3.f0.f0) ((rd_T29 l2 x13_1).f3.f0.f1) ((rd_T29 l2 x13_1).f3.f1.f0) ((rd_T29 l2 x13_1).f3.f1.f1) ((rd_T29 l2 x13_1).f4) t263 _ ?side1 ?side2 A7.out).mono ?_); (case side1 => exact Kd.C_below HR0.out (bw1_ HB GE262)); (case side2 => exact HC0.out); rintro e w33 ⟨rfl, hb⟩; replace BK262 := ak_ (kb_ (g := gb262) (o := .cells #[.bool false, .bool ((rd_T29 l2 x13_1).f1), .int .u64 ((rd_T29 l2 x13_1).f2.f0), .int .u64 ((rd_T29 l2 x13_1).f2.f1), .int .u64 ((rd_T29 l2 x13_1).f3.f0.f0), .int .u64 ((rd_T29 l2 x13_1).f3.f0.f1), .int .u64 ((rd_T29 l2 x13_1).f3.f1.f0), .int .u64 ((rd_T29 l2 x13_1).f3.f1.f1), .int .i64 ((rd_T29 l2 x13_1).f4)] 29 (0, 0)) (by (with_reducible repeat (first | refine kn_ ?_ _ | refine kd_ ?_ | refine ka_ ?_ _)); exact sC_blk BK262.out rfl rfl) hb); replace HB := ak_ (bt_ (bw1_ HB GE262) hb); (try clear hb); (try clear hk); obtain ⟨hcz34_0, hcz34_1, hcz34_2, hcz34_3, hcz34_4, hcz34_5, hcz34_6, hcz34_7, hcz34_8, hfz34_0, hfz34_1, hfz34_2, hfz34_3, hfz34_4, hfz34_5, hfz34_6, hfz34_7, hfz34_8⟩ := kc9_ BK262.out; have p267 : 0 ≤ (x13_1 : Int) := od_ (by first | (with_reducible assumption) | assumption); have q267 : x13_1 < (l1.length : Int) := od_ (by first | (with_reducible assumption) | assumption); obtain ⟨ad267, e267, hx267_0⟩ := Kd.at_bool HR1.out x13_1 p267 q267; (try rw [← Nbq9.out] at hx267_0); cases e267; replace hx267_0 := cx_ HB hx267_0; replace p267 := eq_true p267; replace q267 := eq_true q267)); try go_wp2_with (first | ((with_reducible refine gate_dst (N := 8) rfl ?_); refine bx_ 8 #[.bool false, .bool false, .int .u64 0, .int .u64 0, .int .u64 0, .int .u64 0, .int .u64 0, .int .u64 0, .int .i64 0] 29 ?_; intro gb262 hg w31 hbox hb; have BK262 := ak_ hbox; have GW262 := ak_ (gs_ hg HB); have GE262 := ak_ (gs_ hg HB); replace HB := ak_ (bt_ (bl_ HB) hb); clear hb hbox hg; obtain ⟨hcz32_0, hcz32_1, hcz32_2, hcz32_3, hcz32_4, hcz32_5, hcz32_6, hcz32_7, hcz32_8, hfz32_0, hfz32_1, hfz32_2, hfz32_3, hfz32_4, hfz32_5, hfz32_6, hfz32_7, hfz32_8⟩ := kc9_ BK262.out) | (go_at_call 127; (with_reducible refine (value_Check.calls k1 _ _ l0 false ((rd_T29 l2 x13_1).f1) ((rd_T29 l2 x13_1).f2.f0) ((rd_T29 l2 x13_1).f2.f1) ((rd_T29 l2 x13_1).f3.f0.f0) ((rd_T29 l2 x13_1).f3.f0.f1) ((rd_T29 l2 x13_1).f3.f1.f0) ((rd_T29 l2 x13_1).f3.f1.f1) ((rd_T29 l2 x13_1).f4) t263 _ ?side1 ?side2 A7.out).mono ?_); (case side1 => exact Kd.C_below HR0.out (bw1_ HB GE262)); (case side2 => exact HC0.out); rintro e w33 ⟨rfl, hb⟩; replace BK262 := ak_ (kb_ (g := gb262) (o := .cells #[.bool false, .bool ((rd_T29 l2 x13_1).f1), .int .u64 ((rd_T29 l2 x13_1).f2.f0), .int .u64 ((rd_T29 l2 x13_1).f2.f1), .int .u64 ((rd_T29 l2 x13_1).f3.f0.f0), .int .u64 ((rd_T29 l2 x13_1).f3.f0.f1), .int .u64 ((rd_T29 l2 x13_1).f3.f1.f0), .int .u64 ((rd_T29 l2 x13_1).f3.f1.f1), .int .i64 ((rd_T29 l2 x13_1).f4)] 29 (0, 0)) (by (with_reducible repeat (first | refine kn_ ?_ _ | refine kd_ ?_ | refine ka_ ?_ _)); exact sC_blk BK262.out rfl rfl) hb); replace HB := ak_ (bt_ (bw1_ HB GE262) hb); (try clear hb); (try clear hk); obtain ⟨hcz34_0, hcz34_1, hcz34_2, hcz34_3, hcz34_4, hcz34_5, hcz34_6, hcz34_7, hcz34_8, hfz34_0, hfz34_1, hfz34_2, hfz34_3, hfz34_4, hfz34_5, hfz34_6, hfz34_7, hfz34_8⟩ := kc9_ BK262.out; have p267 : 0 ≤ (x13_1 : Int) := od_ (by first | (with_reducible assumption) | assumption); have q267 : x13_1 < (l1.length : Int) := od_ (by first | (with_reducible assumption) | assumption); obtain ⟨ad267, e267, hx267_0⟩ := Kd.at_bool HR1.out x13_1 p267 q267; (try rw [← Nbq9.out] at hx267_0); cases e267; replace hx267_0 := cx_ HB hx267_0; replace p267 := eq_true p267; replace q267 := eq_true q267)))
           go_ret
           exact ea_ (bw1_ HB GE262)
          ·rw [if_neg c30] at H
           have c30b0 : (((rd_T29 l2 x13_1).f1) != (rdOf false l1 x13_1)) = false := by simpa using c30
           (try (have c30b1 : decide (((rd_T29 l2 x13_1).f1) = (rdOf false l1 x13_1)) = true := by simpa using c30))
           (try (have c30b2 : (((rd_T29 l2 x13_1).f1) == (rdOf false l1 x13_1)) = true := by simpa using c30))
           clear c30
           by_cases c35 : 0 < (l2.length : Int)
           ·rw [if_pos c35] at H
            have c35b0 := decide_eq_true c35
            have c35b1 : decide (0 < l2.length) = true := decide_eq_true (by omega)
            clear c35
            by_cases c36 : ((false) != ((rd_T29 l2 0).f0)) = true
            ·rw [if_pos c36] at H
             have c36b0 : ((false) != ((rd_T29 l2 0).f0)) = true := c36
             (try (have c36b1 : decide ((false) = ((rd_T29 l2 0).f0)) = false := by simpa using c36))
             (try (have c36b2 : ((false) == ((rd_T29 l2 0).f0)) = false := by simpa using c36))
             (try (have c36b3 : ¬ ((false) = ((rd_T29 l2 0).f0)) := by simpa using c36))
             clear c36
             obtain rfl := Option.some.inj H
             have p261 : 0 ≤ (x13_1 : Int) := od_ (by first | (with_reducible assumption) | assumption)
             have q261 : x13_1 < (l2.length : Int) := od_ (by first | (with_reducible assumption) | assumption)
             obtain ⟨ad261, e261, hx261_0, hx261_1, hx261_2, hx261_3, hx261_4, hx261_5, hx261_6, hx261_7, hx261_8⟩ := at_T29 HR2.out x13_1 p261 q261
             (try rw [← Nbq9.out] at hx261_0)
             (try rw [← Nbq9.out] at hx261_1)
             cases e261
             replace hx261_0 := cx_ HB hx261_0
             replace hx261_1 := cx_ HB hx261_1
             replace hx261_2 := cx_ HB hx261_2
             replace hx261_3 := cx_ HB hx261_3
             replace hx261_4 := cx_ HB hx261_4
             replace hx261_5 := cx_ HB hx261_5
             replace hx261_6 := cx_ HB hx261_6
             replace hx261_7 := cx_ HB hx261_7
             replace hx261_8 := cx_ HB hx261_8
             replace p261 := eq_true p261
             replace q261 := eq_true q261
             go_wp2_with (first | ((with_reducible refine gate_dst (N := 8) rfl ?_); refine bx_ 8 #[.bool false, .bool false, .int .u64 0, .int .u64 0, .int .u64 0, .int .u64 0, .int .u64 0, .int .u64 0, .int .i64 0] 29 ?_; intro gb262 hg w37 hbox hb; have BK262 := ak_ hbox; have GW262 := ak_ (gs_ hg HB); have GE262 := ak_ (gs_ hg HB); replace HB := ak_ (bt_ (bl_ HB) hb); clear hb hbox hg; obtain ⟨hcz38_0, hcz38_1, hcz38_2, hcz38_3, hcz38_4, hcz38_5, hcz38_6, hcz38_7, hcz38_8, hfz38_0, hfz38_1, hfz38_2, hfz38_3, hfz38_4, hfz38_5, hfz38_6, hfz38_7, hfz38_8⟩ := kc9_ BK262.out) | (go_at_call 127; (with_reducible refine (value_Check.calls k1 _ _ l0 false ((rd_T29 l2 x13_1).f1) ((rd_T29 l2 x13_1).f2.f0) ((rd_T29 l2 x13_1).f2.f1) ((rd_T29 l2 x13_1).f3.f0.f0) ((rd_T29 l2 x13_1).f3.f0.f1) ((rd_T29 l2 x13_1).f3.f1.f0) ((rd_T29 l2 x13_1).f3.f1.f1) ((rd_T29 l2 x13_1).f4) t263 _ ?side1 ?side2 A7.out).mono ?_); (case side1 => exact Kd.C_below HR0.out (bw1_ HB GE262)); (case side2 => exact HC0.out); rintro e w39 ⟨rfl, hb⟩; replace BK262 := ak_ (kb_ (g := gb262) (o := .cells #[.bool false, .bool ((rd_T29 l2 x13_1).f1), .int .u64 ((rd_T29 l2 x13_1).f2.f0), .int .u64 ((rd_T29 l2 x13_1).f2.f1), .int .u64 ((rd_T29 l2 x13_1).f3.f0.f0), .int .u64 ((rd_T29 l2 x13_1).f3.f0.f1), .int .u64 ((rd_T29 l2 x13_1).f3.f1.f0), .int .u64 ((rd_T29 l2 x13_1).f3.f1.f1), .int .i64 ((rd_T29 l2 x13_1).f4)] 29 (0, 0)) (by (with_reducible repeat (first | refine kn_ ?_ _ | refine kd_ ?_ | refine ka_ ?_ _)); exact sC_blk BK262.out rfl rfl) hb); replace HB := ak_ (bt_ (bw1_ HB GE262) hb); (try clear hb); (try clear hk); obtain ⟨hcz40_0, hcz40_1, hcz40_2, hcz40_3, hcz40_4, hcz40_5, hcz40_6, hcz40_7, hcz40_8, hfz40_0, hfz40_1, hfz40_2, hfz40_3, hfz40_4, hfz40_5, hfz40_6, hfz40_7, hfz40_8⟩ := kc9_ BK262.out; have p267 : 0 ≤ (x13_1 : Int) := od_ (by first | (with_reducible assumption) | assumption); have q267 : x13_1 < (l1.length : Int) := od_ (by first | (with_reducible assumption) | assumption); obtain ⟨ad267, e267, hx267_0⟩ := Kd.at_bool HR1.out x13_1 p267 q267; (try rw [← Nbq9.out] at hx267_0); cases e267; replace hx267_0 := cx_ HB hx267_0; replace p267 := eq_true p267; replace q267 := eq_true q267; have p268 : 0 ≤ (0 : Int) := (by omega); have q268 : 0 < (l2.length : Int) := od_ (by first | (with_reducible assumption) | assumption); obtain ⟨ad268, e268, hx268_0, hx268_1, hx268_2, hx268_3, hx268_4, hx268_5, hx268_6, hx268_7, hx268_8⟩ := at_T29 HR2.out 0 p268 q268; (try rw [← Nbq9.out] at hx268_0); (try rw [← Nbq9.out] at hx268_1); obtain rfl : ad261 = ad268 := (by injection e268); have qi268 : (0 < l2.length) = True := eq_true (by omega); (try rw [show ((0 : Int)).toNat = 0 from rfl] at hx268_0); (try rw [show 0 * 9 = 0 from rfl] at hx268_0); (try rw [Addr.add_zero'] at hx268_0); (try rw [show ((0 : Int)).toNat = 0 from rfl] at hx268_1); (try rw [show 0 * 9 = 0 from rfl] at hx268_1); (try rw [Addr.add_zero'] at hx268_1); (try rw [show ((0 : Int)).toNat = 0 from rfl] at hx268_2); (try rw [show 0 * 9 = 0 from rfl] at hx268_2); (try rw [Addr.add_zero'] at hx268_2); (try rw [show ((0 : Int)).toNat = 0 from rfl] at hx268_3); (try rw [show 0 * 9 = 0 from rfl] at hx268_3); (try rw [Addr.add_zero'] at hx268_3); (try rw [show ((0 : Int)).toNat = 0 from rfl] at hx268_4); (try rw [show 0 * 9 = 0 from rfl] at hx268_4); (try rw [Addr.add_zero'] at hx268_4); (try rw [show ((0 : Int)).toNat = 0 from rfl] at hx268_5); (try rw [show 0 * 9 = 0 from rfl] at hx268_5); (try rw [Addr.add_zero'] at hx268_5); (try rw [show ((0 : Int)).toNat = 0 from rfl] at hx268_6); (try rw [show 0 * 9 = 0 from rfl] at hx268_6); (try rw [Addr.add_zero'] at hx268_6); (try rw [show ((0 : Int)).toNat = 0 from rfl] at hx268_7); (try rw [show 0 * 9 = 0 from rfl] at hx268_7); (try rw [Addr.add_zero'] at hx268_7); (try rw [show ((0 : Int)).toNat = 0 from rfl] at hx268_8); (try rw [show 0 * 9 = 0 from rfl] at hx268_8); (try rw [Addr.add_zero'] at hx268_8); replace hx268_0 := cx_ HB hx268_0; replace hx268_1 := cx_ HB hx268_1; replace hx268_2 := cx_ HB hx268_2; replace hx268_3 := cx_ HB hx268_3; replace hx268_4 := cx_ HB hx268_4; replace hx268_5 := cx_ HB hx268_5; replace hx268_6 := cx_ HB hx268_6; replace hx268_7 := cx_ HB hx268_7; replace hx268_8 := cx_ HB hx268_8; replace p268 := eq_true p268; replace q268 := eq_true q268))
             repeat (go_quiet (first | ((with_reducible refine gate_dst (N := 8) rfl ?_); refine bx_ 8 #[.bool false, .bool false, .int .u64 0, .int .u64 0, .int .u64 0, .int .u64 0, .int .u64 0, .int .u64 0, .int .i64 0] 29 ?_; intro gb262 hg w37 hbox hb; have BK262 := ak_ hbox; have GW262 := ak_ (gs_ hg HB); have GE262 := ak_ (gs_ hg HB); replace HB := ak_ (bt_ (bl_ HB) hb); clear hb hbox hg; obtain ⟨hcz38_0, hcz38_1, hcz38_2, hcz38_3, hcz38_4, hcz38_5, hcz38_6, hcz38_7, hcz38_8, hfz38_0, hfz38_1, hfz38_2, hfz38_3, hfz38_4, hfz38_5, hfz38_6, hfz38_7, hfz38_8⟩ := kc9_ BK262.out) | (go_at_call 127; (with_reducible refine (value_Check.calls k1 _ _ l0 false ((rd_T29 l2 x13_1).f1) ((rd_T29 l2 x13_1).f2.f0) ((rd_T29 l2 x13_1).f2.f1) ((rd_T29 l2 x13_1).f3.f0.f0) ((rd_T29 l2 x13_1).f3.f0.f1) ((rd_T29 l2 x13_1).f3.f1.f0) ((rd_T29 l2 x13_1).f3.f1.f1) ((rd_T29 l2 x13_1).f4) t263 _ ?side1 ?side2 A7.out).mono ?_); (case side1 => exact Kd.C_below HR0.out (bw1_ HB GE262)); (case side2 => exact HC0.out); rintro e w39 ⟨rfl, hb⟩; replace BK262 := ak_ (kb_ (g := gb262) (o := .cells #[.bool false, .bool ((rd_T29 l2 x13_1).f1), .int .u64 ((rd_T29 l2 x13_1).f2.f0), .int .u64 ((rd_T29 l2 x13_1).f2.f1), .int .u64 ((rd_T29 l2 x13_1).f3.f0.f0), .int .u64 ((rd_T29 l2 x13_1).f3.f0.f1), .int .u64 ((rd_T29 l2 x13_1).f3.f1.f0), .int .u64 ((rd_T29 l2 x13_1).f3.f1.f1), .int .i64 ((rd_T29 l2 x13_1).f4)] 29 (0, 0)) (by (with_reducible repeat (first | refine kn_ ?_ _ | refine kd_ ?_ | refine ka_ ?_ _)); exact sC_blk BK262.out rfl rfl) hb); replace HB := ak_ (bt_ (bw1_ HB GE262) hb); (try clear hb); (try clear hk); obtain ⟨hcz40_0, hcz40_1, hcz40_2, hcz40_3, hcz40_4, hcz40_5, hcz40_6, hcz40_7, hcz40_8, hfz40_0, hfz40_1, hfz40_2, hfz40_3, hfz40_4, hfz40_5, hfz40_6, hfz40_7, hfz40_8⟩ := kc9_ BK262.out; have p267 : 0 ≤ (x13_1 : Int) := od_ (by first | (with_reducible assumption) | assumption); have q267 : x13_1 < (l1.length : Int) := od_ (by first | (with_reducible assumption) | assumption); obtain ⟨ad267, e267, hx267_0⟩ := Kd.at_bool HR1.out x13_1 p267 q267; (try rw [← Nbq9.out] at hx267_0); cases e267; replace hx267_0 := cx_ HB hx267_0; replace p267 := eq_true p267; replace q267 := eq_true q267; have p268 : 0 ≤ (0 : Int) := (by omega); have q268 : 0 < (l2.length : Int) := od_ (by first | (with_reducible assumption) | assumption); obtain ⟨ad268, e268, hx268_0, hx268_1, hx268_2, hx268_3, hx268_4, hx268_5, hx268_6, hx268_7, hx268_8⟩ := at_T29 HR2.out 0 p268 q268; (try rw [← Nbq9.out] at hx268_0); (try rw [← Nbq9.out] at hx268_1); obtain rfl : ad261 = ad268 := (by injection e268); have qi268 : (0 < l2.length) = True := eq_true (by omega); (try rw [show ((0 : Int)).toNat = 0 from rfl] at hx268_0); (try rw [show 0 * 9 = 0 from rfl] at hx268_0); (try rw [Addr.add_zero'] at hx268_0); (try rw [show ((0 : Int)).toNat = 0 from rfl] at hx268_1); (try rw [show 0 * 9 = 0 from rfl] at hx268_1); (try rw [Addr.add_zero'] at hx268_1); (try rw [show ((0 : Int)).toNat = 0 from rfl] at hx268_2); (try rw [show 0 * 9 = 0 from rfl] at hx268_2); (try rw [Addr.add_zero'] at hx268_2); (try rw [show ((0 : Int)).toNat = 0 from rfl] at hx268_3); (try rw [show 0 * 9 = 0 from rfl] at hx268_3); (try rw [Addr.add_zero'] at hx268_3); (try rw [show ((0 : Int)).toNat = 0 from rfl] at hx268_4); (try rw [show 0 * 9 = 0 from rfl] at hx268_4); (try rw [Addr.add_zero'] at hx268_4); (try rw [show ((0 : Int)).toNat = 0 from rfl] at hx268_5); (try rw [show 0 * 9 = 0 from rfl] at hx268_5); (try rw [Addr.add_zero'] at hx268_5); (try rw [show ((0 : Int)).toNat = 0 from rfl] at hx268_6); (try rw [show 0 * 9 = 0 from rfl] at hx268_6); (try rw [Addr.add_zero'] at hx268_6); (try rw [show ((0 : Int)).toNat = 0 from rfl] at hx268_7); (try rw [show 0 * 9 = 0 from rfl] at hx268_7); (try rw [Addr.add_zero'] at hx268_7); (try rw [show ((0 : Int)).toNat = 0 from rfl] at hx268_8); (try rw [show 0 * 9 = 0 from rfl] at hx268_8); (try rw [Addr.add_zero'] at hx268_8); replace hx268_0 := cx_ HB hx268_0; replace hx268_1 := cx_ HB hx268_1; replace hx268_2 := cx_ HB hx268_2; replace hx268_3 := cx_ HB hx268_3; replace hx268_4 := cx_ HB hx268_4; replace hx268_5 := cx_ HB hx268_5; replace hx268_6 := cx_ HB hx268_6; replace hx268_7 := cx_ HB hx268_7; replace hx268_8 := cx_ HB hx268_8; replace p268 := eq_true p268; replace q268 := eq_true q268)); try go_wp2_with (first | ((with_reducible refine gate_dst (N := 8) rfl ?_); refine bx_ 8 #[.bool false, .bool false, .int .u64 0, .int .u64 0, .int .u64 0, .int .u64 0, .int .u64 0, .int .u64 0, .int .i64 0] 29 ?_; intro gb262 hg w37 hbox hb; have BK262 := ak_ hbox; have GW262 := ak_ (gs_ hg HB); have GE262 := ak_ (gs_ hg HB); replace HB := ak_ (bt_ (bl_ HB) hb); clear hb hbox hg; obtain ⟨hcz38_0, hcz38_1, hcz38_2, hcz38_3, hcz38_4, hcz38_5, hcz38_6, hcz38_7, hcz38_8, hfz38_0, hfz38_1, hfz38_2, hfz38_3, hfz38_4, hfz38_5, hfz38_6, hfz38_7, hfz38_8⟩ := kc9_ BK262.out) | (go_at_call 127; (with_reducible refine (value_Check.calls k1 _ _ l0 false ((rd_T29 l2 x13_1).f1) ((rd_T29 l2 x13_1).f2.f0) ((rd_T29 l2 x13_1).f2.f1) ((rd_T29 l2 x13_1).f3.f0.f0) ((rd_T29 l2 x13_1).f3.f0.f1) ((rd_T29 l2 x13_1).f3.f1.f0) ((rd_T29 l2 x13_1).f3.f1.f1) ((rd_T29 l2 x13_1).f4) t263 _ ?side1 ?side2 A7.out).mono ?_); (case side1 => exact Kd.C_below HR0.out (bw1_ HB GE262)); (case side2 => exact HC0.out); rintro e w39 ⟨rfl, hb⟩; replace BK262 := ak_ (kb_ (g := gb262) (o := .cells #[.bool false, .bool ((rd_T29 l2 x13_1).f1), .int .u64 ((rd_T29 l2 x13_1).f2.f0), .int .u64 ((rd_T29 l2 x13_1).f2.f1), .int .u64 ((rd_T29 l2 x13_1).f3.f0.f0), .int .u64 ((rd_T29 l2 x13_1).f3.f0.f1), .int .u64 ((rd_T29 l2 x13_1).f3.f1.f0), .int .u64 ((rd_T29 l2 x13_1).f3.f1.f1), .int .i64 ((rd_T29 l2 x13_1).f4)] 29 (0, 0)) (by (with_reducible repeat (first | refine kn_ ?_ _ | refine kd_ ?_ | refine ka_ ?_ _)); exact sC_blk BK262.out rfl rfl) hb); replace HB := ak_ (bt_ (bw1_ HB GE262) hb); (try clear hb); (try clear hk); obtain ⟨hcz40_0, hcz40_1, hcz40_2, hcz40_3, hcz40_4, hcz40_5, hcz40_6, hcz40_7, hcz40_8, hfz40_0, hfz40_1, hfz40_2, hfz40_3, hfz40_4, hfz40_5, hfz40_6, hfz40_7, hfz40_8⟩ := kc9_ BK262.out; have p267 : 0 ≤ (x13_1 : Int) := od_ (by first | (with_reducible assumption) | assumption); have q267 : x13_1 < (l1.length : Int) := od_ (by first | (with_reducible assumption) | assumption); obtain ⟨ad267, e267, hx267_0⟩ := Kd.at_bool HR1.out x13_1 p267 q267; (try rw [← Nbq9.out] at hx267_0); cases e267; replace hx267_0 := cx_ HB hx267_0; replace p267 := eq_true p267; replace q267 := eq_true q267; have p268 : 0 ≤ (0 : Int) := (by omega); have q268 : 0 < (l2.length : Int) := od_ (by first | (with_reducible assumption) | assumption); obtain ⟨ad268, e268, hx268_0, hx268_1, hx268_2, hx268_3, hx268_4, hx268_5, hx268_6, hx268_7, hx268_8⟩ := at_T29 HR2.out 0 p268 q268; (try rw [← Nbq9.out] at hx268_0); (try rw [← Nbq9.out] at hx268_1); obtain rfl : ad261 = ad268 := (by injection e268); have qi268 : (0 < l2.length) = True := eq_true (by omega); (try rw [show ((0 : Int)).toNat = 0 from rfl] at hx268_0); (try rw [show 0 * 9 = 0 from rfl] at hx268_0); (try rw [Addr.add_zero'] at hx268_0); (try rw [show ((0 : Int)).toNat = 0 from rfl] at hx268_1); (try rw [show 0 * 9 = 0 from rfl] at hx268_1); (try rw [Addr.add_zero'] at hx268_1); (try rw [show ((0 : Int)).toNat = 0 from rfl] at hx268_2); (try rw [show 0 * 9 = 0 from rfl] at hx268_2); (try rw [Addr.add_zero'] at hx268_2); (try rw [show ((0 : Int)).toNat = 0 from rfl] at hx268_3); (try rw [show 0 * 9 = 0 from rfl] at hx268_3); (try rw [Addr.add_zero'] at hx268_3); (try rw [show ((0 : Int)).toNat = 0 from rfl] at hx268_4); (try rw [show 0 * 9 = 0 from rfl] at hx268_4); (try rw [Addr.add_zero'] at hx268_4); (try rw [show ((0 : Int)).toNat = 0 from rfl] at hx268_5); (try rw [show 0 * 9 = 0 from rfl] at hx268_5); (try rw [Addr.add_zero'] at hx268_5); (try rw [show ((0 : Int)).toNat = 0 from rfl] at hx268_6); (try rw [show 0 * 9 = 0 from rfl] at hx268_6); (try rw [Addr.add_zero'] at hx268_6); (try rw [show ((0 : Int)).toNat = 0 from rfl] at hx268_7); (try rw [show 0 * 9 = 0 from rfl] at hx268_7); (try rw [Addr.add_zero'] at hx268_7); (try rw [show ((0 : Int)).toNat = 0 from rfl] at hx268_8); (try rw [show 0 * 9 = 0 from rfl] at hx268_8); (try rw [Addr.add_zero'] at hx268_8); replace hx268_0 := cx_ HB hx268_0; replace hx268_1 := cx_ HB hx268_1; replace hx268_2 := cx_ HB hx268_2; replace hx268_3 := cx_ HB hx268_3; replace hx268_4 := cx_ HB hx268_4; replace hx268_5 := cx_ HB hx268_5; replace hx268_6 := cx_ HB hx268_6; replace hx268_7 := cx_ HB hx268_7; replace hx268_8 := cx_ HB hx268_8; replace p268 := eq_true p268; replace q268 := eq_true q268)))
             go_ret
             exact ea_ (bw1_ HB GE262)
            ·rw [if_neg c36] at H
             have c36b0 : ((false) != ((rd_T29 l2 0).f0)) = false := by simpa using c36
             (try (have c36b1 : decide ((false) = ((rd_T29 l2 0).f0)) = true := by simpa using c36))
             (try (have c36b2 : ((false) == ((rd_T29 l2 0).f0)) = true := by simpa using c36))
             clear c36
             have H' := ak_ H
             clear H
             have p261 : 0 ≤ (x13_1 : Int) := od_ (by first | (with_reducible assumption) | assumption)
             have q261 : x13_1 < (l2.length : Int) := od_ (by first | (with_reducible assumption) | assumption)
             obtain ⟨ad261, e261, hx261_0, hx261_1, hx261_2, hx261_3, hx261_4, hx261_5, hx261_6, hx261_7, hx261_8⟩ := at_T29 HR2.out x13_1 p261 q261
             (try rw [← Nbq9.out] at hx261_0)
             (try rw [← Nbq9.out] at hx261_1)
             cases e261
             replace hx261_0 := cx_ HB hx261_0
             replace hx261_1 := cx_ HB hx261_1
             replace hx261_2 := cx_ HB hx261_2
             replace hx261_3 := cx_ HB hx261_3
             replace hx261_4 := cx_ HB hx261_4
             replace hx261_5 := cx_ HB hx261_5
             replace hx261_6 := cx_ HB hx261_6
             replace hx261_7 := cx_ HB hx261_7
             replace hx261_8 := cx_ HB hx261_8
             replace p261 := eq_true p261
             replace q261 := eq_true q261
             go_wp2_with (first | ((with_reducible refine gate_dst (N := 8) rfl ?_); refine bx_ 8 #[.bool false, .bool false, .int .u64 0, .int .u64 0, .int .u64 0, .int .u64 0, .int .u64 0, .int .u64 0, .int .i64 0] 29 ?_; intro gb262 hg w41 hbox hb; have BK262 := ak_ hbox; have GW262 := ak_ (gs_ hg HB); have GE262 := ak_ (gs_ hg HB); replace HB := ak_ (bt_ (bl_ HB) hb); clear hb hbox hg; obtain ⟨hcz42_0, hcz42_1, hcz42_2, hcz42_3, hcz42_4, hcz42_5, hcz42_6, hcz42_7, hcz42_8, hfz42_0, hfz42_1, hfz42_2, hfz42_3, hfz42_4, hfz42_5, hfz42_6, hfz42_7, hfz42_8⟩ := kc9_ BK262.out) | (go_at_call 127; (with_reducible refine (value_Check.calls k1 _ _ l0 false ((rd_T29 l2 x13_1).f1) ((rd_T29 l2 x13_1).f2.f0) ((rd_T29 l2 x13_1).f2.f1) ((rd_T29 l2 x13_1).f3.f0.f0) ((rd_T29 l2 x13_1).f3.f0.f1) ((rd_T29 l2 x13_1).f3.f1.f0) ((rd_T29 l2 x13_1).f3.f1.f1) ((rd_T29 l2 x13_1).f4) t263 _ ?side1 ?side2 A7.out).mono ?_); (case side1 => exact Kd.C_below HR0.out (bw1_ HB GE262)); (case side2 => exact HC0.out); rintro e w43 ⟨rfl, hb⟩; replace BK262 := ak_ (kb_ (g := gb262) (o := .cells #[.bool false, .bool ((rd_T29 l2 x13_1).f1), .int .u64 ((rd_T29 l2 x13_1).f2.f0), .int .u64 ((rd_T29 l2 x13_1).f2.f1), .int .u64 ((rd_T29 l2 x13_1).f3.f0.f0), .int .u64 ((rd_T29 l2 x13_1).f3.f0.f1), .int .u64 ((rd_T29 l2 x13_1).f3.f1.f0), .int .u64 ((rd_T29 l2 x13_1).f3.f1.f1), .int .i64 ((rd_T29 l2 x13_1).f4)] 29 (0, 0)) (by (with_reducible repeat (first | refine kn_ ?_ _ | refine kd_ ?_ | refine ka_ ?_ _)); exact sC_blk BK262.out rfl rfl) hb); replace HB := ak_ (bt_ (bw1_ HB GE262) hb); (try clear hb); (try clear hk); obtain ⟨hcz44_0, hcz44_1, hcz44_2, hcz44_3, hcz44_4, hcz44_5, hcz44_6, hcz44_7, hcz44_8, hfz44_0, hfz44_1, hfz44_2, hfz44_3, hfz44_4, hfz44_5, hfz44_6, hfz44_7, hfz44_8⟩ := kc9_ BK262.out; have p267 : 0 ≤ (x13_1 : Int) := od_ (by first | (with_reducible assumption) | assumption); have q267 : x13_1 < (l1.length : Int) := od_ (by first | (with_reducible assumption) | assumption); obtain ⟨ad267, e267, hx267_0⟩ := Kd.at_bool HR1.out x13_1 p267 q267; (try rw [← Nbq9.out] at hx267_0); cases e267; replace hx267_0 := cx_ HB hx267_0; replace p267 := eq_true p267; replace q267 := eq_true q267; have p268 : 0 ≤ (0 : Int) := (by omega); have q268 : 0 < (l2.length : Int) := od_ (by first | (with_reducible assumption) | assumption); obtain ⟨ad268, e268, hx268_0, hx268_1, hx268_2, hx268_3, hx268_4, hx268_5, hx268_6, hx268_7, hx268_8⟩ := at_T29 HR2.out 0 p268 q268; (try rw [← Nbq9.out] at hx268_0); (try rw [← Nbq9.out] at hx268_1); obtain rfl : ad261 = ad268 := (by injection e268); have qi268 : (0 < l2.length) = True := eq_true (by omega); (try rw [show ((0 : Int)).toNat = 0 from rfl] at hx268_0); (try rw [show 0 * 9 = 0 from rfl] at hx268_0); (try rw [Addr.add_zero'] at hx268_0); (try rw [show ((0 : Int)).toNat = 0 from rfl] at hx268_1); (try rw [show 0 * 9 = 0 from rfl] at hx268_1); (try rw [Addr.add_zero'] at hx268_1); (try rw [show ((0 : Int)).toNat = 0 from rfl] at hx268_2); (try rw [show 0 * 9 = 0 from rfl] at hx268_2); (try rw [Addr.add_zero'] at hx268_2); (try rw [show ((0 : Int)).toNat = 0 from rfl] at hx268_3); (try rw [show 0 * 9 = 0 from rfl] at hx268_3); (try rw [Addr.add_zero'] at hx268_3); (try rw [show ((0 : Int)).toNat = 0 from rfl] at hx268_4); (try rw [show 0 * 9 = 0 from rfl] at hx268_4); (try rw [Addr.add_zero'] at hx268_4); (try rw [show ((0 : Int)).toNat = 0 from rfl] at hx268_5); (try rw [show 0 * 9 = 0 from rfl] at hx268_5); (try rw [Addr.add_zero'] at hx268_5); (try rw [show ((0 : Int)).toNat = 0 from rfl] at hx268_6); (try rw [show 0 * 9 = 0 from rfl] at hx268_6); (try rw [Addr.add_zero'] at hx268_6); (try rw [show ((0 : Int)).toNat = 0 from rfl] at hx268_7); (try rw [show 0 * 9 = 0 from rfl] at hx268_7); (try rw [Addr.add_zero'] at hx268_7); (try rw [show ((0 : Int)).toNat = 0 from rfl] at hx268_8); (try rw [show 0 * 9 = 0 from rfl] at hx268_8); (try rw [Addr.add_zero'] at hx268_8); replace hx268_0 := cx_ HB hx268_0; replace hx268_1 := cx_ HB hx268_1; replace hx268_2 := cx_ HB hx268_2; replace hx268_3 := cx_ HB hx268_3; replace hx268_4 := cx_ HB hx268_4; replace hx268_5 := cx_ HB hx268_5; replace hx268_6 := cx_ HB hx268_6; replace hx268_7 := cx_ HB hx268_7; replace hx268_8 := cx_ HB hx268_8; replace p268 := eq_true p268; replace q268 := eq_true q268))
             repeat (go_quiet (first | ((with_reducible refine gate_dst (N := 8) rfl ?_); refine bx_ 8 #[.bool false, .bool false, .int .u64 0, .int .u64 0, .int .u64 0, .int .u64 0, .int .u64 0, .int .u64 0, .int .i64 0] 29 ?_; intro gb262 hg w41 hbox hb; have BK262 := ak_ hbox; have GW262 := ak_ (gs_ hg HB); have GE262 := ak_ (gs_ hg HB); replace HB := ak_ (bt_ (bl_ HB) hb); clear hb hbox hg; obtain ⟨hcz42_0, hcz42_1, hcz42_2, hcz42_3, hcz42_4, hcz42_5, hcz42_6, hcz42_7, hcz42_8, hfz42_0, hfz42_1, hfz42_2, hfz42_3, hfz42_4, hfz42_5, hfz42_6, hfz42_7, hfz42_8⟩ := kc9_ BK262.out) | (go_at_call 127; (with_reducible refine (value_Check.calls k1 _ _ l0 false ((rd_T29 l2 x13_1).f1) ((rd_T29 l2 x13_1).f2.f0) ((rd_T29 l2 x13_1).f2.f1) ((rd_T29 l2 x13_1).f3.f0.f0) ((rd_T29 l2 x13_1).f3.f0.f1) ((rd_T29 l2 x13_1).f3.f1.f0) ((rd_T29 l2 x13_1).f3.f1.f1) ((rd_T29 l2 x13_1).f4) t263 _ ?side1 ?side2 A7.out).mono ?_); (case side1 => exact Kd.C_below HR0.out (bw1_ HB GE262)); (case side2 => exact HC0.out); rintro e w43 ⟨rfl, hb⟩; replace BK262 := ak_ (kb_ (g := gb262) (o := .cells #[.bool false, .bool ((rd_T29 l2 x13_1).f1), .int .u64 ((rd_T29 l2 x13_1).f2.f0), .int .u64 ((rd_T29 l2 x13_1).f2.f1), .int .u64 ((rd_T29 l2 x13_1).f3.f0.f0), .int .u64 ((rd_T29 l2 x13_1).f3.f0.f1), .int .u64 ((rd_T29 l2 x13_1).f3.f1.f0), .int .u64 ((rd_T29 l2 x13_1).f3.f1.f1), .int .i64 ((rd_T29 l2 x13_1).f4)] 29 (0, 0)) (by (with_reducible repeat (first | refine kn_ ?_ _ | refine kd_ ?_ | refine ka_ ?_ _)); exact sC_blk BK262.out rfl rfl) hb); replace HB := ak_ (bt_ (bw1_ HB GE262) hb); (try clear hb); (try clear hk); obtain ⟨hcz44_0, hcz44_1, hcz44_2, hcz44_3, hcz44_4, hcz44_5, hcz44_6, hcz44_7, hcz44_8, hfz44_0, hfz44_1, hfz44_2, hfz44_3, hfz44_4, hfz44_5, hfz44_6, hfz44_7, hfz44_8⟩ := kc9_ BK262.out; have p267 : 0 ≤ (x13_1 : Int) := od_ (by first | (with_reducible assumption) | assumption); have q267 : x13_1 < (l1.length : Int) := od_ (by first | (with_reducible assumption) | assumption); obtain ⟨ad267, e267, hx267_0⟩ := Kd.at_bool HR1.out x13_1 p267 q267; (try rw [← Nbq9.out] at hx267_0); cases e267; replace hx267_0 := cx_ HB hx267_0; replace p267 := eq_true p267; replace q267 := eq_true q267; have p268 : 0 ≤ (0 : Int) := (by omega); have q268 : 0 < (l2.length : Int) := od_ (by first | (with_reducible assumption) | assumption); obtain ⟨ad268, e268, hx268_0, hx268_1, hx268_2, hx268_3, hx268_4, hx268_5, hx268_6, hx268_7, hx268_8⟩ := at_T29 HR2.out 0 p268 q268; (try rw [← Nbq9.out] at hx268_0); (try rw [← Nbq9.out] at hx268_1); obtain rfl : ad261 = ad268 := (by injection e268); have qi268 : (0 < l2.length) = True := eq_true (by omega); (try rw [show ((0 : Int)).toNat = 0 from rfl] at hx268_0); (try rw [show 0 * 9 = 0 from rfl] at hx268_0); (try rw [Addr.add_zero'] at hx268_0); (try rw [show ((0 : Int)).toNat = 0 from rfl] at hx268_1); (try rw [show 0 * 9 = 0 from rfl] at hx268_1); (try rw [Addr.add_zero'] at hx268_1); (try rw [show ((0 : Int)).toNat = 0 from rfl] at hx268_2); (try rw [show 0 * 9 = 0 from rfl] at hx268_2); (try rw [Addr.add_zero'] at hx268_2); (try rw [show ((0 : Int)).toNat = 0 from rfl] at hx268_3); (try rw [show 0 * 9 = 0 from rfl] at hx268_3); (try rw [Addr.add_zero'] at hx268_3); (try rw [show ((0 : Int)).toNat = 0 from rfl] at hx268_4); (try rw [show 0 * 9 = 0 from rfl] at hx268_4); (try rw [Addr.add_zero'] at hx268_4); (try rw [show ((0 : Int)).toNat = 0 from rfl] at hx268_5); (try rw [show 0 * 9 = 0 from rfl] at hx268_5); (try rw [Addr.add_zero'] at hx268_5); (try rw [show ((0 : Int)).toNat = 0 from rfl] at hx268_6); (try rw [show 0 * 9 = 0 from rfl] at hx268_6); (try rw [Addr.add_zero'] at hx268_6); (try rw [show ((0 : Int)).toNat = 0 from rfl] at hx268_7); (try rw [show 0 * 9 = 0 from rfl] at hx268_7); (try rw [Addr.add_zero'] at hx268_7); (try rw [show ((0 : Int)).toNat = 0 from rfl] at hx268_8); (try rw [show 0 * 9 = 0 from rfl] at hx268_8); (try rw [Addr.add_zero'] at hx268_8); replace hx268_0 := cx_ HB hx268_0; replace hx268_1 := cx_ HB hx268_1; replace hx268_2 := cx_ HB hx268_2; replace hx268_3 := cx_ HB hx268_3; replace hx268_4 := cx_ HB hx268_4; replace hx268_5 := cx_ HB hx268_5; replace hx268_6 := cx_ HB hx268_6; replace hx268_7 := cx_ HB hx268_7; replace hx268_8 := cx_ HB hx268_8; replace p268 := eq_true p268; replace q268 := eq_true q268)); try go_wp2_with (first | ((with_reducible refine gate_dst (N := 8) rfl ?_); refine bx_ 8 #[.bool false, .bool false, .int .u64 0, .int .u64 0, .int .u64 0, .int .u64 0, .int .u64 0, .int .u64 0, .int .i64 0] 29 ?_; intro gb262 hg w41 hbox hb; have BK262 := ak_ hbox; have GW262 := ak_ (gs_ hg HB); have GE262 := ak_ (gs_ hg HB); replace HB := ak_ (bt_ (bl_ HB) hb); clear hb hbox hg; obtain ⟨hcz42_0, hcz42_1, hcz42_2, hcz42_3, hcz42_4, hcz42_5, hcz42_6, hcz42_7, hcz42_8, hfz42_0, hfz42_1, hfz42_2, hfz42_3, hfz42_4, hfz42_5, hfz42_6, hfz42_7, hfz42_8⟩ := kc9_ BK262.out) | (go_at_call 127; (with_reducible refine (value_Check.calls k1 _ _ l0 false ((rd_T29 l2 x13_1).f1) ((rd_T29 l2 x13_1).f2.f0) ((rd_T29 l2 x13_1).f2.f1) ((rd_T29 l2 x13_1).f3.f0.f0) ((rd_T29 l2 x13_1).f3.f0.f1) ((rd_T29 l2 x13_1).f3.f1.f0) ((rd_T29 l2 x13_1).f3.f1.f1) ((rd_T29 l2 x13_1).f4) t263 _ ?side1 ?side2 A7.out).mono ?_); (case side1 => exact Kd.C_below HR0.out (bw1_ HB GE262)); (case side2 => exact HC0.out); rintro e w43 ⟨rfl, hb⟩; replace BK262 := ak_ (kb_ (g := gb262) (o := .cells #[.bool false, .bool ((rd_T29 l2 x13_1).f1), .int .u64 ((rd_T29 l2 x13_1).f2.f0), .int .u64 ((rd_T29 l2 x13_1).f2.f1), .int .u64 ((rd_T29 l2 x13_1).f3.f0.f0), .int .u64 ((rd_T29 l2 x13_1).f3.f0.f1), .int .u64 ((rd_T29 l2 x13_1).f3.f1.f0), .int .u64 ((rd_T29 l2 x13_1).f3.f1.f1), .int .i64 ((rd_T29 l2 x13_1).f4)] 29 (0, 0)) (by (with_reducible repeat (first | refine kn_ ?_ _ | refine kd_ ?_ | refine ka_ ?_ _)); exact sC_blk BK262.out rfl rfl) hb); replace HB := ak_ (bt_ (bw1_ HB GE262) hb); (try clear hb); (try clear hk); obtain ⟨hcz44_0, hcz44_1, hcz44_2, hcz44_3, hcz44_4, hcz44_5, hcz44_6, hcz44_7, hcz44_8, hfz44_0, hfz44_1, hfz44_2, hfz44_3, hfz44_4, hfz44_5, hfz44_6, hfz44_7, hfz44_8⟩ := kc9_ BK262.out; have p267 : 0 ≤ (x13_1 : Int) := od_ (by first | (with_reducible assumption) | assumption); have q267 : x13_1 < (l1.length : Int) := od_ (by first | (with_reducible assumption) | assumption); obtain ⟨ad267, e267, hx267_0⟩ := Kd.at_bool HR1.out x13_1 p267 q267; (try rw [← Nbq9.out] at hx267_0); cases e267; replace hx267_0 := cx_ HB hx267_0; replace p267 := eq_true p267; replace q267 := eq_true q267; have p268 : 0 ≤ (0 : Int) := (by omega); have q268 : 0 < (l2.length : Int) := od_ (by first | (with_reducible assumption) | assumption); obtain ⟨ad268, e268, hx268_0, hx268_1, hx268_2, hx268_3, hx268_4, hx268_5, hx268_6, hx268_7, hx268_8⟩ := at_T29 HR2.out 0 p268 q268; (try rw [← Nbq9.out] at hx268_0); (try rw [← Nbq9.out] at hx268_1); obtain rfl : ad261 = ad268 := (by injection e268); have qi268 : (0 < l2.length) = True := eq_true (by omega); (try rw [show ((0 : Int)).toNat = 0 from rfl] at hx268_0); (try rw [show 0 * 9 = 0 from rfl] at hx268_0); (try rw [Addr.add_zero'] at hx268_0); (try rw [show ((0 : Int)).toNat = 0 from rfl] at hx268_1); (try rw [show 0 * 9 = 0 from rfl] at hx268_1); (try rw [Addr.add_zero'] at hx268_1); (try rw [show ((0 : Int)).toNat = 0 from rfl] at hx268_2); (try rw [show 0 * 9 = 0 from rfl] at hx268_2); (try rw [Addr.add_zero'] at hx268_2); (try rw [show ((0 : Int)).toNat = 0 from rfl] at hx268_3); (try rw [show 0 * 9 = 0 from rfl] at hx268_3); (try rw [Addr.add_zero'] at hx268_3); (try rw [show ((0 : Int)).toNat = 0 from rfl] at hx268_4); (try rw [show 0 * 9 = 0 from rfl] at hx268_4); (try rw [Addr.add_zero'] at hx268_4); (try rw [show ((0 : Int)).toNat = 0 from rfl] at hx268_5); (try rw [show 0 * 9 = 0 from rfl] at hx268_5); (try rw [Addr.add_zero'] at hx268_5); (try rw [show ((0 : Int)).toNat = 0 from rfl] at hx268_6); (try rw [show 0 * 9 = 0 from rfl] at hx268_6); (try rw [Addr.add_zero'] at hx268_6); (try rw [show ((0 : Int)).toNat = 0 from rfl] at hx268_7); (try rw [show 0 * 9 = 0 from rfl] at hx268_7); (try rw [Addr.add_zero'] at hx268_7); (try rw [show ((0 : Int)).toNat = 0 from rfl] at hx268_8); (try rw [show 0 * 9 = 0 from rfl] at hx268_8); (try rw [Addr.add_zero'] at hx268_8); replace hx268_0 := cx_ HB hx268_0; replace hx268_1 := cx_ HB hx268_1; replace hx268_2 := cx_ HB hx268_2; replace hx268_3 := cx_ HB hx268_3; replace hx268_4 := cx_ HB hx268_4; replace hx268_5 := cx_ HB hx268_5; replace hx268_6 := cx_ HB hx268_6; replace hx268_7 := cx_ HB hx268_7; replace hx268_8 := cx_ HB hx268_8; replace p268 := eq_true p268; replace q268 := eq_true q268)))
             go_roundg k1
             case measure => have := HK1.out; omega
             case rel => exact ⟨(wrap64 (x13_1 + 1)), rf_, H', ⟨by have := HK1.out; omega⟩, ⟨bw1_ HB GE262⟩⟩
           ·rw [if_neg c35] at H
            exact absurd H (by simp)
         ·rw [if_neg c29] at H
          exact absurd H (by simp)
       ·rw [if_neg c8] at H
        have c8b0 : (t263 == 0) = false := beq_eq_false_iff_ne.mpr c8
        have c8b1 : (t263 != 0) = true := bne_iff_ne.mpr c8
        obtain rfl := Option.some.inj H
        have p261 : 0 ≤ (x13_1 : Int) := od_ (by first | (with_reducible assumption) | assumption)
        have q261 : x13_1 < (l2.length : Int) := od_ (by first | (with_reducible assumption) | assumption)
        obtain ⟨ad261, e261, hx261_0, hx261_1, hx261_2, hx261_3, hx261_4, hx261_5, hx261_6, hx261_7, hx261_8⟩ := at_T29 HR2.out x13_1 p261 q261
        cases e261
        replace hx261_0 := cx_ HB hx261_0
        replace hx261_1 := cx_ HB hx261_1
        replace hx261_2 := cx_ HB hx261_2
        replace hx261_3 := cx_ HB hx261_3
        replace hx261_4 := cx_ HB hx261_4
        replace hx261_5 := cx_ HB hx261_5
        replace hx261_6 := cx_ HB hx261_6
        replace hx261_7 := cx_ HB hx261_7
        replace hx261_8 := cx_ HB hx261_8
        replace p261 := eq_true p261
        replace q261 := eq_true q261
        go_wp2_with (first | ((with_reducible refine gate_dst (N := 8) rfl ?_); refine bx_ 8 #[.bool false, .bool false, .int .u64 0, .int .u64 0, .int .u64 0, .int .u64 0, .int .u64 0, .int .u64 0, .int .i64 0] 29 ?_; intro gb262 hg w45 hbox hb; have BK262 := ak_ hbox; have GW262 := ak_ (gs_ hg HB); have GE262 := ak_ (gs_ hg HB); replace HB := ak_ (bt_ (bl_ HB) hb); clear hb hbox hg; obtain ⟨hcz46_0, hcz46_1, hcz46_2, hcz46_3, hcz46_4, hcz46_5, hcz46_6, hcz46_7, hcz46_8, hfz46_0, hfz46_1, hfz46_2, hfz46_3, hfz46_4, hfz46_5, hfz46_6, hfz46_7, hfz46_8⟩ := kc9_ BK262.out) | (go_at_call 127; (with_reducible refine (value_Check.calls k1 _ _ l0 ((rd_T29 l2 x13_1).f0) ((rd_T29 l2 x13_1).f1) ((rd_T29 l2 x13_1).f2.f0) ((rd_T29 l2 x13_1).f2.f1) ((rd_T29 l2 x13_1).f3.f0.f0) ((rd_T29 l2 x13_1).f3.f0.f1) ((rd_T29 l2 x13_1).f3.f1.f0) ((rd_T29 l2 x13_1).f3.f1.f1) ((rd_T29 l2 x13_1).f4) t263 _ ?side1 ?side2 A7.out).mono ?_); (case side1 => exact Kd.C_below HR0.out (bw1_ HB GE262)); (case side2 => exact HC0.out); rintro e w47 ⟨rfl, hb⟩; replace BK262 := ak_ (kb_ (g := gb262) (o := .cells #[.bool ((rd_T29 l2 x13_1).f0), .bool ((rd_T29 l2 x13_1).f1), .int .u64 ((rd_T29 l2 x13_1).f2.f0), .int .u64 ((rd_T29 l2 x13_1).f2.f1), .int .u64 ((rd_T29 l2 x13_1).f3.f0.f0), .int .u64 ((rd_T29 l2 x13_1).f3.f0.f1), .int .u64 ((rd_T29 l2 x13_1).f3.f1.f0), .int .u64 ((rd_T29 l2 x13_1).f3.f1.f1), .int .i64 ((rd_T29 l2 x13_1).f4)] 29 (0, 0)) (by (with_reducible repeat (first | refine kn_ ?_ _ | refine kd_ ?_ | refine ka_ ?_ _)); exact sC_blk BK262.out rfl rfl) hb); replace HB := ak_ (bt_ (bw1_ HB GE262) hb); (try clear hb); (try clear hk)))
        repeat (go_quiet (first | ((with_reducible refine gate_dst (N := 8) rfl ?_); refine bx_ 8 #[.bool false, .bool false, .int .u64 0, .int .u64 0, .int .u64 0, .int .u64 0, .int .u64 0, .int .u64 0, .int .i64 0] 29 ?_; intro gb262 hg w45 hbox hb; have BK262 := ak_ hbox; have GW262 := ak_ (gs_ hg HB); have GE262 := ak_ (gs_ hg HB); replace HB := ak_ (bt_ (bl_ HB) hb); clear hb hbox hg; obtain ⟨hcz46_0, hcz46_1, hcz46_2, hcz46_3, hcz46_4, hcz46_5, hcz46_6, hcz46_7, hcz46_8, hfz46_0, hfz46_1, hfz46_2, hfz46_3, hfz46_4, hfz46_5, hfz46_6, hfz46_7, hfz46_8⟩ := kc9_ BK262.out) | (go_at_call 127; (with_reducible refine (value_Check.calls k1 _ _ l0 ((rd_T29 l2 x13_1).f0) ((rd_T29 l2 x13_1).f1) ((rd_T29 l2 x13_1).f2.f0) ((rd_T29 l2 x13_1).f2.f1) ((rd_T29 l2 x13_1).f3.f0.f0) ((rd_T29 l2 x13_1).f3.f0.f1) ((rd_T29 l2 x13_1).f3.f1.f0) ((rd_T29 l2 x13_1).f3.f1.f1) ((rd_T29 l2 x13_1).f4) t263 _ ?side1 ?side2 A7.out).mono ?_); (case side1 => exact Kd.C_below HR0.out (bw1_ HB GE262)); (case side2 => exact HC0.out); rintro e w47 ⟨rfl, hb⟩; replace BK262 := ak_ (kb_ (g := gb262) (o := .cells #[.bool ((rd_T29 l2 x13_1).f0), .bool ((rd_T29 l2 x13_1).f1), .int .u64 ((rd_T29 l2 x13_1).f2.f0), .int .u64 ((rd_T29 l2 x13_1).f2.f1), .int .u64 ((rd_T29 l2 x13_1).f3.f0.f0), .int .u64 ((rd_T29 l2 x13_1).f3.f0.f1), .int .u64 ((rd_T29 l2 x13_1).f3.f1.f0), .int .u64 ((rd_T29 l2 x13_1).f3.f1.f1), .int .i64 ((rd_T29 l2 x13_1).f4)] 29 (0, 0)) (by (with_reducible repeat (first | refine kn_ ?_ _ | refine kd_ ?_ | refine ka_ ?_ _)); exact sC_blk BK262.out rfl rfl) hb); replace HB := ak_ (bt_ (bw1_ HB GE262) hb); (try clear hb); (try clear hk))); try go_wp2_with (first | ((with_reducible refine gate_dst (N := 8) rfl ?_); refine bx_ 8 #[.bool false, .bool false, .int .u64 0, .int .u64 0, .int .u64 0, .int .u64 0, .int .u64 0, .int .u64 0, .int .i64 0] 29 ?_; intro gb262 hg w45 hbox hb; have BK262 := ak_ hbox; have GW262 := ak_ (gs_ hg HB); have GE262 := ak_ (gs_ hg HB); replace HB := ak_ (bt_ (bl_ HB) hb); clear hb hbox hg; obtain ⟨hcz46_0, hcz46_1, hcz46_2, hcz46_3, hcz46_4, hcz46_5, hcz46_6, hcz46_7, hcz46_8, hfz46_0, hfz46_1, hfz46_2, hfz46_3, hfz46_4, hfz46_5, hfz46_6, hfz46_7, hfz46_8⟩ := kc9_ BK262.out) | (go_at_call 127; (with_reducible refine (value_Check.calls k1 _ _ l0 ((rd_T29 l2 x13_1).f0) ((rd_T29 l2 x13_1).f1) ((rd_T29 l2 x13_1).f2.f0) ((rd_T29 l2 x13_1).f2.f1) ((rd_T29 l2 x13_1).f3.f0.f0) ((rd_T29 l2 x13_1).f3.f0.f1) ((rd_T29 l2 x13_1).f3.f1.f0) ((rd_T29 l2 x13_1).f3.f1.f1) ((rd_T29 l2 x13_1).f4) t263 _ ?side1 ?side2 A7.out).mono ?_); (case side1 => exact Kd.C_below HR0.out (bw1_ HB GE262)); (case side2 => exact HC0.out); rintro e w47 ⟨rfl, hb⟩; replace BK262 := ak_ (kb_ (g := gb262) (o := .cells #[.bool ((rd_T29 l2 x13_1).f0), .bool ((rd_T29 l2 x13_1).f1), .int .u64 ((rd_T29 l2 x13_1).f2.f0), .int .u64 ((rd_T29 l2 x13_1).f2.f1), .int .u64 ((rd_T29 l2 x13_1).f3.f0.f0), .int .u64 ((rd_T29 l2 x13_1).f3.f0.f1), .int .u64 ((rd_T29 l2 x13_1).f3.f1.f0), .int .u64 ((rd_T29 l2 x13_1).f3.f1.f1), .int .i64 ((rd_T29 l2 x13_1).f4)] 29 (0, 0)) (by (with_reducible repeat (first | refine kn_ ?_ _ | refine kd_ ?_ | refine ka_ ?_ _)); exact sC_blk BK262.out rfl rfl) hb); replace HB := ak_ (bt_ (bw1_ HB GE262) hb); (try clear hb); (try clear hk))))
        go_ret
        exact ea_ (bw1_ HB GE262)
      ·rw [if_neg c6] at H
       exact absurd H (by simp)
     ·rw [if_neg c5] at H
      exact absurd H (by simp)
    ·rw [if_neg c4] at H
     have c4b0 := decide_eq_false c4
     clear c4
     obtain rfl := Option.some.inj H
     go_wp2
     repeat (go_quiet (fail); try go_wp2)
     go_ret
     exact ea_ (bl_ HB)
def value_made.f (l0 : List S75) (a1_0 : Int) (a1_1 : Int) (a1_2 : Int) : Option (Bool × Bool × Int × Int × Int × Int × Int × Int × Int × List S75 × Int) := none
theorem value_made.calls (A0 : Option Addr) (c0 : Nat) (l0 : List S75) (a1_0 : Int) (a1_1 : Int) (a1_2 : Int) (r1 : Bool) (r2 : Bool) (r3 : Int) (r4 : Int) (r5 : Int) (r6 : Int) (r7 : Int) (r8 : Int) (r9 : Int) (r10 : List S75) (r11 : Int) (w : World) (hr0 : Kd.C k75 w A0 l0.length l0) (hc0 : l0.length ≤ c0) (h : value_made.f l0 a1_0 a1_1 a1_2 = some (r1, r2, r3, r4, r5, r6, r7, r8, r9, r10, r11)) :
   Calls Try.prog 158 #[.slice A0 l0.length c0, .agg #[.int .i64 a1_0, .int .i64 a1_1, .int .i64 a1_2]] w fun e w' => ∃ v1_ : Value, e = .returned (.tuple #[.agg #[.bool r1, .bool r2, .int .u64 r3, .int .u64 r4, .int .u64 r5, .int .u64 r6, .int .u64 r7, .int .u64 r8, .int .i64 r9], v1_, .int .i64 r11]) ∧ Kd.R k75 75 w' w.heap.size (fun _ => True) v1_ r10 ∧ Below w.heap.size w w' := by
  cases h
theorem xi_index {P : Program} {t e : TypeId} (hu : P.underlying t = some (.array 2 e)) (hg : P.plainKey e = true) (hs : P.cellsOf e = 1) (a b i : Int) (h0 : 0 ≤ i) (h1 : i < 2) (w : World) :
   (Instr.index t (.agg #[.int .u64 a, .int .u64 b]) (.int .i64 i)).run P w = .ok (.int .u64 (rd [a, b] i)) w := by
  obtain ⟨q, hq⟩ : ∃ q, P.info? e = some q := by
   unfold Program.plainKey at hg
   cases hu : P.underlying e with
   | none => simp [hu] at hg
   | some d => exact info_of_underlying hu
  have z := run_sizeOf w hq
  rw [hs] at z
  rcases (show i = 0 ∨ i = 1 by omega) with rfl | rfl
  ·have p0 := run_part_plain w hg (xs := #[.int .u64 a, .int .u64 b]) (off := 0) (v := .int .u64 a) rfl
   simp [Instr.index, run_underlying hu, asIntOf, z, p0, rd]
  ·have p1 := run_part_plain w hg (xs := #[.int .u64 a, .int .u64 b]) (off := 1) (v := .int .u64 b) rfl
   simp [Instr.index, run_underlying hu, asIntOf, z, p1, rd]
def mix_Xor.f (a0_0 : Int) (a0_1 : Int) (a1_0 : Int) (a1_1 : Int) : Option (Int × Int) := some (Go.bits .xor .u64 a0_0 a1_0, Go.bits .xor .u64 a0_1 a1_1)
set_option maxHeartbeats 8000000 in
set_option maxRecDepth 100000 in
theorem mix_Xor.calls (a0_0 : Int) (a0_1 : Int) (a1_0 : Int) (a1_1 : Int) (r1 : Int) (r2 : Int) (w : World) (h : mix_Xor.f a0_0 a0_1 a1_0 a1_1 = some (r1, r2)) :
   Calls Try.prog 167 #[.agg #[.int .u64 a0_0, .int .u64 a0_1], .agg #[.int .u64 a1_0, .int .u64 a1_1]] w fun e w' => e = .returned (.agg #[.int .u64 r1, .int .u64 r2]) ∧ Below w.heap.size w w' := by
  simp only [mix_Xor.f, some.injEq, Prod.mk.injEq] at h
  obtain ⟨rfl, rfl⟩ := h
  have hu_b := underlying25
  have q0 : ∀ w : World, (Instr.index 25 (.agg #[.int .u64 a1_0, .int .u64 a1_1]) (.int .i64 0)).run Try.prog w = .ok (.int .u64 a1_0) w := fun w => xi_index underlying25 (by kernel_rfl) (by kernel_rfl) a1_0 a1_1 0 (by decide) (by decide) w
  have q1 : ∀ w : World, (Instr.index 25 (.agg #[.int .u64 a1_0, .int .u64 a1_1]) (.int .i64 1)).run Try.prog w = .ok (.int .u64 a1_1) w := fun w => xi_index underlying25 (by kernel_rfl) (by kernel_rfl) a1_0 a1_1 1 (by decide) (by decide) w
  have HB := ak_ (Below.refl w.heap.size w)
  go_enter func167, ntmps167
  go_wp2_with (first
   | ((with_reducible refine gate_dst (N := 2) rfl ?_); refine bx_ 2 #[.int .u64 a0_0, .int .u64 a0_1] 25 ?_; intro g2 hg w1 hbox hb; have GE2 := ak_ (show w.heap.size ≤ g2 by rw [hg]; exact Nat.le_refl _); have n0_ := ak_ hb; have BK2 := ak_ hbox; clear HB; have HB := n0_; clear n0_ hb hbox hg)
   | ((with_reducible refine gate_dst (N := 3) rfl ?_); refine bx_ 3 #[.int .u64 a1_0, .int .u64 a1_1] 25 ?_; intro g3 hg w2 hbox hb; have n0_ := ak_ (bt_ HB.out hb); have n1_ := ak_ (kb_ BK2.out hb); have BK3 := ak_ hbox; clear HB BK2; have HB := n0_; have BK2 := n1_; clear n0_ n1_ hb hbox hg)
   | ((with_reducible refine gate_dst (N := 4) rfl ?_); refine bx_ 4 #[.int .u64 0, .int .u64 0] 25 ?_; intro g4 hg w3 hbox hb; have GE4 := ak_ (show w.heap.size ≤ g4 by rw [hg]; exact bz_ HB.out); have N42 := ak_ (show g4 ≠ g2 by rw [hg]; exact Nat.ne_of_gt (blk_lt BK2.out)); have n0_ := ak_ (bt_ HB.out hb); have n1_ := ak_ (kb_ BK2.out hb); have n2_ := ak_ (kb_ BK3.out hb); have BK4 := ak_ hbox; clear HB BK2 BK3; have HB := n0_; have BK2 := n1_; have BK3 := n2_; clear n0_ n1_ n2_ hb hbox hg; have hz0 : w3.cell? ⟨g3, 0, none⟩ = some (.int .u64 a1_0) := (kc_ BK3.out 0).trans rfl; have hz1 : w3.cell? ⟨g3, 1, none⟩ = some (.int .u64 a1_1) := (kc_ BK3.out 1).trans rfl))
  go_loopg [8] 3 (fun kq v8 w' => ∃ (x y j : Int), v8 = .int .i64 j ∧ Aside0 ((j = 0 ∧ x = a0_0 ∧ y = a0_1) ∨ (j = 1 ∧ x = Go.bits .xor .u64 a0_0 a1_0 ∧ y = a0_1) ∨ (j = 2 ∧ x = Go.bits .xor .u64 a0_0 a1_0 ∧ y = Go.bits .xor .u64 a0_1 a1_1)) ∧ Aside0 ((kq : Int) + j = 3) ∧ Aside0 (w'.heap[g2]? = some (.cells #[.int .u64 x, .int .u64 y] 25 (0, 0))) ∧ Aside0 (w'.heap[g4]? = some (.cells #[.int .u64 0, .int .u64 0] 25 (0, 0))) ∧ Aside0 (Below w.heap.size w w'))
  case atStart => exact ⟨a0_0, a0_1, 0, rfl, ⟨.inl ⟨rfl, rfl, rfl⟩⟩, ⟨rfl⟩, ⟨BK2.out⟩, ⟨BK4.out⟩, ⟨HB.out⟩⟩
  case round =>
   clear BK2 BK3 BK4 HB hz0 hz1
   obtain ⟨x, y, j, rfl, HC, HK, BK2, BK4, HB⟩ := hrel
   have BK0 := ak_ BK2.out
   have hx0 : wr.cell? ⟨g2, 0, none⟩ = some (.int .u64 x) := (kc_ BK2.out 0).trans rfl
   have hx1 : wr.cell? ⟨g2, 1, none⟩ = some (.int .u64 y) := (kc_ BK2.out 1).trans rfl
   have hf0 := kf_ BK2.out 0
   have hf1 := kf_ BK2.out 1
   have hr0 : wr.cell? ⟨g4, 0, none⟩ = some (.int .u64 0) := (kc_ BK4.out 0).trans rfl
   have hr1 : wr.cell? ⟨g4, 1, none⟩ = some (.int .u64 0) := (kc_ BK4.out 1).trans rfl
   have hs0 := kf_ BK4.out 0
   have hs1 := kf_ BK4.out 1
   rcases HC.out with ⟨rfl, rfl, rfl⟩ | ⟨rfl, rfl, rfl⟩ | ⟨rfl, rfl, rfl⟩
   ·obtain ⟨k1, rfl⟩ : ∃ k1, gk = k1 + 1 := ⟨gk - 1, by have := HK.out; omega⟩
    go_wp2
    go_roundg k1
    case measure => omega
    case rel => exact ⟨_, _, 1, rfl, ⟨.inr (.inl ⟨rfl, rfl, rfl⟩)⟩, ⟨by have := HK.out; omega⟩, ⟨blk_put BK0.out 0 _ rfl⟩, ⟨blk_far BK4.out N42.out _⟩, ⟨below_set HB.out GE2.out⟩⟩
   ·obtain ⟨k1, rfl⟩ : ∃ k1, gk = k1 + 1 := ⟨gk - 1, by have := HK.out; omega⟩
    go_wp2
    go_roundg k1
    case measure => omega
    case rel => exact ⟨_, _, 2, rfl, ⟨.inr (.inr ⟨rfl, rfl, rfl⟩)⟩, ⟨by have := HK.out; omega⟩, ⟨blk_put BK0.out 1 _ rfl⟩, ⟨blk_far BK4.out N42.out _⟩, ⟨below_set HB.out GE2.out⟩⟩
   ·go_wp2
    refine bodyPost_ret (results_cell_row rfl _ _ g4 25 #[.int .u64 (Go.bits .xor .u64 a0_0 a1_0), .int .u64 (Go.bits .xor .u64 a0_1 a1_1)] (0, 0) _ rfl (blk_put (blk_put BK4.out 0 _ rfl) 1 _ rfl) underlying25 rfl (by kernel_rfl)) rfl ?_
    exact ⟨rfl, below_set (below_set HB.out GE4.out) GE4.out⟩
def bits_RotateLeft64.f (a0 : Int) (a1 : Int) : Option (Int) := if 0 ≤ (Go.bits .and .u64 (IntKind.u64.wrap (a1)) 63) then (if 0 ≤ (IntKind.u64.wrap (64 - (Go.bits .and .u64 (IntKind.u64.wrap (a1)) 63))) then (some (Go.bits .or .u64 (shl .u64 a0 (Go.bits .and .u64 (IntKind.u64.wrap (a1)) 63)) (shr .u64 a0 (IntKind.u64.wrap (64 - (Go.bits .and .u64 (IntKind.u64.wrap (a1)) 63)))))) else (none)) else (none)
set_option maxHeartbeats 8000000 in
set_option maxRecDepth 100000 in
theorem bits_RotateLeft64.calls (a0 : Int) (a1 : Int) (r : Int) (w : World) (h : bits_RotateLeft64.f a0 a1 = some r) :
   Calls Try.prog 172 #[.int .u64 a0, .int .i64 a1] w fun e w' => e = .returned (.int .u64 r) ∧ Drawn0 w w' := by
  have H : (if 0 ≤ (Go.bits .and .u64 (IntKind.u64.wrap (a1)) 63) then (if 0 ≤ (IntKind.u64.wrap (64 - (Go.bits .and .u64 (IntKind.u64.wrap (a1)) 63))) then (some (Go.bits .or .u64 (shl .u64 a0 (Go.bits .and .u64 (IntKind.u64.wrap (a1)) 63)) (shr .u64 a0 (IntKind.u64.wrap (64 - (Go.bits .and .u64 (IntKind.u64.wrap (a1)) 63)))))) else (none)) else (none)) = some r := h
  clear h
  obtain ⟨ji3, hji3⟩ : ∃ j_ : Int, (Go.bits .and .u64 (IntKind.u64.wrap (a1)) 63) = j_ := ⟨_, rfl⟩
  replace H : (if 0 ≤ (ji3) then (if 0 ≤ (IntKind.u64.wrap (64 - (ji3))) then (some (Go.bits .or .u64 (shl .u64 a0 (ji3)) (shr .u64 a0 (IntKind.u64.wrap (64 - (ji3)))))) else (none)) else (none)) = some r := by first | (rw [hji3] at H; exact H) | (simp only [hji3] at H ⊢; exact H)
  by_cases c4 : 0 ≤ (ji3)
  ·rw [if_pos c4] at H
   have c4b0 := eq_true c4
   have c4b1 := decide_eq_true c4
   clear c4
   obtain ⟨ji5, hji5⟩ : ∃ j_ : Int, (shl .u64 a0 (ji3)) = j_ := ⟨_, rfl⟩
   replace H : (if 0 ≤ (IntKind.u64.wrap (64 - (ji3))) then (some (Go.bits .or .u64 (ji5) (shr .u64 a0 (IntKind.u64.wrap (64 - (ji3)))))) else (none)) = some r := by first | (rw [hji5] at H; exact H) | (simp only [hji5] at H ⊢; exact H)
   have hji5_ : (IntKind.u64.wrap (a0 * 2 ^ min (ji3).toNat 64)) = ji5 := hji5
   have hji5z : (ji3) ≤ 64 → (IntKind.u64.wrap (a0 * 2 ^ (ji3).toNat)) = ji5 := shl_small hji5
   obtain ⟨ji6, hji6⟩ : ∃ j_ : Int, (IntKind.u64.wrap (64 - (ji3))) = j_ := ⟨_, rfl⟩
   replace H : (if 0 ≤ (ji6) then (some (Go.bits .or .u64 (ji5) (shr .u64 a0 (ji6)))) else (none)) = some r := by first | (rw [hji6] at H; exact H) | (simp only [hji6] at H ⊢; exact H)
   by_cases c7 : 0 ≤ (ji6)
   ·rw [if_pos c7] at H
    have c7b0 := eq_true c7
    have c7b1 := decide_eq_true c7
    clear c7
    obtain ⟨ji8, hji8⟩ : ∃ j_ : Int, (shr .u64 a0 (ji6)) = j_ := ⟨_, rfl⟩
    replace H : (some (Go.bits .or .u64 (ji5) (ji8))) = some r := by first | (rw [hji8] at H; exact H) | (simp only [hji8] at H ⊢; exact H)
    have hji8_ : (a0 / 2 ^ min (ji6).toNat 64) = ji8 := hji8
    have hji8z : (ji6) ≤ 64 → (a0 / 2 ^ (ji6).toNat) = ji8 := shr_small hji8
    obtain rfl := Option.some.inj H
    go_enter func172, ntmps172
    go_wp2
    go_ret
    exact ⟨by first | rfl | (simp; done) | (simp only [← hji3, ← hji5, ← hji6, ← hji8] <;> (first | rfl | simp)) | (simp [*]; done), by repeat (first | exact Drawn0.refl _ | apply Drawn0.step)⟩
   ·rw [if_neg c7] at H
    exact absurd H (by simp)
  ·rw [if_neg c4] at H
   exact absurd H (by simp)
def mix_Mix.l0 : Nat → Int → Int → Int → Option (Int × Int)
  | 0, _, _, _ => none
  | k + 1, x3, x4, x10 => if x10 < 8 then ((bits_RotateLeft64.f (IntKind.u64.wrap ((IntKind.u64.wrap (x3 + x4)) + (IntKind.u64.wrap (x10 * 11400714819323198485)))) 13).bind fun t273 => ((bits_RotateLeft64.f (Go.bits .xor .u64 x4 t273) 29).bind fun t274 => (mix_Mix.l0 k (Go.bits .xor .u64 t273 t274) t274 (IntKind.u64.wrap (x10 + 1))))) else (some (x3, x4))
def mix_Mix.f (k : Nat) (a0_0 : Int) (a0_1 : Int) : Option (Int × Int) := mix_Mix.l0 k a0_0 a0_1 0
theorem mix_Mix.mono_l : ∀ k, (∀ y0 y1 y2, LeO (mix_Mix.l0 k y0 y1 y2) (mix_Mix.l0 (k + 1) y0 y1 y2))
  | 0 => fun _ _ _ r h => by simp [mix_Mix.l0] at h
  | k + 1 => by
   have ih0 := mix_Mix.mono_l k
   ·intro y0 y1 y2
    unfold mix_Mix.l0
    repeat' first | (with_reducible first | exact ih0 .. | exact LeO.refl _ | exact LeO.none _ | refine LeO.ite ?_ ?_ | refine LeO.bind ?_ (fun _ => ?_)) | exact ih0 .. | refine LeO.ite ?_ ?_ | refine LeO.bind ?_ (fun _ => ?_)
theorem mix_Mix.mono : ∀ a0 a1 k, LeO (mix_Mix.f k a0 a1) (mix_Mix.f (k + 1) a0 a1) := by
  intro a0 a1 k
  have ih0 := mix_Mix.mono_l k
  unfold mix_Mix.f
  repeat' first | (with_reducible first | exact ih0 .. | exact LeO.refl _ | exact LeO.none _ | refine LeO.ite ?_ ?_ | refine LeO.bind ?_ (fun _ => ?_)) | exact ih0 .. | refine LeO.ite ?_ ?_ | refine LeO.bind ?_ (fun _ => ?_)
set_option maxHeartbeats 8000000 in
set_option maxRecDepth 100000 in
theorem mix_Mix.calls (k : Nat) (a0_0 : Int) (a0_1 : Int) (r1 : Int) (r2 : Int) (w : World) (h : mix_Mix.f k a0_0 a0_1 = some (r1, r2)) :
   Calls Try.prog 168 #[.agg #[.int .u64 a0_0, .int .u64 a0_1]] w fun e w' => e = .returned (.agg #[.int .u64 r1, .int .u64 r2]) ∧ Below w.heap.size w w' := by
  have hu25 := underlying25
  have HB := ak_ (Below.refl w.heap.size w)
  have H : (mix_Mix.l0 k a0_0 a0_1 0) = some (r1, r2) := h
  clear h
  have H' := ak_ H
  clear H
  go_enter func168, ntmps168
  go_wp2_with (first | ((with_reducible refine gate_dst (N := 1) rfl ?_); refine bx_ 1 #[.int .u64 a0_0, .int .u64 a0_1] 25 ?_; intro gb271 hg w2 hbox hb; have BK271 := ak_ hbox; have GW271 := ak_ (gs_ hg HB); have GE271 := ak_ (gs_ hg HB); replace HB := ak_ (bt_ (bl_ HB) hb); clear hb hbox hg) | ((with_reducible refine gate_dst (N := 2) rfl ?_); refine bx_ 2 #[.int .u64 0, .int .u64 0] 25 ?_; intro gb272 hg w3 hbox hb; have BK272 := ak_ hbox; have GW272 := ak_ (gw1_ HB GE271 hg); have GE272 := ak_ (gw1_ HB GE271 hg); replace HB := ak_ (bt_ (bw1_ HB GE271) hb); have NB271_272 := ak_ (nl_ hg BK271); have NB272_271 := ak_ (nr_ hg BK271); replace BK271 := ak_ (kb_ (kl_ BK271) hb); clear hb hbox hg; have hnb4 := NB271_272.out; have hnc4 := NB272_271.out; obtain ⟨hcz5_0, hcz5_1, hfz5_0, hfz5_1⟩ := kc2_ BK271.out))
  repeat (go_quiet (first | ((with_reducible refine gate_dst (N := 1) rfl ?_); refine bx_ 1 #[.int .u64 a0_0, .int .u64 a0_1] 25 ?_; intro gb271 hg w2 hbox hb; have BK271 := ak_ hbox; have GW271 := ak_ (gs_ hg HB); have GE271 := ak_ (gs_ hg HB); replace HB := ak_ (bt_ (bl_ HB) hb); clear hb hbox hg) | ((with_reducible refine gate_dst (N := 2) rfl ?_); refine bx_ 2 #[.int .u64 0, .int .u64 0] 25 ?_; intro gb272 hg w3 hbox hb; have BK272 := ak_ hbox; have GW272 := ak_ (gw1_ HB GE271 hg); have GE272 := ak_ (gw1_ HB GE271 hg); replace HB := ak_ (bt_ (bw1_ HB GE271) hb); have NB271_272 := ak_ (nl_ hg BK271); have NB272_271 := ak_ (nr_ hg BK271); replace BK271 := ak_ (kb_ (kl_ BK271) hb); clear hb hbox hg; have hnb4 := NB271_272.out; have hnc4 := NB272_271.out; obtain ⟨hcz5_0, hcz5_1, hfz5_0, hfz5_1⟩ := kc2_ BK271.out)); try go_wp2_with (first | ((with_reducible refine gate_dst (N := 1) rfl ?_); refine bx_ 1 #[.int .u64 a0_0, .int .u64 a0_1] 25 ?_; intro gb271 hg w2 hbox hb; have BK271 := ak_ hbox; have GW271 := ak_ (gs_ hg HB); have GE271 := ak_ (gs_ hg HB); replace HB := ak_ (bt_ (bl_ HB) hb); clear hb hbox hg) | ((with_reducible refine gate_dst (N := 2) rfl ?_); refine bx_ 2 #[.int .u64 0, .int .u64 0] 25 ?_; intro gb272 hg w3 hbox hb; have BK272 := ak_ hbox; have GW272 := ak_ (gw1_ HB GE271 hg); have GE272 := ak_ (gw1_ HB GE271 hg); replace HB := ak_ (bt_ (bw1_ HB GE271) hb); have NB271_272 := ak_ (nl_ hg BK271); have NB272_271 := ak_ (nr_ hg BK271); replace BK271 := ak_ (kb_ (kl_ BK271) hb); clear hb hbox hg; have hnb4 := NB271_272.out; have hnc4 := NB272_271.out; obtain ⟨hcz5_0, hcz5_1, hfz5_0, hfz5_1⟩ := kc2_ BK271.out)))
  go_loopg [3, 4, 10] k (fun kq v3 v4 v10 w' => ∃ (x3_1 : Int) (x4_1 : Int) (x10_1 : Int), v3 = .int .u64 x3_1 ∧ v4 = .int .u64 x4_1 ∧ v10 = .int .u64 x10_1 ∧ Aside0 (mix_Mix.l0 kq x3_1 x4_1 x10_1 = some (r1, r2)) ∧ Aside0 (kq ≤ k) ∧ Aside0 (w'.heap[gb271]? = some (.cells #[.int .u64 a0_0, .int .u64 a0_1] 25 (0, 0))) ∧ Aside0 (w'.heap[gb272]? = some (.cells #[.int .u64 0, .int .u64 0] 25 (0, 0))) ∧ Aside0 (Below w.heap.size w w'))
  case atStart => exact ⟨(a0_0), (a0_1), (0), rf_, rf_, rf_, H', ⟨Nat.le_refl _⟩, ⟨kl_ BK271⟩, ⟨kl_ BK272⟩, ⟨bw2_ HB GE271 GE272⟩⟩
  case round =>
   clear H'
   try clear c1
   try clear p2
   try clear c4
   try clear hcz5_0 hcz5_1
   try clear hfz5_0 hfz5_1
   obtain ⟨x3_1, x4_1, x10_1, rfl, rfl, rfl, HA, HK1, BK271, BK272, HB⟩ := hrel
   cases gk with
   | zero => exact absurd HA.out (by simp [mix_Mix.l0])
   | succ k1 =>
    have H := HA.out
    clear HA
    simp only [mix_Mix.l0] at H
    by_cases c6 : x10_1 < 8
    ·rw [if_pos c6] at H
     have c6b0 := decide_eq_true c6
     clear c6
     replace H := bind_eq_some_iff.mp H
     obtain ⟨t273, A70, H⟩ := H
     replace H : ((bits_RotateLeft64.f (Go.bits .xor .u64 x4_1 t273) 29).bind fun t274 => (mix_Mix.l0 k1 (Go.bits .xor .u64 t273 t274) t274 (IntKind.u64.wrap (x10_1 + 1)))) = some (r1, r2) := H
     have A7 := ak_ A70
     clear A70
     replace H := bind_eq_some_iff.mp H
     obtain ⟨t274, A80, H⟩ := H
     replace H : (mix_Mix.l0 k1 (Go.bits .xor .u64 t273 t274) t274 (IntKind.u64.wrap (x10_1 + 1))) = some (r1, r2) := H
     have A8 := ak_ A80
     clear A80
     have H' := ak_ H
     clear H
     go_wp2_with (first | (go_at_call 172; (with_reducible refine (bits_RotateLeft64.calls (IntKind.u64.wrap ((IntKind.u64.wrap (x3_1 + x4_1)) + (IntKind.u64.wrap (x10_1 * 11400714819323198485)))) 13 t273 _ A7.out).mono ?_); rintro e w' ⟨rfl, ⟨nd, rfl⟩⟩; (try first | exact ⟨rfl, _, World.drewN_drewN _ _ _⟩ | exact ⟨rfl, _, Eq.trans (World.drewN_drewN _ _ _) (congrArg (World.drewN _) (Nat.add_assoc _ _ _))⟩)) | (go_at_call 172; (with_reducible refine (bits_RotateLeft64.calls (Go.bits .xor .u64 x4_1 t273) 29 t274 _ A8.out).mono ?_); rintro e w' ⟨rfl, ⟨nd, rfl⟩⟩; (try first | exact ⟨rfl, _, World.drewN_drewN _ _ _⟩ | exact ⟨rfl, _, Eq.trans (World.drewN_drewN _ _ _) (congrArg (World.drewN _) (Nat.add_assoc _ _ _))⟩)))
     repeat (go_quiet (first | (go_at_call 172; (with_reducible refine (bits_RotateLeft64.calls (IntKind.u64.wrap ((IntKind.u64.wrap (x3_1 + x4_1)) + (IntKind.u64.wrap (x10_1 * 11400714819323198485)))) 13 t273 _ A7.out).mono ?_); rintro e w' ⟨rfl, ⟨nd, rfl⟩⟩; (try first | exact ⟨rfl, _, World.drewN_drewN _ _ _⟩ | exact ⟨rfl, _, Eq.trans (World.drewN_drewN _ _ _) (congrArg (World.drewN _) (Nat.add_assoc _ _ _))⟩)) | (go_at_call 172; (with_reducible refine (bits_RotateLeft64.calls (Go.bits .xor .u64 x4_1 t273) 29 t274 _ A8.out).mono ?_); rintro e w' ⟨rfl, ⟨nd, rfl⟩⟩; (try first | exact ⟨rfl, _, World.drewN_drewN _ _ _⟩ | exact ⟨rfl, _, Eq.trans (World.drewN_drewN _ _ _) (congrArg (World.drewN _) (Nat.add_assoc _ _ _))⟩))); try go_wp2_with (first | (go_at_call 172; (with_reducible refine (bits_RotateLeft64.calls (IntKind.u64.wrap ((IntKind.u64.wrap (x3_1 + x4_1)) + (IntKind.u64.wrap (x10_1 * 11400714819323198485)))) 13 t273 _ A7.out).mono ?_); rintro e w' ⟨rfl, ⟨nd, rfl⟩⟩; (try first | exact ⟨rfl, _, World.drewN_drewN _ _ _⟩ | exact ⟨rfl, _, Eq.trans (World.drewN_drewN _ _ _) (congrArg (World.drewN _) (Nat.add_assoc _ _ _))⟩)) | (go_at_call 172; (with_reducible refine (bits_RotateLeft64.calls (Go.bits .xor .u64 x4_1 t273) 29 t274 _ A8.out).mono ?_); rintro e w' ⟨rfl, ⟨nd, rfl⟩⟩; (try first | exact ⟨rfl, _, World.drewN_drewN _ _ _⟩ | exact ⟨rfl, _, Eq.trans (World.drewN_drewN _ _ _) (congrArg (World.drewN _) (Nat.add_assoc _ _ _))⟩))))
     go_roundg k1
     case measure => have := HK1.out; omega
     case rel => exact ⟨(Go.bits .xor .u64 t273 t274), (t274), (IntKind.u64.wrap (x10_1 + 1)), rf_, rf_, rf_, H', ⟨by have := HK1.out; omega⟩, ⟨kl_ BK271⟩, ⟨kl_ BK272⟩, ⟨bw2_ HB GE271 GE272⟩⟩
    ·rw [if_neg c6] at H
     have c6b0 := decide_eq_false c6
     clear c6
     simp only [some.injEq, Prod.mk.injEq] at H
     obtain ⟨rfl, rfl⟩ := H
     have hnb9 := NB272_271.out
     have hnc9 := NB271_272.out
     obtain ⟨hcz10_0, hcz10_1, hfz10_0, hfz10_1⟩ := kc2_ BK272.out
     go_wp2
     go_wp2
     repeat (go_quiet (fail); try go_wp2)
     refine bodyPost_ret (results_cell_row rfl _ _ gb272 25 #[.int .u64 x3_1, .int .u64 x4_1] (0, 0) _ rfl (by (with_reducible repeat (first | refine kn_ ?_ _ | refine kd_ ?_ | refine ka_ ?_ _)); exact bp_ (bp_ BK272.out 0 _) 1 _) underlying25 rfl (by kernel_rfl)) rfl ?_
     exact ea_ (bw2_ HB GE271 GE272)
def mix_Part.j0 : Nat → Int → Bool → Int → Int → Option (Int × Int × Int)
  | 0, _, _, _, _ => none
  | k + 1, x1, x11, x276000, x276001 => if x11 = true then (some (0, 0, 1)) else ((mix_Xor.f x276000 x276001 (IntKind.u64.wrap (wrap64 (x1 + 1))) 0).bind fun bt277 => ((mix_Mix.f k bt277.1 bt277.2).bind fun bt279 => ((mix_Xor.f bt279.1 bt279.2 x276000 x276001).bind fun bt281 => (some (bt281.1, bt281.2, 0)))))
def mix_Part.f (k : Nat) (a0_0 : Int) (a0_1 : Int) (a1 : Int) : Option (Int × Int × Int) := if a1 < 0 then (mix_Part.j0 k a1 true a0_0 a0_1) else (mix_Part.j0 k a1 (decide (a1 > 4)) a0_0 a0_1)
theorem mix_Part.mono_l : ∀ k, (∀ y0 y1 y2 y3, LeO (mix_Part.j0 k y0 y1 y2 y3) (mix_Part.j0 (k + 1) y0 y1 y2 y3))
  | 0 => fun _ _ _ _ r h => by simp [mix_Part.j0] at h
  | k + 1 => by
   have ih0 := mix_Part.mono_l k
   ·intro y0 y1 y2 y3
    unfold mix_Part.j0
    repeat' first | (with_reducible first | exact ih0 .. | exact mix_Mix.mono .. | exact LeO.refl _ | exact LeO.none _ | refine LeO.ite ?_ ?_ | refine LeO.bind ?_ (fun _ => ?_)) | exact ih0 .. | exact mix_Mix.mono .. | refine LeO.ite ?_ ?_ | refine LeO.bind ?_ (fun _ => ?_)
theorem mix_Part.mono : ∀ a0 a1 a2 k, LeO (mix_Part.f k a0 a1 a2) (mix_Part.f (k + 1) a0 a1 a2) := by
  intro a0 a1 a2 k
  have ih0 := mix_Part.mono_l k
  unfold mix_Part.f
  repeat' first | (with_reducible first | exact ih0 .. | exact mix_Mix.mono .. | exact LeO.refl _ | exact LeO.none _ | refine LeO.ite ?_ ?_ | refine LeO.bind ?_ (fun _ => ?_)) | exact ih0 .. | exact mix_Mix.mono .. | refine LeO.ite ?_ ?_ | refine LeO.bind ?_ (fun _ => ?_)
def mix_Part.T3 : Bool × List (List Nat × List Nat) := (true, [([], []), ([], []), ([1], [1]), ([2], [2]), ([3], [3]), ([0, 4], [0, 4]), ([5, 5], [5]), ([], []), ([6, 7, 6], [6, 7]), ([8, 8, 0, 1, 2, 3, 4, 5, 6, 7, 8], [8]), ([9, 0, 1, 2, 3, 4, 5, 6, 7, 8, 9], [])])
def mix_Part.B3 : List Nat := [0, 0, 2, 6, 14, 31, 63, 0, 255, 511, 1023]
theorem mix_Part.tab3 : rtab .any (opsOf Try.f159 3) = mix_Part.T3 := by kernel_rfl
theorem mix_Part.bits3 : waitsOk mix_Part.T3.2 mix_Part.B3 = true := by kernel_rfl
set_option maxHeartbeats 8000000 in
set_option maxRecDepth 100000 in
theorem mix_Part.calls (k : Nat) (a0_0 : Int) (a0_1 : Int) (a1 : Int) (r1 : Int) (r2 : Int) (r3 : Int) (w : World) (h : mix_Part.f k a0_0 a0_1 a1 = some (r1, r2, r3)) :
   Calls Try.prog 159 #[.agg #[.int .u64 a0_0, .int .u64 a0_1], .int .i64 a1] w fun e w' => e = .returned (.tuple #[.agg #[.int .u64 r1, .int .u64 r2], .int .i64 r3]) ∧ Below w.heap.size w w' := by
  have hu25 := underlying25
  have HB := ak_ (Below.refl w.heap.size w)
  have H : (if a1 < 0 then (mix_Part.j0 k a1 true a0_0 a0_1) else (mix_Part.j0 k a1 (decide (a1 > 4)) a0_0 a0_1)) = some (r1, r2, r3) := h
  clear h
  have HC3 := ak_ H
  clear H
  go_enter func159, ntmps159
  go_upto_region 1 with (first | ((with_reducible refine gate_dst (N := 2) rfl ?_); refine bx_ 2 #[.int .u64 a0_0, .int .u64 a0_1] 25 ?_; intro gb275 hg w4 hbox hb; have BK275 := ak_ hbox; have GW275 := ak_ (gs_ hg HB); have GE275 := ak_ (gs_ hg HB); replace HB := ak_ (bt_ (bl_ HB) hb); clear hb hbox hg) | ((with_reducible refine gate_dst (N := 4) rfl ?_); refine bx_ 4 #[.int .u64 0, .int .u64 0] 25 ?_; intro gb276 hg w5 hbox hb; have BK276 := ak_ hbox; have GW276 := ak_ (gw1_ HB GE275 hg); have GE276 := ak_ (gw1_ HB GE275 hg); replace HB := ak_ (bt_ (bw1_ HB GE275) hb); have NB275_276 := ak_ (nl_ hg BK275); have NB276_275 := ak_ (nr_ hg BK275); replace BK275 := ak_ (kb_ (kl_ BK275) hb); clear hb hbox hg))
  (try simp only [Act.put, setIfInBounds_toArray, set_cons_zero, set_cons_succ])
  go_cut [11] (fun v11 wc => ∃ (kq : Nat) (x11_2 : Bool), v11 = .bool x11_2 ∧ Aside0 (mix_Part.j0 kq a1 x11_2 a0_0 a0_1 = some (r1, r2, r3)) ∧ Aside0 (kq ≤ k) ∧ Aside0 (wc.heap[gb275]? = some (.cells #[.int .u64 a0_0, .int .u64 a0_1] 25 (0, 0))) ∧ Aside0 (wc.heap[gb276]? = some (.cells #[.int .u64 0, .int .u64 0] 25 (0, 0))) ∧ Aside0 (Below w.heap.size w wc))
  case first =>
   have H := HC3.out
   clear HC3
   by_cases c6 : a1 < 0
   ·rw [if_pos c6] at H
    have c6b0 := decide_eq_true c6
    clear c6
    (first | rw [c6b0] | (simp only [i64_w, i32_w]; rw [c6b0]) | skip)
    have H' := ak_ H
    clear H
    go_wp2
    go_meet
    case rel => exact ⟨_, (true), rf_, H', ⟨by first | omega | exact Nat.le_refl _⟩, ⟨kl_ BK275⟩, ⟨kl_ BK276⟩, ⟨bw2_ HB GE275 GE276⟩⟩
   ·rw [if_neg c6] at H
    have c6b0 := decide_eq_false c6
    clear c6
    (first | rw [c6b0] | (simp only [i64_w, i32_w]; rw [c6b0]) | skip)
    have H' := ak_ H
    clear H
    go_wp2
    go_meet
    case rel => exact ⟨_, (decide (a1 > 4)), rf_, H', ⟨by first | omega | exact Nat.le_refl _⟩, ⟨kl_ BK275⟩, ⟨kl_ BK276⟩, ⟨bw2_ HB GE275 GE276⟩⟩
  case rest =>
   clear HC3
   try clear c1
   try clear p2
   try clear c6
   try clear c6b0
   obtain ⟨kq, x11_2, rfl, HA, HJ2, BK275, BK276, HB⟩ := hcut
   cases kq with
   | zero => exact absurd HA.out (by simp [mix_Part.j0])
   | succ kj2 =>
    have H := HA.out
    clear HA
    simp only [mix_Part.j0] at H
    by_cases c7 : x11_2 = true
    ·subst c7
     have H1 : (some (0, 0, 1)) = some (r1, r2, r3) := by rw [if_pos rfl] at H; exact H
     clear H
     have H := H1
     clear H1
     simp only [some.injEq, Prod.mk.injEq] at H
     obtain ⟨rfl, rfl, rfl⟩ := H
     have hnb8 := NB276_275.out
     have hnc8 := NB275_276.out
     obtain ⟨hcz9_0, hcz9_1, hfz9_0, hfz9_1⟩ := kc2_ BK276.out
     go_wp2
     go_wp2
     refine bodyPost_ret (results_ct rfl _ _ gb276 25 #[.int .u64 0, .int .u64 0] (0, 0) _ rfl (by (with_reducible repeat (first | refine kn_ ?_ _ | refine kd_ ?_ | refine ka_ ?_ _)); exact bp_ (bp_ BK276.out 0 _) 1 _) underlying25 rfl (by kernel_rfl)) rfl ?_
     exact ea_ (bw2_ HB GE275 GE276)
    ·replace c7 := Bool.eq_false_iff.mpr c7
     subst c7
     have H1 : ((mix_Xor.f a0_0 a0_1 (IntKind.u64.wrap (wrap64 (a1 + 1))) 0).bind fun bt277 => ((mix_Mix.f kj2 bt277.1 bt277.2).bind fun bt279 => ((mix_Xor.f bt279.1 bt279.2 a0_0 a0_1).bind fun bt281 => (some (bt281.1, bt281.2, 0))))) = some (r1, r2, r3) := by rw [if_neg (show ¬ (false = true) by decide)] at H; exact H
     clear H
     have H := H1
     clear H1
     replace H := bind_eq_some_iff.mp H
     obtain ⟨⟨t277, t278⟩, A100, H⟩ := H
     replace H : ((mix_Mix.f kj2 t277 t278).bind fun bt279 => ((mix_Xor.f bt279.1 bt279.2 a0_0 a0_1).bind fun bt281 => (some (bt281.1, bt281.2, 0)))) = some (r1, r2, r3) := H
     have A10 := ak_ A100
     clear A100
     replace H := bind_eq_some_iff.mp H
     obtain ⟨⟨t279, t280⟩, A110, H⟩ := H
     replace H : ((mix_Xor.f t279 t280 a0_0 a0_1).bind fun bt281 => (some (bt281.1, bt281.2, 0))) = some (r1, r2, r3) := H
     have A11 := ak_ A110
     clear A110
     replace H := bind_eq_some_iff.mp H
     obtain ⟨⟨t281, t282⟩, A120, H⟩ := H
     replace H : (some (t281, t282, 0)) = some (r1, r2, r3) := H
     have A12 := ak_ A120
     clear A120
     simp only [some.injEq, Prod.mk.injEq] at H
     obtain ⟨rfl, rfl, rfl⟩ := H
     try go_wp2
     replace BK275 := ak_ (kd_ BK275.out)
     replace BK276 := ak_ (kd_ BK276.out)
     replace HB := ak_ (bd_ HB.out)
     refine start_ (n := 11) (S := fun w' => w'.cell? ⟨gb275, 0, none⟩ = some (.int .u64 a0_0) ∧ w'.cell? ⟨gb275, 1, none⟩ = some (.int .u64 a0_1)) (ds := []) #[false, false, false, false, false, false, false, false, false, false, false] (by kernel_rfl) rfl rfl ⟨kq_ BK275.out 0 rfl, kq_ BK275.out 1 rfl⟩ (fun hHeld => ?_); refine with_tabW mix_Part.tab3 mix_Part.bits3 (fun HT_ HW_ => ?_)
     generalize wc.drew = w13 at BK275 BK276 HB hHeld ⊢
     refine pu_ HT_ 1 (some 14) #[false, true, false, false, false, false, false, false, false, false, false] ?_
     refine pu_ HT_ 2 (some 15) #[false, true, true, false, false, false, false, false, false, false, false] ?_
     refine pu_ HT_ 3 (some 16) #[false, true, true, true, false, false, false, false, false, false, false] ?_
     refine pu_ HT_ 4 (some 17) #[false, true, true, true, true, false, false, false, false, false, false] ?_
     refine tk_ HT_ HW_ hHeld 0 (some 13) #[true, true, true, true, true, false, false, false, false, false, false] rfl (by rintro w' ⟨s0, s1⟩; go_simp; with_reducible rfl) ?_
     refine tk_ HT_ HW_ hHeld 7 (some 20) #[true, true, true, true, true, false, false, true, false, false, false] rfl (by rintro w' ⟨s0, s1⟩; go_simp; with_reducible rfl) ?_
     refine one_ (i := 5) (N := some 18) #[true, true, true, true, true, true, false, true, false, false, false] rfl rfl (one_of HT_.out (by kernel_rfl)) (by decide) (fun K hK => ?_)
     refine gg_ func167 #[.agg #[.int .u64 a0_0, .int .u64 a0_1], .agg #[.int .u64 (IntKind.u64.wrap (wrap64 (a1 + 1))), .int .u64 0]] ?_
     with_reducible refine (mix_Xor.calls a0_0 a0_1 (IntKind.u64.wrap (wrap64 (a1 + 1))) 0 t277 t278 _ A10.out).mono ?_
     rintro e w14 ⟨rfl, hb⟩
     refine ⟨_, rfl, ?_⟩
     replace BK275 := ak_ (kb_ (kl_ BK275) hb)
     replace BK276 := ak_ (kb_ (kl_ BK276) hb)
     replace HB := ak_ (bt_ (bw2_ HB GE275 GE276) hb)
     (try clear hb)
     (try clear hb2)
     (try clear hk)
     (try clear hi)
     refine hK.out _ _ ⟨kq_ BK275.out 0 rfl, kq_ BK275.out 1 rfl⟩ (fun hHeld => ?_)
     clear hK K
     refine norm_ (a' := ?_) ?_ ?_
     rotate_left
     ·show Act.put _ (some 18) _ = _
      simp only [Act.put, setIfInBounds_toArray, set_cons_zero, set_cons_succ, i64_w, i32_w]
      rfl
     refine one_ (i := 6) (N := some 19) #[true, true, true, true, true, true, true, true, false, false, false] rfl rfl (one_of HT_.out (by kernel_rfl)) (by decide) (fun K hK => ?_)
     refine gg_ func168 #[.agg #[.int .u64 t277, .int .u64 t278]] ?_
     with_reducible refine (mix_Mix.calls kj2 t277 t278 t279 t280 _ A11.out).mono ?_
     rintro e w15 ⟨rfl, hb⟩
     refine ⟨_, rfl, ?_⟩
     replace BK275 := ak_ (kb_ (kl_ BK275) hb)
     replace BK276 := ak_ (kb_ (kl_ BK276) hb)
     replace HB := ak_ (bt_ (bw2_ HB GE275 GE276) hb)
     (try clear hb)
     (try clear hb2)
     (try clear hk)
     (try clear hi)
     refine hK.out _ _ ⟨kq_ BK275.out 0 rfl, kq_ BK275.out 1 rfl⟩ (fun hHeld => ?_)
     clear hK K
     refine norm_ (a' := ?_) ?_ ?_
     rotate_left
     ·show Act.put _ (some 19) _ = _
      simp only [Act.put, setIfInBounds_toArray, set_cons_zero, set_cons_succ, i64_w, i32_w]
      rfl
     refine one_ (i := 8) (N := some 21) #[true, true, true, true, true, true, true, true, true, false, false] rfl rfl (one_of HT_.out (by kernel_rfl)) (by decide) (fun K hK => ?_)
     refine gg_ func167 #[.agg #[.int .u64 t279, .int .u64 t280], .agg #[.int .u64 a0_0, .int .u64 a0_1]] ?_
     with_reducible refine (mix_Xor.calls t279 t280 a0_0 a0_1 t281 t282 _ A12.out).mono ?_
     rintro e w16 ⟨rfl, hb⟩
     refine ⟨_, rfl, ?_⟩
     replace BK275 := ak_ (kb_ (kl_ BK275) hb)
     replace BK276 := ak_ (kb_ (kl_ BK276) hb)
     replace HB := ak_ (bt_ (bw2_ HB GE275 GE276) hb)
     (try clear hb)
     (try clear hb2)
     (try clear hk)
     (try clear hi)
     refine hK.out _ _ ⟨kq_ BK275.out 0 rfl, kq_ BK275.out 1 rfl⟩ (fun hHeld => ?_)
     clear hK K
     refine norm_ (a' := ?_) ?_ ?_
     rotate_left
     ·show Act.put _ (some 21) _ = _
      simp only [Act.put, setIfInBounds_toArray, set_cons_zero, set_cons_succ, i64_w, i32_w]
      rfl
     refine one_ (i := 9) (N := none) #[true, true, true, true, true, true, true, true, true, true, false] rfl rfl (one_of HT_.out (by kernel_rfl)) (by decide) (fun K hK => ?_)
     have hs17 : w16.cell? ⟨gb276, 0, none⟩ = some (.int .u64 0) := (kc_ BK276.out 0).trans rfl
     have hfs17 := kf_ BK276.out 0
     have hns17_0 := NB275_276.out
     have hms17_0 := NB276_275.out
     have hs18 : w16.cell? ⟨gb276, 1, none⟩ = some (.int .u64 0) := (kc_ BK276.out 1).trans rfl
     have hfs18 := kf_ BK276.out 1
     have hns18_0 := NB275_276.out
     have hms18_0 := NB276_275.out
     refine skip_ (w1 := ?_) (by rfl) rfl ?_ ?_
     rotate_left
     ·go_simp
      rfl
     refine hK.out _ _ ⟨((cell_far (p := ⟨gb276, _, none⟩) NB275_276.out _).trans (((cell_far (p := ⟨gb276, _, none⟩) NB275_276.out _).trans (hHeld.1)))), ((cell_far (p := ⟨gb276, _, none⟩) NB275_276.out _).trans (((cell_far (p := ⟨gb276, _, none⟩) NB275_276.out _).trans (hHeld.2))))⟩ (fun hHeld => ?_)
     clear hK K
     refine pu_ HT_ 10 (some 5) #[true, true, true, true, true, true, true, true, true, true, true] ?_
     refine done_ (done_of HT_.out (by kernel_rfl)) ?_
     try go_wp2
     refine bodyPost_ret (results_ct rfl _ _ gb276 25 #[.int .u64 t281, .int .u64 t282] (0, 0) _ rfl (by (with_reducible repeat (first | refine kn_ ?_ _ | refine kd_ ?_ | refine ka_ ?_ _)); exact bp_ (bp_ BK276.out 0 _) 1 _) underlying25 rfl (by kernel_rfl)) rfl ?_
     exact ea_ (bw2_ HB GE275 GE276)
end Go.Proofs.Ytoljdfgkkkpnbaa.MP
