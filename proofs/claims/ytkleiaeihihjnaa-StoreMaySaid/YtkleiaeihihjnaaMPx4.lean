-- written by a program of this session (wip/tools/mprint.sh) for this seat
import Derived.Test.YtkleiaeihihjnaaMPx0
import Derived.Test.YtkleiaeihihjnaaMPx2
import Derived.Test.YtkleiaeihihjnaaMPx3
import Derived.WalkMore
import Derived.Carry
import Derived.Laws.StructEq
import Derived.ChangeKeysEq
namespace Go.Proofs.Ytkleiaeihihjnaa.MP
open Go.RowKit Go.Proofs.YtkleiaeihihjnaaW.PrintWords Go.Proofs.YtkleiaeihihjnaaW.PrintLast Go.Proofs.YtkleiaeihihjnaaW.PrintMore
open Option (bind_eq_some_iff some.injEq)
open _root_.Go.Proofs.Try
open List (setIfInBounds_toArray set_cons_zero set_cons_succ map_toArray map_cons map_nil length_drop length_take)
attribute [local go_sem] max2_int min2_int max_two min_two max_three min_three max_four min_four
set_option linter.unusedVariables false
set_option linter.unusedSimpArgs false
def value_is.l0 : Nat → List (S45) → List Bool → List (S34) → List (S34) → Int → Int → Option (Int)
  | 0, _, _, _, _, _, _ => none
  | k + 1, x0, x1, x2, x11, x12, x13 => if x13 < x12 then (if 0 ≤ x13 then (if x13 < (x11.length : Int) then ((value_Check.f k x0 ((rd_T34 x11 x13).f0) ((rd_T34 x11 x13).f1) ((rd_T34 x11 x13).f2.f0) ((rd_T34 x11 x13).f2.f1) ((rd_T34 x11 x13).f3.f0.f0) ((rd_T34 x11 x13).f3.f0.f1) ((rd_T34 x11 x13).f3.f1.f0) ((rd_T34 x11 x13).f3.f1.f1) ((rd_T34 x11 x13).f4)).bind fun t172 => (if t172 = 0 then (if (rd_T34 x11 x13).f0 = true then (if 0 ≤ ((rd_T34 x11 x13).f4) then (if ((rd_T34 x11 x13).f4) < (x0.length : Int) then (if x13 < (x1.length : Int) then (if ((((rd_T45 x0 ((rd_T34 x11 x13).f4)).f0) == 5) != (rdOf false x1 x13)) = true then (some 1) else (if 0 < (x2.length : Int) then (if (((rd_T34 x11 x13).f0) != ((rd_T34 x2 0).f0)) = true then (some 1) else (value_is.l0 k x0 x1 x2 x11 x12 (wrap64 (x13 + 1)))) else (none))) else (none)) else (none)) else (none)) else (if x13 < (x1.length : Int) then (if (((rd_T34 x11 x13).f1) != (rdOf false x1 x13)) = true then (some 1) else (if 0 < (x2.length : Int) then (if (((rd_T34 x11 x13).f0) != ((rd_T34 x2 0).f0)) = true then (some 1) else (value_is.l0 k x0 x1 x2 x11 x12 (wrap64 (x13 + 1)))) else (none))) else (none))) else (some t172))) else (none)) else (none)) else (some 0)
def value_is.f (k : Nat) (l0 : List (S45)) (l1 : List Bool) (l2 : List (S34)) : Option (Int) := value_is.l0 k l0 l1 l2 l2 (l2.length : Int) 0
theorem value_is.mono_l : ∀ k, (∀ y0 y1 y2 y3 y4 y5, LeO (value_is.l0 k y0 y1 y2 y3 y4 y5) (value_is.l0 (k + 1) y0 y1 y2 y3 y4 y5))
  | 0 => fun _ _ _ _ _ _ r h => by simp [value_is.l0] at h
  | k + 1 => by
   have ih0 := value_is.mono_l k
   ·intro y0 y1 y2 y3 y4 y5
    unfold value_is.l0
    repeat' first | (with_reducible first | exact ih0 .. | exact value_Check.mono .. | exact LeO.refl _ | exact LeO.none _ | refine LeO.ite ?_ ?_ | refine LeO.bind ?_ (fun _ => ?_)) | exact ih0 .. | exact value_Check.mono .. | refine LeO.ite ?_ ?_ | refine LeO.bind ?_ (fun _ => ?_)
theorem value_is.mono : ∀ a0 a1 a2 k, LeO (value_is.f k a0 a1 a2) (value_is.f (k + 1) a0 a1 a2) := by
  intro a0 a1 a2 k
  have ih0 := value_is.mono_l k
  unfold value_is.f
  repeat' first | (with_reducible first | exact ih0 .. | exact value_Check.mono .. | exact LeO.refl _ | exact LeO.none _ | refine LeO.ite ?_ ?_ | refine LeO.bind ?_ (fun _ => ?_)) | exact ih0 .. | exact value_Check.mono .. | refine LeO.ite ?_ ?_ | refine LeO.bind ?_ (fun _ => ?_)
set_option maxHeartbeats 8000000 in
set_option maxRecDepth 100000 in
theorem value_is.calls (k : Nat) (A0 : Option Addr) (c0 : Nat) (l0 : List (S45)) (A1 : Option Addr) (c1 : Nat) (l1 : List Bool) (A2 : Option Addr) (c2 : Nat) (l2 : List (S34)) (r : Int) (w : World) (hr0 : Kd.C k45 w A0 l0.length l0) (hc0 : l0.length ≤ c0) (hr1 : Kd.C Kd.bool w A1 l1.length l1) (hc1 : l1.length ≤ c1) (hr2 : Kd.C k34 w A2 l2.length l2) (hc2 : l2.length ≤ c2) (h : value_is.f k l0 l1 l2 = some r) :
   Calls Try.prog 97 #[.slice A0 l0.length c0, .slice A1 l1.length c1, .slice A2 l2.length c2] w fun e w' => e = .returned (.int .i64 r) ∧ Below w.heap.size w w' := by
  have hu34 := underlying34
  have HR0 := ak_ hr0
  have HC0 := ak_ hc0
  clear hr0 hc0
  have HR1 := ak_ hr1
  have HC1 := ak_ hc1
  clear hr1 hc1
  have HR2 := ak_ hr2
  have HC2 := ak_ hc2
  clear hr2 hc2
  have HB := ak_ (Below.refl w.heap.size w)
  have H : (value_is.l0 k l0 l1 l2 l2 (l2.length : Int) 0) = some r := h
  clear h
  have H' := ak_ H
  clear H
  go_enter func97, ntmps97
  go_wp2
  repeat (go_quiet (fail); try go_wp2)
  go_loopg [13] k (fun kq v13 w' => ∃ (x13_1 : Int), v13 = .int .i64 x13_1 ∧ Aside0 (value_is.l0 kq l0 l1 l2 l2 (l2.length : Int) x13_1 = some r) ∧ Aside0 (kq ≤ k) ∧ Aside0 (Below w.heap.size w w'))
  case atStart => exact ⟨(0), rf_, H', ⟨Nat.le_refl _⟩, ⟨bl_ HB⟩⟩
  case round =>
   clear H'
   try clear c1
   try clear c2
   try clear p2
   obtain ⟨x13_1, rfl, HA, HK1, HB⟩ := hrel
   cases gk with
   | zero => exact absurd HA.out (by simp [value_is.l0])
   | succ k1 =>
    have H := HA.out
    clear HA
    simp only [value_is.l0] at H
    by_cases c4 : x13_1 < (l2.length : Int)
    ·rw [if_pos c4] at H
     have c4b0 := decide_eq_true c4
     clear c4
     by_cases c5 : 0 ≤ x13_1
     ·rw [if_pos c5] at H
      have c5b0 := decide_eq_true c5
      clear c5
      by_cases c6 : x13_1 < (l2.length : Int)
      ·rw [if_pos c6] at H
       have c6b0 := decide_eq_true c6
       clear c6
       replace H := bind_eq_some_iff.mp H
       obtain ⟨t172, A70, H⟩ := H
       replace H : (if t172 = 0 then (if (rd_T34 l2 x13_1).f0 = true then (if 0 ≤ ((rd_T34 l2 x13_1).f4) then (if ((rd_T34 l2 x13_1).f4) < (l0.length : Int) then (if x13_1 < (l1.length : Int) then (if ((((rd_T45 l0 ((rd_T34 l2 x13_1).f4)).f0) == 5) != (rdOf false l1 x13_1)) = true then (some 1) else (if 0 < (l2.length : Int) then (if (((rd_T34 l2 x13_1).f0) != ((rd_T34 l2 0).f0)) = true then (some 1) else (value_is.l0 k1 l0 l1 l2 l2 (l2.length : Int) (wrap64 (x13_1 + 1)))) else (none))) else (none)) else (none)) else (none)) else (if x13_1 < (l1.length : Int) then (if (((rd_T34 l2 x13_1).f1) != (rdOf false l1 x13_1)) = true then (some 1) else (if 0 < (l2.length : Int) then (if (((rd_T34 l2 x13_1).f0) != ((rd_T34 l2 0).f0)) = true then (some 1) else (value_is.l0 k1 l0 l1 l2 l2 (l2.length : Int) (wrap64 (x13_1 + 1)))) else (none))) else (none))) else (some t172)) = some r := H
       have A7 := ak_ A70
       clear A70
       by_cases c8 : t172 = 0
       ·rw [if_pos c8] at H
        have c8b0 : (t172 == 0) = true := beq_iff_eq.mpr c8
        have c8b1 : (t172 != 0) = false := bne_eq_false_iff_eq.mpr c8
        clear c8
        obtain ⟨bq9, hbq9⟩ : ∃ b_ : Bool, b_ = ((rd_T34 l2 x13_1).f0) := ⟨_, rfl⟩
        replace H : (if bq9 = true then (if 0 ≤ ((rd_T34 l2 x13_1).f4) then (if ((rd_T34 l2 x13_1).f4) < (l0.length : Int) then (if x13_1 < (l1.length : Int) then (if ((((rd_T45 l0 ((rd_T34 l2 x13_1).f4)).f0) == 5) != (rdOf false l1 x13_1)) = true then (some 1) else (if 0 < (l2.length : Int) then (if ((bq9) != ((rd_T34 l2 0).f0)) = true then (some 1) else (value_is.l0 k1 l0 l1 l2 l2 (l2.length : Int) (wrap64 (x13_1 + 1)))) else (none))) else (none)) else (none)) else (none)) else (if x13_1 < (l1.length : Int) then (if (((rd_T34 l2 x13_1).f1) != (rdOf false l1 x13_1)) = true then (some 1) else (if 0 < (l2.length : Int) then (if ((bq9) != ((rd_T34 l2 0).f0)) = true then (some 1) else (value_is.l0 k1 l0 l1 l2 l2 (l2.length : Int) (wrap64 (x13_1 + 1)))) else (none))) else (none))) = some r := by rw [← hbq9] at H; exact H
        have Nbq9 := ak_ hbq9
        clear hbq9
        by_cases c10 : bq9 = true
        ·subst c10
         have n_ := A7.out
         rw [← Nbq9.out] at n_
         clear A7
         have A7 := ak_ n_
         clear n_
         have H1 : (if 0 ≤ ((rd_T34 l2 x13_1).f4) then (if ((rd_T34 l2 x13_1).f4) < (l0.length : Int) then (if x13_1 < (l1.length : Int) then (if ((((rd_T45 l0 ((rd_T34 l2 x13_1).f4)).f0) == 5) != (rdOf false l1 x13_1)) = true then (some 1) else (if 0 < (l2.length : Int) then (if ((true) != ((rd_T34 l2 0).f0)) = true then (some 1) else (value_is.l0 k1 l0 l1 l2 l2 (l2.length : Int) (wrap64 (x13_1 + 1)))) else (none))) else (none)) else (none)) else (none)) = some r := by rw [if_pos rfl] at H; exact H
         clear H
         have H := H1
         clear H1
         by_cases c11 : 0 ≤ ((rd_T34 l2 x13_1).f4)
         ·rw [if_pos c11] at H
          have c11b0 := decide_eq_true c11
          clear c11
          by_cases c12 : ((rd_T34 l2 x13_1).f4) < (l0.length : Int)
          ·rw [if_pos c12] at H
           have c12b0 := decide_eq_true c12
           clear c12
           by_cases c13 : x13_1 < (l1.length : Int)
           ·rw [if_pos c13] at H
            have c13b0 := decide_eq_true c13
            clear c13
            by_cases c14 : ((((rd_T45 l0 ((rd_T34 l2 x13_1).f4)).f0) == 5) != (rdOf false l1 x13_1)) = true
            ·rw [if_pos c14] at H
             have c14b0 : ((((rd_T45 l0 ((rd_T34 l2 x13_1).f4)).f0) == 5) != (rdOf false l1 x13_1)) = true := c14
             (try (have c14b1 : decide ((((rd_T45 l0 ((rd_T34 l2 x13_1).f4)).f0) == 5) = (rdOf false l1 x13_1)) = false := by simpa using c14))
             (try (have c14b2 : ((((rd_T45 l0 ((rd_T34 l2 x13_1).f4)).f0) == 5) == (rdOf false l1 x13_1)) = false := by simpa using c14))
             (try (have c14b3 : ¬ ((((rd_T45 l0 ((rd_T34 l2 x13_1).f4)).f0) == 5) = (rdOf false l1 x13_1)) := by simpa using c14))
             clear c14
             obtain rfl := Option.some.inj H
             have p170 : 0 ≤ (x13_1 : Int) := od_ (by first | (with_reducible assumption) | assumption)
             have q170 : x13_1 < (l2.length : Int) := od_ (by first | (with_reducible assumption) | assumption)
             obtain ⟨ad170, e170, hx170_0, hx170_1, hx170_2, hx170_3, hx170_4, hx170_5, hx170_6, hx170_7, hx170_8⟩ := at_T34 HR2.out x13_1 p170 q170
             (try rw [← Nbq9.out] at hx170_0)
             (try rw [← Nbq9.out] at hx170_1)
             cases e170
             replace hx170_0 := cx_ HB hx170_0
             replace hx170_1 := cx_ HB hx170_1
             replace hx170_2 := cx_ HB hx170_2
             replace hx170_3 := cx_ HB hx170_3
             replace hx170_4 := cx_ HB hx170_4
             replace hx170_5 := cx_ HB hx170_5
             replace hx170_6 := cx_ HB hx170_6
             replace hx170_7 := cx_ HB hx170_7
             replace hx170_8 := cx_ HB hx170_8
             replace p170 := eq_true p170
             replace q170 := eq_true q170
             go_wp2_with (first | ((with_reducible refine gate_dst (N := 8) rfl ?_); refine bx_ 8 #[.bool false, .bool false, .int .u64 0, .int .u64 0, .int .u64 0, .int .u64 0, .int .u64 0, .int .u64 0, .int .i64 0] 34 ?_; intro gb171 hg w15 hbox hb; have BK171 := ak_ hbox; have GW171 := ak_ (gs_ hg HB); have GE171 := ak_ (gs_ hg HB); replace HB := ak_ (bt_ (bl_ HB) hb); clear hb hbox hg; obtain ⟨hcz16_0, hcz16_1, hcz16_2, hcz16_3, hcz16_4, hcz16_5, hcz16_6, hcz16_7, hcz16_8, hfz16_0, hfz16_1, hfz16_2, hfz16_3, hfz16_4, hfz16_5, hfz16_6, hfz16_7, hfz16_8⟩ := kc9_ BK171.out) | (go_at_call 58; (with_reducible refine (value_Check.calls k1 _ _ l0 true ((rd_T34 l2 x13_1).f1) ((rd_T34 l2 x13_1).f2.f0) ((rd_T34 l2 x13_1).f2.f1) ((rd_T34 l2 x13_1).f3.f0.f0) ((rd_T34 l2 x13_1).f3.f0.f1) ((rd_T34 l2 x13_1).f3.f1.f0) ((rd_T34 l2 x13_1).f3.f1.f1) ((rd_T34 l2 x13_1).f4) t172 _ ?side1 ?side2 A7.out).mono ?_); (case side1 => exact Kd.C_below HR0.out (bw1_ HB GE171)); (case side2 => exact HC0.out); rintro e w17 ⟨rfl, hb⟩; replace BK171 := ak_ (kb_ (g := gb171) (o := .cells #[.bool true, .bool ((rd_T34 l2 x13_1).f1), .int .u64 ((rd_T34 l2 x13_1).f2.f0), .int .u64 ((rd_T34 l2 x13_1).f2.f1), .int .u64 ((rd_T34 l2 x13_1).f3.f0.f0), .int .u64 ((rd_T34 l2 x13_1).f3.f0.f1), .int .u64 ((rd_T34 l2 x13_1).f3.f1.f0), .int .u64 ((rd_T34 l2 x13_1).f3.f1.f1), .int .i64 ((rd_T34 l2 x13_1).f4)] 34 (0, 0)) (by (with_reducible repeat (first | refine kn_ ?_ _ | refine kd_ ?_ | refine ka_ ?_ _)); exact sC_blk BK171.out rfl rfl) hb); replace HB := ak_ (bt_ (bw1_ HB GE171) hb); (try clear hb); (try clear hk); obtain ⟨hcz18_0, hcz18_1, hcz18_2, hcz18_3, hcz18_4, hcz18_5, hcz18_6, hcz18_7, hcz18_8, hfz18_0, hfz18_1, hfz18_2, hfz18_3, hfz18_4, hfz18_5, hfz18_6, hfz18_7, hfz18_8⟩ := kc9_ BK171.out; have p173 : 0 ≤ (((rd_T34 l2 x13_1).f4) : Int) := od_ (by first | (with_reducible assumption) | assumption); have q173 : ((rd_T34 l2 x13_1).f4) < (l0.length : Int) := od_ (by first | (with_reducible assumption) | assumption); obtain ⟨ad173, e173, hx173_0, hx173_1, hx173_2⟩ := at_T45 HR0.out ((rd_T34 l2 x13_1).f4) p173 q173; cases e173; replace hx173_0 := cx_ HB hx173_0; replace hx173_1 := cx_ HB hx173_1; replace hx173_2 := cx_ HB hx173_2; replace p173 := eq_true p173; replace q173 := eq_true q173; have p174 : 0 ≤ (x13_1 : Int) := od_ (by first | (with_reducible assumption) | assumption); have q174 : x13_1 < (l1.length : Int) := od_ (by first | (with_reducible assumption) | assumption); obtain ⟨ad174, e174, hx174_0⟩ := Kd.at_bool HR1.out x13_1 p174 q174; (try rw [← Nbq9.out] at hx174_0); cases e174; replace hx174_0 := cx_ HB hx174_0; replace p174 := eq_true p174; replace q174 := eq_true q174))
             repeat (go_quiet (first | ((with_reducible refine gate_dst (N := 8) rfl ?_); refine bx_ 8 #[.bool false, .bool false, .int .u64 0, .int .u64 0, .int .u64 0, .int .u64 0, .int .u64 0, .int .u64 0, .int .i64 0] 34 ?_; intro gb171 hg w15 hbox hb; have BK171 := ak_ hbox; have GW171 := ak_ (gs_ hg HB); have GE171 := ak_ (gs_ hg HB); replace HB := ak_ (bt_ (bl_ HB) hb); clear hb hbox hg; obtain ⟨hcz16_0, hcz16_1, hcz16_2, hcz16_3, hcz16_4, hcz16_5, hcz16_6, hcz16_7, hcz16_8, hfz16_0, hfz16_1, hfz16_2, hfz16_3, hfz16_4, hfz16_5, hfz16_6, hfz16_7, hfz16_8⟩ := kc9_ BK171.out) | (go_at_call 58; (with_reducible refine (value_Check.calls k1 _ _ l0 true ((rd_T34 l2 x13_1).f1) ((rd_T34 l2 x13_1).f2.f0) ((rd_T34 l2 x13_1).f2.f1) ((rd_T34 l2 x13_1).f3.f0.f0) ((rd_T34 l2 x13_1).f3.f0.f1) ((rd_T34 l2 x13_1).f3.f1.f0) ((rd_T34 l2 x13_1).f3.f1.f1) ((rd_T34 l2 x13_1).f4) t172 _ ?side1 ?side2 A7.out).mono ?_); (case side1 => exact Kd.C_below HR0.out (bw1_ HB GE171)); (case side2 => exact HC0.out); rintro e w17 ⟨rfl, hb⟩; replace BK171 := ak_ (kb_ (g := gb171) (o := .cells #[.bool true, .bool ((rd_T34 l2 x13_1).f1), .int .u64 ((rd_T34 l2 x13_1).f2.f0), .int .u64 ((rd_T34 l2 x13_1).f2.f1), .int .u64 ((rd_T34 l2 x13_1).f3.f0.f0), .int .u64 ((rd_T34 l2 x13_1).f3.f0.f1), .int .u64 ((rd_T34 l2 x13_1).f3.f1.f0), .int .u64 ((rd_T34 l2 x13_1).f3.f1.f1), .int .i64 ((rd_T34 l2 x13_1).f4)] 34 (0, 0)) (by (with_reducible repeat (first | refine kn_ ?_ _ | refine kd_ ?_ | refine ka_ ?_ _)); exact sC_blk BK171.out rfl rfl) hb); replace HB := ak_ (bt_ (bw1_ HB GE171) hb); (try clear hb); (try clear hk); obtain ⟨hcz18_0, hcz18_1, hcz18_2, hcz18_3, hcz18_4, hcz18_5, hcz18_6, hcz18_7, hcz18_8, hfz18_0, hfz18_1, hfz18_2, hfz18_3, hfz18_4, hfz18_5, hfz18_6, hfz18_7, hfz18_8⟩ := kc9_ BK171.out; have p173 : 0 ≤ (((rd_T34 l2 x13_1).f4) : Int) := od_ (by first | (with_reducible assumption) | assumption); have q173 : ((rd_T34 l2 x13_1).f4) < (l0.length : Int) := od_ (by first | (with_reducible assumption) | assumption); obtain ⟨ad173, e173, hx173_0, hx173_1, hx173_2⟩ := at_T45 HR0.out ((rd_T34 l2 x13_1).f4) p173 q173; cases e173; replace hx173_0 := cx_ HB hx173_0; replace hx173_1 := cx_ HB hx173_1; replace hx173_2 := cx_ HB hx173_2; replace p173 := eq_true p173; replace q173 := eq_true q173; have p174 : 0 ≤ (x13_1 : Int) := od_ (by first | (with_reducible assumption) | assumption); have q174 : x13_1 < (l1.length : Int) := od_ (by first | (with_reducible assumption) | assumption); obtain ⟨ad174, e174, hx174_0⟩ := Kd.at_bool HR1.out x13_1 p174 q174; (try rw [← Nbq9.out] at hx174_0); cases e174; replace hx174_0 := cx_ HB hx174_0; replace p174 := eq_true p174; replace q174 := eq_true q174)); try go_wp2_with (first | ((with_reducible refine gate_dst (N := 8) rfl ?_); refine bx_ 8 #[.bool false, .bool false, .int .u64 0, .int .u64 0, .int .u64 0, .int .u64 0, .int .u64 0, .int .u64 0, .int .i64 0] 34 ?_; intro gb171 hg w15 hbox hb; have BK171 := ak_ hbox; have GW171 := ak_ (gs_ hg HB); have GE171 := ak_ (gs_ hg HB); replace HB := ak_ (bt_ (bl_ HB) hb); clear hb hbox hg; obtain ⟨hcz16_0, hcz16_1, hcz16_2, hcz16_3, hcz16_4, hcz16_5, hcz16_6, hcz16_7, hcz16_8, hfz16_0, hfz16_1, hfz16_2, hfz16_3, hfz16_4, hfz16_5, hfz16_6, hfz16_7, hfz16_8⟩ := kc9_ BK171.out) | (go_at_call 58; (with_reducible refine (value_Check.calls k1 _ _ l0 true ((rd_T34 l2 x13_1).f1) ((rd_T34 l2 x13_1).f2.f0) ((rd_T34 l2 x13_1).f2.f1) ((rd_T34 l2 x13_1).f3.f0.f0) ((rd_T34 l2 x13_1).f3.f0.f1) ((rd_T34 l2 x13_1).f3.f1.f0) ((rd_T34 l2 x13_1).f3.f1.f1) ((rd_T34 l2 x13_1).f4) t172 _ ?side1 ?side2 A7.out).mono ?_); (case side1 => exact Kd.C_below HR0.out (bw1_ HB GE171)); (case side2 => exact HC0.out); rintro e w17 ⟨rfl, hb⟩; replace BK171 := ak_ (kb_ (g := gb171) (o := .cells #[.bool true, .bool ((rd_T34 l2 x13_1).f1), .int .u64 ((rd_T34 l2 x13_1).f2.f0), .int .u64 ((rd_T34 l2 x13_1).f2.f1), .int .u64 ((rd_T34 l2 x13_1).f3.f0.f0), .int .u64 ((rd_T34 l2 x13_1).f3.f0.f1), .int .u64 ((rd_T34 l2 x13_1).f3.f1.f0), .int .u64 ((rd_T34 l2 x13_1).f3.f1.f1), .int .i64 ((rd_T34 l2 x13_1).f4)] 34 (0, 0)) (by (with_reducible repeat (first | refine kn_ ?_ _ | refine kd_ ?_ | refine ka_ ?_ _)); exact sC_blk BK171.out rfl rfl) hb); replace HB := ak_ (bt_ (bw1_ HB GE171) hb); (try clear hb); (try clear hk); obtain ⟨hcz18_0, hcz18_1, hcz18_2, hcz18_3, hcz18_4, hcz18_5, hcz18_6, hcz18_7, hcz18_8, hfz18_0, hfz18_1, hfz18_2, hfz18_3, hfz18_4, hfz18_5, hfz18_6, hfz18_7, hfz18_8⟩ := kc9_ BK171.out; have p173 : 0 ≤ (((rd_T34 l2 x13_1).f4) : Int) := od_ (by first | (with_reducible assumption) | assumption); have q173 : ((rd_T34 l2 x13_1).f4) < (l0.length : Int) := od_ (by first | (with_reducible assumption) | assumption); obtain ⟨ad173, e173, hx173_0, hx173_1, hx173_2⟩ := at_T45 HR0.out ((rd_T34 l2 x13_1).f4) p173 q173; cases e173; replace hx173_0 := cx_ HB hx173_0; replace hx173_1 := cx_ HB hx173_1; replace hx173_2 := cx_ HB hx173_2; replace p173 := eq_true p173; replace q173 := eq_true q173; have p174 : 0 ≤ (x13_1 : Int) := od_ (by first | (with_reducible assumption) | assumption); have q174 : x13_1 < (l1.length : Int) := od_ (by first | (with_reducible assumption) | assumption); obtain ⟨ad174, e174, hx174_0⟩ := Kd.at_bool HR1.out x13_1 p174 q174; (try rw [← Nbq9.out] at hx174_0); cases e174; replace hx174_0 := cx_ HB hx174_0; replace p174 := eq_true p174; replace q174 := eq_true q174)))
             go_ret
             exact ea_ (bw1_ HB GE171)
            ·rw [if_neg c14] at H
             have c14b0 : ((((rd_T45 l0 ((rd_T34 l2 x13_1).f4)).f0) == 5) != (rdOf false l1 x13_1)) = false := by simpa using c14
             (try (have c14b1 : decide ((((rd_T45 l0 ((rd_T34 l2 x13_1).f4)).f0) == 5) = (rdOf false l1 x13_1)) = true := by simpa using c14))
             (try (have c14b2 : ((((rd_T45 l0 ((rd_T34 l2 x13_1).f4)).f0) == 5) == (rdOf false l1 x13_1)) = true := by simpa using c14))
             clear c14
             by_cases c19 : 0 < (l2.length : Int)
             ·rw [if_pos c19] at H
              have c19b0 := decide_eq_true c19
              have c19b1 : decide (0 < l2.length) = true := decide_eq_true (by omega)
              clear c19
              by_cases c20 : ((true) != ((rd_T34 l2 0).f0)) = true
              ·rw [if_pos c20] at H
               have c20b0 : ((true) != ((rd_T34 l2 0).f0)) = true := c20
               (try (have c20b1 : decide ((true) = ((rd_T34 l2 0).f0)) = false := by simpa using c20))
               (try (have c20b2 : ((true) == ((rd_T34 l2 0).f0)) = false := by simpa using c20))
               (try (have c20b3 : ¬ ((true) = ((rd_T34 l2 0).f0)) := by simpa using c20))
               clear c20
               obtain rfl := Option.some.inj H
               have p170 : 0 ≤ (x13_1 : Int) := od_ (by first | (with_reducible assumption) | assumption)
               have q170 : x13_1 < (l2.length : Int) := od_ (by first | (with_reducible assumption) | assumption)
               obtain ⟨ad170, e170, hx170_0, hx170_1, hx170_2, hx170_3, hx170_4, hx170_5, hx170_6, hx170_7, hx170_8⟩ := at_T34 HR2.out x13_1 p170 q170
               (try rw [← Nbq9.out] at hx170_0)
               (try rw [← Nbq9.out] at hx170_1)
               cases e170
               replace hx170_0 := cx_ HB hx170_0
               replace hx170_1 := cx_ HB hx170_1
               replace hx170_2 := cx_ HB hx170_2
               replace hx170_3 := cx_ HB hx170_3
               replace hx170_4 := cx_ HB hx170_4
               replace hx170_5 := cx_ HB hx170_5
               replace hx170_6 := cx_ HB hx170_6
               replace hx170_7 := cx_ HB hx170_7
               replace hx170_8 := cx_ HB hx170_8
               replace p170 := eq_true p170
               replace q170 := eq_true q170
               go_wp2_with (first | ((with_reducible refine gate_dst (N := 8) rfl ?_); refine bx_ 8 #[.bool false, .bool false, .int .u64 0, .int .u64 0, .int .u64 0, .int .u64 0, .int .u64 0, .int .u64 0, .int .i64 0] 34 ?_; intro gb171 hg w21 hbox hb; have BK171 := ak_ hbox; have GW171 := ak_ (gs_ hg HB); have GE171 := ak_ (gs_ hg HB); replace HB := ak_ (bt_ (bl_ HB) hb); clear hb hbox hg; obtain ⟨hcz22_0, hcz22_1, hcz22_2, hcz22_3, hcz22_4, hcz22_5, hcz22_6, hcz22_7, hcz22_8, hfz22_0, hfz22_1, hfz22_2, hfz22_3, hfz22_4, hfz22_5, hfz22_6, hfz22_7, hfz22_8⟩ := kc9_ BK171.out) | (go_at_call 58; (with_reducible refine (value_Check.calls k1 _ _ l0 true ((rd_T34 l2 x13_1).f1) ((rd_T34 l2 x13_1).f2.f0) ((rd_T34 l2 x13_1).f2.f1) ((rd_T34 l2 x13_1).f3.f0.f0) ((rd_T34 l2 x13_1).f3.f0.f1) ((rd_T34 l2 x13_1).f3.f1.f0) ((rd_T34 l2 x13_1).f3.f1.f1) ((rd_T34 l2 x13_1).f4) t172 _ ?side1 ?side2 A7.out).mono ?_); (case side1 => exact Kd.C_below HR0.out (bw1_ HB GE171)); (case side2 => exact HC0.out); rintro e w23 ⟨rfl, hb⟩; replace BK171 := ak_ (kb_ (g := gb171) (o := .cells #[.bool true, .bool ((rd_T34 l2 x13_1).f1), .int .u64 ((rd_T34 l2 x13_1).f2.f0), .int .u64 ((rd_T34 l2 x13_1).f2.f1), .int .u64 ((rd_T34 l2 x13_1).f3.f0.f0), .int .u64 ((rd_T34 l2 x13_1).f3.f0.f1), .int .u64 ((rd_T34 l2 x13_1).f3.f1.f0), .int .u64 ((rd_T34 l2 x13_1).f3.f1.f1), .int .i64 ((rd_T34 l2 x13_1).f4)] 34 (0, 0)) (by (with_reducible repeat (first | refine kn_ ?_ _ | refine kd_ ?_ | refine ka_ ?_ _)); exact sC_blk BK171.out rfl rfl) hb); replace HB := ak_ (bt_ (bw1_ HB GE171) hb); (try clear hb); (try clear hk); obtain ⟨hcz24_0, hcz24_1, hcz24_2, hcz24_3, hcz24_4, hcz24_5, hcz24_6, hcz24_7, hcz24_8, hfz24_0, hfz24_1, hfz24_2, hfz24_3, hfz24_4, hfz24_5, hfz24_6, hfz24_7, hfz24_8⟩ := kc9_ BK171.out; have p173 : 0 ≤ (((rd_T34 l2 x13_1).f4) : Int) := od_ (by first | (with_reducible assumption) | assumption); have q173 : ((rd_T34 l2 x13_1).f4) < (l0.length : Int) := od_ (by first | (with_reducible assumption) | assumption); obtain ⟨ad173, e173, hx173_0, hx173_1, hx173_2⟩ := at_T45 HR0.out ((rd_T34 l2 x13_1).f4) p173 q173; cases e173; replace hx173_0 := cx_ HB hx173_0; replace hx173_1 := cx_ HB hx173_1; replace hx173_2 := cx_ HB hx173_2; replace p173 := eq_true p173; replace q173 := eq_true q173; have p174 : 0 ≤ (x13_1 : Int) := od_ (by first | (with_reducible assumption) | assumption); have q174 : x13_1 < (l1.length : Int) := od_ (by first | (with_reducible assumption) | assumption); obtain ⟨ad174, e174, hx174_0⟩ := Kd.at_bool HR1.out x13_1 p174 q174; (try rw [← Nbq9.out] at hx174_0); cases e174; replace hx174_0 := cx_ HB hx174_0; replace p174 := eq_true p174; replace q174 := eq_true q174; have p175 : 0 ≤ (0 : Int) := (by omega); have q175 : 0 < (l2.length : Int) := od_ (by first | (with_reducible assumption) | assumption); obtain ⟨ad175, e175, hx175_0, hx175_1, hx175_2, hx175_3, hx175_4, hx175_5, hx175_6, hx175_7, hx175_8⟩ := at_T34 HR2.out 0 p175 q175; (try rw [← Nbq9.out] at hx175_0); (try rw [← Nbq9.out] at hx175_1); obtain rfl : ad170 = ad175 := (by injection e175); have qi175 : (0 < l2.length) = True := eq_true (by omega); (try rw [show ((0 : Int)).toNat = 0 from rfl] at hx175_0); (try rw [show 0 * 9 = 0 from rfl] at hx175_0); (try rw [Addr.add_zero'] at hx175_0); (try rw [show ((0 : Int)).toNat = 0 from rfl] at hx175_1); (try rw [show 0 * 9 = 0 from rfl] at hx175_1); (try rw [Addr.add_zero'] at hx175_1); (try rw [show ((0 : Int)).toNat = 0 from rfl] at hx175_2); (try rw [show 0 * 9 = 0 from rfl] at hx175_2); (try rw [Addr.add_zero'] at hx175_2); (try rw [show ((0 : Int)).toNat = 0 from rfl] at hx175_3); (try rw [show 0 * 9 = 0 from rfl] at hx175_3); (try rw [Addr.add_zero'] at hx175_3); (try rw [show ((0 : Int)).toNat = 0 from rfl] at hx175_4); (try rw [show 0 * 9 = 0 from rfl] at hx175_4); (try rw [Addr.add_zero'] at hx175_4); (try rw [show ((0 : Int)).toNat = 0 from rfl] at hx175_5); (try rw [show 0 * 9 = 0 from rfl] at hx175_5); (try rw [Addr.add_zero'] at hx175_5); (try rw [show ((0 : Int)).toNat = 0 from rfl] at hx175_6); (try rw [show 0 * 9 = 0 from rfl] at hx175_6); (try rw [Addr.add_zero'] at hx175_6); (try rw [show ((0 : Int)).toNat = 0 from rfl] at hx175_7); (try rw [show 0 * 9 = 0 from rfl] at hx175_7); (try rw [Addr.add_zero'] at hx175_7); (try rw [show ((0 : Int)).toNat = 0 from rfl] at hx175_8); (try rw [show 0 * 9 = 0 from rfl] at hx175_8); (try rw [Addr.add_zero'] at hx175_8); replace hx175_0 := cx_ HB hx175_0; replace hx175_1 := cx_ HB hx175_1; replace hx175_2 := cx_ HB hx175_2; replace hx175_3 := cx_ HB hx175_3; replace hx175_4 := cx_ HB hx175_4; replace hx175_5 := cx_ HB hx175_5; replace hx175_6 := cx_ HB hx175_6; replace hx175_7 := cx_ HB hx175_7; replace hx175_8 := cx_ HB hx175_8; replace p175 := eq_true p175; replace q175 := eq_true q175))
               repeat (go_quiet (first | ((with_reducible refine gate_dst (N := 8) rfl ?_); refine bx_ 8 #[.bool false, .bool false, .int .u64 0, .int .u64 0, .int .u64 0, .int .u64 0, .int .u64 0, .int .u64 0, .int .i64 0] 34 ?_; intro gb171 hg w21 hbox hb; have BK171 := ak_ hbox; have GW171 := ak_ (gs_ hg HB); have GE171 := ak_ (gs_ hg HB); replace HB := ak_ (bt_ (bl_ HB) hb); clear hb hbox hg; obtain ⟨hcz22_0, hcz22_1, hcz22_2, hcz22_3, hcz22_4, hcz22_5, hcz22_6, hcz22_7, hcz22_8, hfz22_0, hfz22_1, hfz22_2, hfz22_3, hfz22_4, hfz22_5, hfz22_6, hfz22_7, hfz22_8⟩ := kc9_ BK171.out) | (go_at_call 58; (with_reducible refine (value_Check.calls k1 _ _ l0 true ((rd_T34 l2 x13_1).f1) ((rd_T34 l2 x13_1).f2.f0) ((rd_T34 l2 x13_1).f2.f1) ((rd_T34 l2 x13_1).f3.f0.f0) ((rd_T34 l2 x13_1).f3.f0.f1) ((rd_T34 l2 x13_1).f3.f1.f0) ((rd_T34 l2 x13_1).f3.f1.f1) ((rd_T34 l2 x13_1).f4) t172 _ ?side1 ?side2 A7.out).mono ?_); (case side1 => exact Kd.C_below HR0.out (bw1_ HB GE171)); (case side2 => exact HC0.out); rintro e w23 ⟨rfl, hb⟩; replace BK171 := ak_ (kb_ (g := gb171) (o := .cells #[.bool true, .bool ((rd_T34 l2 x13_1).f1), .int .u64 ((rd_T34 l2 x13_1).f2.f0), .int .u64 ((rd_T34 l2 x13_1).f2.f1), .int .u64 ((rd_T34 l2 x13_1).f3.f0.f0), .int .u64 ((rd_T34 l2 x13_1).f3.f0.f1), .int .u64 ((rd_T34 l2 x13_1).f3.f1.f0), .int .u64 ((rd_T34 l2 x13_1).f3.f1.f1), .int .i64 ((rd_T34 l2 x13_1).f4)] 34 (0, 0)) (by (with_reducible repeat (first | refine kn_ ?_ _ | refine kd_ ?_ | refine ka_ ?_ _)); exact sC_blk BK171.out rfl rfl) hb); replace HB := ak_ (bt_ (bw1_ HB GE171) hb); (try clear hb); (try clear hk); obtain ⟨hcz24_0, hcz24_1, hcz24_2, hcz24_3, hcz24_4, hcz24_5, hcz24_6, hcz24_7, hcz24_8, hfz24_0, hfz24_1, hfz24_2, hfz24_3, hfz24_4, hfz24_5, hfz24_6, hfz24_7, hfz24_8⟩ := kc9_ BK171.out; have p173 : 0 ≤ (((rd_T34 l2 x13_1).f4) : Int) := od_ (by first | (with_reducible assumption) | assumption); have q173 : ((rd_T34 l2 x13_1).f4) < (l0.length : Int) := od_ (by first | (with_reducible assumption) | assumption); obtain ⟨ad173, e173, hx173_0, hx173_1, hx173_2⟩ := at_T45 HR0.out ((rd_T34 l2 x13_1).f4) p173 q173; cases e173; replace hx173_0 := cx_ HB hx173_0; replace hx173_1 := cx_ HB hx173_1; replace hx173_2 := cx_ HB hx173_2; replace p173 := eq_true p173; replace q173 := eq_true q173; have p174 : 0 ≤ (x13_1 : Int) := od_ (by first | (with_reducible assumption) | assumption); have q174 : x13_1 < (l1.length : Int) := od_ (by first | (with_reducible assumption) | assumption); obtain ⟨ad174, e174, hx174_0⟩ := Kd.at_bool HR1.out x13_1 p174 q174; (try rw [← Nbq9.out] at hx174_0); cases e174; replace hx174_0 := cx_ HB hx174_0; replace p174 := eq_true p174; replace q174 := eq_true q174; have p175 : 0 ≤ (0 : Int) := (by omega); have q175 : 0 < (l2.length : Int) := od_ (by first | (with_reducible assumption) | assumption); obtain ⟨ad175, e175, hx175_0, hx175_1, hx175_2, hx175_3, hx175_4, hx175_5, hx175_6, hx175_7, hx175_8⟩ := at_T34 HR2.out 0 p175 q175; (try rw [← Nbq9.out] at hx175_0); (try rw [← Nbq9.out] at hx175_1); obtain rfl : ad170 = ad175 := (by injection e175); have qi175 : (0 < l2.length) = True := eq_true (by omega); (try rw [show ((0 : Int)).toNat = 0 from rfl] at hx175_0); (try rw [show 0 * 9 = 0 from rfl] at hx175_0); (try rw [Addr.add_zero'] at hx175_0); (try rw [show ((0 : Int)).toNat = 0 from rfl] at hx175_1); (try rw [show 0 * 9 = 0 from rfl] at hx175_1); (try rw [Addr.add_zero'] at hx175_1); (try rw [show ((0 : Int)).toNat = 0 from rfl] at hx175_2); (try rw [show 0 * 9 = 0 from rfl] at hx175_2); (try rw [Addr.add_zero'] at hx175_2); (try rw [show ((0 : Int)).toNat = 0 from rfl] at hx175_3); (try rw [show 0 * 9 = 0 from rfl] at hx175_3); (try rw [Addr.add_zero'] at hx175_3); (try rw [show ((0 : Int)).toNat = 0 from rfl] at hx175_4); (try rw [show 0 * 9 = 0 from rfl] at hx175_4); (try rw [Addr.add_zero'] at hx175_4); (try rw [show ((0 : Int)).toNat = 0 from rfl] at hx175_5); (try rw [show 0 * 9 = 0 from rfl] at hx175_5); (try rw [Addr.add_zero'] at hx175_5); (try rw [show ((0 : Int)).toNat = 0 from rfl] at hx175_6); (try rw [show 0 * 9 = 0 from rfl] at hx175_6); (try rw [Addr.add_zero'] at hx175_6); (try rw [show ((0 : Int)).toNat = 0 from rfl] at hx175_7); (try rw [show 0 * 9 = 0 from rfl] at hx175_7); (try rw [Addr.add_zero'] at hx175_7); (try rw [show ((0 : Int)).toNat = 0 from rfl] at hx175_8); (try rw [show 0 * 9 = 0 from rfl] at hx175_8); (try rw [Addr.add_zero'] at hx175_8); replace hx175_0 := cx_ HB hx175_0; replace hx175_1 := cx_ HB hx175_1; replace hx175_2 := cx_ HB hx175_2; replace hx175_3 := cx_ HB hx175_3; replace hx175_4 := cx_ HB hx175_4; replace hx175_5 := cx_ HB hx175_5; replace hx175_6 := cx_ HB hx175_6; replace hx175_7 := cx_ HB hx175_7; replace hx175_8 := cx_ HB hx175_8; replace p175 := eq_true p175; replace q175 := eq_true q175)); try go_wp2_with (first | ((with_reducible refine gate_dst (N := 8) rfl ?_); refine bx_ 8 #[.bool false, .bool false, .int .u64 0, .int .u64 0, .int .u64 0, .int .u64 0, .int .u64 0, .int .u64 0, .int .i64 0] 34 ?_; intro gb171 hg w21 hbox hb; have BK171 := ak_ hbox; have GW171 := ak_ (gs_ hg HB); have GE171 := ak_ (gs_ hg HB); replace HB := ak_ (bt_ (bl_ HB) hb); clear hb hbox hg; obtain ⟨hcz22_0, hcz22_1, hcz22_2, hcz22_3, hcz22_4, hcz22_5, hcz22_6, hcz22_7, hcz22_8, hfz22_0, hfz22_1, hfz22_2, hfz22_3, hfz22_4, hfz22_5, hfz22_6, hfz22_7, hfz22_8⟩ := kc9_ BK171.out) | (go_at_call 58; (with_reducible refine (value_Check.calls k1 _ _ l0 true ((rd_T34 l2 x13_1).f1) ((rd_T34 l2 x13_1).f2.f0) ((rd_T34 l2 x13_1).f2.f1) ((rd_T34 l2 x13_1).f3.f0.f0) ((rd_T34 l2 x13_1).f3.f0.f1) ((rd_T34 l2 x13_1).f3.f1.f0) ((rd_T34 l2 x13_1).f3.f1.f1) ((rd_T34 l2 x13_1).f4) t172 _ ?side1 ?side2 A7.out).mono ?_); (case side1 => exact Kd.C_below HR0.out (bw1_ HB GE171)); (case side2 => exact HC0.out); rintro e w23 ⟨rfl, hb⟩; replace BK171 := ak_ (kb_ (g := gb171) (o := .cells #[.bool true, .bool ((rd_T34 l2 x13_1).f1), .int .u64 ((rd_T34 l2 x13_1).f2.f0), .int .u64 ((rd_T34 l2 x13_1).f2.f1), .int .u64 ((rd_T34 l2 x13_1).f3.f0.f0), .int .u64 ((rd_T34 l2 x13_1).f3.f0.f1), .int .u64 ((rd_T34 l2 x13_1).f3.f1.f0), .int .u64 ((rd_T34 l2 x13_1).f3.f1.f1), .int .i64 ((rd_T34 l2 x13_1).f4)] 34 (0, 0)) (by (with_reducible repeat (first | refine kn_ ?_ _ | refine kd_ ?_ | refine ka_ ?_ _)); exact sC_blk BK171.out rfl rfl) hb); replace HB := ak_ (bt_ (bw1_ HB GE171) hb); (try clear hb); (try clear hk); obtain ⟨hcz24_0, hcz24_1, hcz24_2, hcz24_3, hcz24_4, hcz24_5, hcz24_6, hcz24_7, hcz24_8, hfz24_0, hfz24_1, hfz24_2, hfz24_3, hfz24_4, hfz24_5, hfz24_6, hfz24_7, hfz24_8⟩ := kc9_ BK171.out; have p173 : 0 ≤ (((rd_T34 l2 x13_1).f4) : Int) := od_ (by first | (with_reducible assumption) | assumption); have q173 : ((rd_T34 l2 x13_1).f4) < (l0.length : Int) := od_ (by first | (with_reducible assumption) | assumption); obtain ⟨ad173, e173, hx173_0, hx173_1, hx173_2⟩ := at_T45 HR0.out ((rd_T34 l2 x13_1).f4) p173 q173; cases e173; replace hx173_0 := cx_ HB hx173_0; replace hx173_1 := cx_ HB hx173_1; replace hx173_2 := cx_ HB hx173_2; replace p173 := eq_true p173; replace q173 := eq_true q173; have p174 : 0 ≤ (x13_1 : Int) := od_ (by first | (with_reducible assumption) | assumption); have q174 : x13_1 < (l1.length : Int) := od_ (by first | (with_reducible assumption) | assumption); obtain ⟨ad174, e174, hx174_0⟩ := Kd.at_bool HR1.out x13_1 p174 q174; (try rw [← Nbq9.out] at hx174_0); cases e174; replace hx174_0 := cx_ HB hx174_0; replace p174 := eq_true p174; replace q174 := eq_true q174; have p175 : 0 ≤ (0 : Int) := (by omega); have q175 : 0 < (l2.length : Int) := od_ (by first | (with_reducible assumption) | assumption); obtain ⟨ad175, e175, hx175_0, hx175_1, hx175_2, hx175_3, hx175_4, hx175_5, hx175_6, hx175_7, hx175_8⟩ := at_T34 HR2.out 0 p175 q175; (try rw [← Nbq9.out] at hx175_0); (try rw [← Nbq9.out] at hx175_1); obtain rfl : ad170 = ad175 := (by injection e175); have qi175 : (0 < l2.length) = True := eq_true (by omega); (try rw [show ((0 : Int)).toNat = 0 from rfl] at hx175_0); (try rw [show 0 * 9 = 0 from rfl] at hx175_0); (try rw [Addr.add_zero'] at hx175_0); (try rw [show ((0 : Int)).toNat = 0 from rfl] at hx175_1); (try rw [show 0 * 9 = 0 from rfl] at hx175_1); (try rw [Addr.add_zero'] at hx175_1); (try rw [show ((0 : Int)).toNat = 0 from rfl] at hx175_2); (try rw [show 0 * 9 = 0 from rfl] at hx175_2); (try rw [Addr.add_zero'] at hx175_2); (try rw [show ((0 : Int)).toNat = 0 from rfl] at hx175_3); (try rw [show 0 * 9 = 0 from rfl] at hx175_3); (try rw [Addr.add_zero'] at hx175_3); (try rw [show ((0 : Int)).toNat = 0 from rfl] at hx175_4); (try rw [show 0 * 9 = 0 from rfl] at hx175_4); (try rw [Addr.add_zero'] at hx175_4); (try rw [show ((0 : Int)).toNat = 0 from rfl] at hx175_5); (try rw [show 0 * 9 = 0 from rfl] at hx175_5); (try rw [Addr.add_zero'] at hx175_5); (try rw [show ((0 : Int)).toNat = 0 from rfl] at hx175_6); (try rw [show 0 * 9 = 0 from rfl] at hx175_6); (try rw [Addr.add_zero'] at hx175_6); (try rw [show ((0 : Int)).toNat = 0 from rfl] at hx175_7); (try rw [show 0 * 9 = 0 from rfl] at hx175_7); (try rw [Addr.add_zero'] at hx175_7); (try rw [show ((0 : Int)).toNat = 0 from rfl] at hx175_8); (try rw [show 0 * 9 = 0 from rfl] at hx175_8); (try rw [Addr.add_zero'] at hx175_8); replace hx175_0 := cx_ HB hx175_0; replace hx175_1 := cx_ HB hx175_1; replace hx175_2 := cx_ HB hx175_2; replace hx175_3 := cx_ HB hx175_3; replace hx175_4 := cx_ HB hx175_4; replace hx175_5 := cx_ HB hx175_5; replace hx175_6 := cx_ HB hx175_6; replace hx175_7 := cx_ HB hx175_7; replace hx175_8 := cx_ HB hx175_8; replace p175 := eq_true p175; replace q175 := eq_true q175)))
               go_ret
               exact ea_ (bw1_ HB GE171)
              ·rw [if_neg c20] at H
               have c20b0 : ((true) != ((rd_T34 l2 0).f0)) = false := by simpa using c20
               (try (have c20b1 : decide ((true) = ((rd_T34 l2 0).f0)) = true := by simpa using c20))
               (try (have c20b2 : ((true) == ((rd_T34 l2 0).f0)) = true := by simpa using c20))
               clear c20
               have H' := ak_ H
               clear H
               have p170 : 0 ≤ (x13_1 : Int) := od_ (by first | (with_reducible assumption) | assumption)
               have q170 : x13_1 < (l2.length : Int) := od_ (by first | (with_reducible assumption) | assumption)
               obtain ⟨ad170, e170, hx170_0, hx170_1, hx170_2, hx170_3, hx170_4, hx170_5, hx170_6, hx170_7, hx170_8⟩ := at_T34 HR2.out x13_1 p170 q170
               (try rw [← Nbq9.out] at hx170_0)
               (try rw [← Nbq9.out] at hx170_1)
               cases e170
               replace hx170_0 := cx_ HB hx170_0
               replace hx170_1 := cx_ HB hx170_1
               replace hx170_2 := cx_ HB hx170_2
               replace hx170_3 := cx_ HB hx170_3
               replace hx170_4 := cx_ HB hx170_4
               replace hx170_5 := cx_ HB hx170_5
               replace hx170_6 := cx_ HB hx170_6
               replace hx170_7 := cx_ HB hx170_7
               replace hx170_8 := cx_ HB hx170_8
               replace p170 := eq_true p170
               replace q170 := eq_true q170
               go_wp2_with (first | ((with_reducible refine gate_dst (N := 8) rfl ?_); refine bx_ 8 #[.bool false, .bool false, .int .u64 0, .int .u64 0, .int .u64 0, .int .u64 0, .int .u64 0, .int .u64 0, .int .i64 0] 34 ?_; intro gb171 hg w25 hbox hb; have BK171 := ak_ hbox; have GW171 := ak_ (gs_ hg HB); have GE171 := ak_ (gs_ hg HB); replace HB := ak_ (bt_ (bl_ HB) hb); clear hb hbox hg; obtain ⟨hcz26_0, hcz26_1, hcz26_2, hcz26_3, hcz26_4, hcz26_5, hcz26_6, hcz26_7, hcz26_8, hfz26_0, hfz26_1, hfz26_2, hfz26_3, hfz26_4, hfz26_5, hfz26_6, hfz26_7, hfz26_8⟩ := kc9_ BK171.out) | (go_at_call 58; (with_reducible refine (value_Check.calls k1 _ _ l0 true ((rd_T34 l2 x13_1).f1) ((rd_T34 l2 x13_1).f2.f0) ((rd_T34 l2 x13_1).f2.f1) ((rd_T34 l2 x13_1).f3.f0.f0) ((rd_T34 l2 x13_1).f3.f0.f1) ((rd_T34 l2 x13_1).f3.f1.f0) ((rd_T34 l2 x13_1).f3.f1.f1) ((rd_T34 l2 x13_1).f4) t172 _ ?side1 ?side2 A7.out).mono ?_); (case side1 => exact Kd.C_below HR0.out (bw1_ HB GE171)); (case side2 => exact HC0.out); rintro e w27 ⟨rfl, hb⟩; replace BK171 := ak_ (kb_ (g := gb171) (o := .cells #[.bool true, .bool ((rd_T34 l2 x13_1).f1), .int .u64 ((rd_T34 l2 x13_1).f2.f0), .int .u64 ((rd_T34 l2 x13_1).f2.f1), .int .u64 ((rd_T34 l2 x13_1).f3.f0.f0), .int .u64 ((rd_T34 l2 x13_1).f3.f0.f1), .int .u64 ((rd_T34 l2 x13_1).f3.f1.f0), .int .u64 ((rd_T34 l2 x13_1).f3.f1.f1), .int .i64 ((rd_T34 l2 x13_1).f4)] 34 (0, 0)) (by (with_reducible repeat (first | refine kn_ ?_ _ | refine kd_ ?_ | refine ka_ ?_ _)); exact sC_blk BK171.out rfl rfl) hb); replace HB := ak_ (bt_ (bw1_ HB GE171) hb); (try clear hb); (try clear hk); obtain ⟨hcz28_0, hcz28_1, hcz28_2, hcz28_3, hcz28_4, hcz28_5, hcz28_6, hcz28_7, hcz28_8, hfz28_0, hfz28_1, hfz28_2, hfz28_3, hfz28_4, hfz28_5, hfz28_6, hfz28_7, hfz28_8⟩ := kc9_ BK171.out; have p173 : 0 ≤ (((rd_T34 l2 x13_1).f4) : Int) := od_ (by first | (with_reducible assumption) | assumption); have q173 : ((rd_T34 l2 x13_1).f4) < (l0.length : Int) := od_ (by first | (with_reducible assumption) | assumption); obtain ⟨ad173, e173, hx173_0, hx173_1, hx173_2⟩ := at_T45 HR0.out ((rd_T34 l2 x13_1).f4) p173 q173; cases e173; replace hx173_0 := cx_ HB hx173_0; replace hx173_1 := cx_ HB hx173_1; replace hx173_2 := cx_ HB hx173_2; replace p173 := eq_true p173; replace q173 := eq_true q173; have p174 : 0 ≤ (x13_1 : Int) := od_ (by first | (with_reducible assumption) | assumption); have q174 : x13_1 < (l1.length : Int) := od_ (by first | (with_reducible assumption) | assumption); obtain ⟨ad174, e174, hx174_0⟩ := Kd.at_bool HR1.out x13_1 p174 q174; (try rw [← Nbq9.out] at hx174_0); cases e174; replace hx174_0 := cx_ HB hx174_0; replace p174 := eq_true p174; replace q174 := eq_true q174; have p175 : 0 ≤ (0 : Int) := (by omega); have q175 : 0 < (l2.length : Int) := od_ (by first | (with_reducible assumption) | assumption); obtain ⟨ad175, e175, hx175_0, hx175_1, hx175_2, hx175_3, hx175_4, hx175_5, hx175_6, hx175_7, hx175_8⟩ := at_T34 HR2.out 0 p175 q175; (try rw [← Nbq9.out] at hx175_0); (try rw [← Nbq9.out] at hx175_1); obtain rfl : ad170 = ad175 := (by injection e175); have qi175 : (0 < l2.length) = True := eq_true (by omega); (try rw [show ((0 : Int)).toNat = 0 from rfl] at hx175_0); (try rw [show 0 * 9 = 0 from rfl] at hx175_0); (try rw [Addr.add_zero'] at hx175_0); (try rw [show ((0 : Int)).toNat = 0 from rfl] at hx175_1); (try rw [show 0 * 9 = 0 from rfl] at hx175_1); (try rw [Addr.add_zero'] at hx175_1); (try rw [show ((0 : Int)).toNat = 0 from rfl] at hx175_2); (try rw [show 0 * 9 = 0 from rfl] at hx175_2); (try rw [Addr.add_zero'] at hx175_2); (try rw [show ((0 : Int)).toNat = 0 from rfl] at hx175_3); (try rw [show 0 * 9 = 0 from rfl] at hx175_3); (try rw [Addr.add_zero'] at hx175_3); (try rw [show ((0 : Int)).toNat = 0 from rfl] at hx175_4); (try rw [show 0 * 9 = 0 from rfl] at hx175_4); (try rw [Addr.add_zero'] at hx175_4); (try rw [show ((0 : Int)).toNat = 0 from rfl] at hx175_5); (try rw [show 0 * 9 = 0 from rfl] at hx175_5); (try rw [Addr.add_zero'] at hx175_5); (try rw [show ((0 : Int)).toNat = 0 from rfl] at hx175_6); (try rw [show 0 * 9 = 0 from rfl] at hx175_6); (try rw [Addr.add_zero'] at hx175_6); (try rw [show ((0 : Int)).toNat = 0 from rfl] at hx175_7); (try rw [show 0 * 9 = 0 from rfl] at hx175_7); (try rw [Addr.add_zero'] at hx175_7); (try rw [show ((0 : Int)).toNat = 0 from rfl] at hx175_8); (try rw [show 0 * 9 = 0 from rfl] at hx175_8); (try rw [Addr.add_zero'] at hx175_8); replace hx175_0 := cx_ HB hx175_0; replace hx175_1 := cx_ HB hx175_1; replace hx175_2 := cx_ HB hx175_2; replace hx175_3 := cx_ HB hx175_3; replace hx175_4 := cx_ HB hx175_4; replace hx175_5 := cx_ HB hx175_5; replace hx175_6 := cx_ HB hx175_6; replace hx175_7 := cx_ HB hx175_7; replace hx175_8 := cx_ HB hx175_8; replace p175 := eq_true p175; replace q175 := eq_true q175))
               repeat (go_quiet (first | ((with_reducible refine gate_dst (N := 8) rfl ?_); refine bx_ 8 #[.bool false, .bool false, .int .u64 0, .int .u64 0, .int .u64 0, .int .u64 0, .int .u64 0, .int .u64 0, .int .i64 0] 34 ?_; intro gb171 hg w25 hbox hb; have BK171 := ak_ hbox; have GW171 := ak_ (gs_ hg HB); have GE171 := ak_ (gs_ hg HB); replace HB := ak_ (bt_ (bl_ HB) hb); clear hb hbox hg; obtain ⟨hcz26_0, hcz26_1, hcz26_2, hcz26_3, hcz26_4, hcz26_5, hcz26_6, hcz26_7, hcz26_8, hfz26_0, hfz26_1, hfz26_2, hfz26_3, hfz26_4, hfz26_5, hfz26_6, hfz26_7, hfz26_8⟩ := kc9_ BK171.out) | (go_at_call 58; (with_reducible refine (value_Check.calls k1 _ _ l0 true ((rd_T34 l2 x13_1).f1) ((rd_T34 l2 x13_1).f2.f0) ((rd_T34 l2 x13_1).f2.f1) ((rd_T34 l2 x13_1).f3.f0.f0) ((rd_T34 l2 x13_1).f3.f0.f1) ((rd_T34 l2 x13_1).f3.f1.f0) ((rd_T34 l2 x13_1).f3.f1.f1) ((rd_T34 l2 x13_1).f4) t172 _ ?side1 ?side2 A7.out).mono ?_); (case side1 => exact Kd.C_below HR0.out (bw1_ HB GE171)); (case side2 => exact HC0.out); rintro e w27 ⟨rfl, hb⟩; replace BK171 := ak_ (kb_ (g := gb171) (o := .cells #[.bool true, .bool ((rd_T34 l2 x13_1).f1), .int .u64 ((rd_T34 l2 x13_1).f2.f0), .int .u64 ((rd_T34 l2 x13_1).f2.f1), .int .u64 ((rd_T34 l2 x13_1).f3.f0.f0), .int .u64 ((rd_T34 l2 x13_1).f3.f0.f1), .int .u64 ((rd_T34 l2 x13_1).f3.f1.f0), .int .u64 ((rd_T34 l2 x13_1).f3.f1.f1), .int .i64 ((rd_T34 l2 x13_1).f4)] 34 (0, 0)) (by (with_reducible repeat (first | refine kn_ ?_ _ | refine kd_ ?_ | refine ka_ ?_ _)); exact sC_blk BK171.out rfl rfl) hb); replace HB := ak_ (bt_ (bw1_ HB GE171) hb); (try clear hb); (try clear hk); obtain ⟨hcz28_0, hcz28_1, hcz28_2, hcz28_3, hcz28_4, hcz28_5, hcz28_6, hcz28_7, hcz28_8, hfz28_0, hfz28_1, hfz28_2, hfz28_3, hfz28_4, hfz28_5, hfz28_6, hfz28_7, hfz28_8⟩ := kc9_ BK171.out; have p173 : 0 ≤ (((rd_T34 l2 x13_1).f4) : Int) := od_ (by first | (with_reducible assumption) | assumption); have q173 : ((rd_T34 l2 x13_1).f4) < (l0.length : Int) := od_ (by first | (with_reducible assumption) | assumption); obtain ⟨ad173, e173, hx173_0, hx173_1, hx173_2⟩ := at_T45 HR0.out ((rd_T34 l2 x13_1).f4) p173 q173; cases e173; replace hx173_0 := cx_ HB hx173_0; replace hx173_1 := cx_ HB hx173_1; replace hx173_2 := cx_ HB hx173_2; replace p173 := eq_true p173; replace q173 := eq_true q173; have p174 : 0 ≤ (x13_1 : Int) := od_ (by first | (with_reducible assumption) | assumption); have q174 : x13_1 < (l1.length : Int) := od_ (by first | (with_reducible assumption) | assumption); obtain ⟨ad174, e174, hx174_0⟩ := Kd.at_bool HR1.out x13_1 p174 q174; (try rw [← Nbq9.out] at hx174_0); cases e174; replace hx174_0 := cx_ HB hx174_0; replace p174 := eq_true p174; replace q174 := eq_true q174; have p175 : 0 ≤ (0 : Int) := (by omega); have q175 : 0 < (l2.length : Int) := od_ (by first | (with_reducible assumption) | assumption); obtain ⟨ad175, e175, hx175_0, hx175_1, hx175_2, hx175_3, hx175_4, hx175_5, hx175_6, hx175_7, hx175_8⟩ := at_T34 HR2.out 0 p175 q175; (try rw [← Nbq9.out] at hx175_0); (try rw [← Nbq9.out] at hx175_1); obtain rfl : ad170 = ad175 := (by injection e175); have qi175 : (0 < l2.length) = True := eq_true (by omega); (try rw [show ((0 : Int)).toNat = 0 from rfl] at hx175_0); (try rw [show 0 * 9 = 0 from rfl] at hx175_0); (try rw [Addr.add_zero'] at hx175_0); (try rw [show ((0 : Int)).toNat = 0 from rfl] at hx175_1); (try rw [show 0 * 9 = 0 from rfl] at hx175_1); (try rw [Addr.add_zero'] at hx175_1); (try rw [show ((0 : Int)).toNat = 0 from rfl] at hx175_2); (try rw [show 0 * 9 = 0 from rfl] at hx175_2); (try rw [Addr.add_zero'] at hx175_2); (try rw [show ((0 : Int)).toNat = 0 from rfl] at hx175_3); (try rw [show 0 * 9 = 0 from rfl] at hx175_3); (try rw [Addr.add_zero'] at hx175_3); (try rw [show ((0 : Int)).toNat = 0 from rfl] at hx175_4); (try rw [show 0 * 9 = 0 from rfl] at hx175_4); (try rw [Addr.add_zero'] at hx175_4); (try rw [show ((0 : Int)).toNat = 0 from rfl] at hx175_5); (try rw [show 0 * 9 = 0 from rfl] at hx175_5); (try rw [Addr.add_zero'] at hx175_5); (try rw [show ((0 : Int)).toNat = 0 from rfl] at hx175_6); (try rw [show 0 * 9 = 0 from rfl] at hx175_6); (try rw [Addr.add_zero'] at hx175_6); (try rw [show ((0 : Int)).toNat = 0 from rfl] at hx175_7); (try rw [show 0 * 9 = 0 from rfl] at hx175_7); (try rw [Addr.add_zero'] at hx175_7); (try rw [show ((0 : Int)).toNat = 0 from rfl] at hx175_8); (try rw [show 0 * 9 = 0 from rfl] at hx175_8); (try rw [Addr.add_zero'] at hx175_8); replace hx175_0 := cx_ HB hx175_0; replace hx175_1 := cx_ HB hx175_1; replace hx175_2 := cx_ HB hx175_2; replace hx175_3 := cx_ HB hx175_3; replace hx175_4 := cx_ HB hx175_4; replace hx175_5 := cx_ HB hx175_5; replace hx175_6 := cx_ HB hx175_6; replace hx175_7 := cx_ HB hx175_7; replace hx175_8 := cx_ HB hx175_8; replace p175 := eq_true p175; replace q175 := eq_true q175)); try go_wp2_with (first | ((with_reducible refine gate_dst (N := 8) rfl ?_); refine bx_ 8 #[.bool false, .bool false, .int .u64 0, .int .u64 0, .int .u64 0, .int .u64 0, .int .u64 0, .int .u64 0, .int .i64 0] 34 ?_; intro gb171 hg w25 hbox hb; have BK171 := ak_ hbox; have GW171 := ak_ (gs_ hg HB); have GE171 := ak_ (gs_ hg HB); replace HB := ak_ (bt_ (bl_ HB) hb); clear hb hbox hg; obtain ⟨hcz26_0, hcz26_1, hcz26_2, hcz26_3, hcz26_4, hcz26_5, hcz26_6, hcz26_7, hcz26_8, hfz26_0, hfz26_1, hfz26_2, hfz26_3, hfz26_4, hfz26_5, hfz26_6, hfz26_7, hfz26_8⟩ := kc9_ BK171.out) | (go_at_call 58; (with_reducible refine (value_Check.calls k1 _ _ l0 true ((rd_T34 l2 x13_1).f1) ((rd_T34 l2 x13_1).f2.f0) ((rd_T34 l2 x13_1).f2.f1) ((rd_T34 l2 x13_1).f3.f0.f0) ((rd_T34 l2 x13_1).f3.f0.f1) ((rd_T34 l2 x13_1).f3.f1.f0) ((rd_T34 l2 x13_1).f3.f1.f1) ((rd_T34 l2 x13_1).f4) t172 _ ?side1 ?side2 A7.out).mono ?_); (case side1 => exact Kd.C_below HR0.out (bw1_ HB GE171)); (case side2 => exact HC0.out); rintro e w27 ⟨rfl, hb⟩; replace BK171 := ak_ (kb_ (g := gb171) (o := .cells #[.bool true, .bool ((rd_T34 l2 x13_1).f1), .int .u64 ((rd_T34 l2 x13_1).f2.f0), .int .u64 ((rd_T34 l2 x13_1).f2.f1), .int .u64 ((rd_T34 l2 x13_1).f3.f0.f0), .int .u64 ((rd_T34 l2 x13_1).f3.f0.f1), .int .u64 ((rd_T34 l2 x13_1).f3.f1.f0), .int .u64 ((rd_T34 l2 x13_1).f3.f1.f1), .int .i64 ((rd_T34 l2 x13_1).f4)] 34 (0, 0)) (by (with_reducible repeat (first | refine kn_ ?_ _ | refine kd_ ?_ | refine ka_ ?_ _)); exact sC_blk BK171.out rfl rfl) hb); replace HB := ak_ (bt_ (bw1_ HB GE171) hb); (try clear hb); (try clear hk); obtain ⟨hcz28_0, hcz28_1, hcz28_2, hcz28_3, hcz28_4, hcz28_5, hcz28_6, hcz28_7, hcz28_8, hfz28_0, hfz28_1, hfz28_2, hfz28_3, hfz28_4, hfz28_5, hfz28_6, hfz28_7, hfz28_8⟩ := kc9_ BK171.out; have p173 : 0 ≤ (((rd_T34 l2 x13_1).f4) : Int) := od_ (by first | (with_reducible assumption) | assumption); have q173 : ((rd_T34 l2 x13_1).f4) < (l0.length : Int) := od_ (by first | (with_reducible assumption) | assumption); obtain ⟨ad173, e173, hx173_0, hx173_1, hx173_2⟩ := at_T45 HR0.out ((rd_T34 l2 x13_1).f4) p173 q173; cases e173; replace hx173_0 := cx_ HB hx173_0; replace hx173_1 := cx_ HB hx173_1; replace hx173_2 := cx_ HB hx173_2; replace p173 := eq_true p173; replace q173 := eq_true q173; have p174 : 0 ≤ (x13_1 : Int) := od_ (by first | (with_reducible assumption) | assumption); have q174 : x13_1 < (l1.length : Int) := od_ (by first | (with_reducible assumption) | assumption); obtain ⟨ad174, e174, hx174_0⟩ := Kd.at_bool HR1.out x13_1 p174 q174; (try rw [← Nbq9.out] at hx174_0); cases e174; replace hx174_0 := cx_ HB hx174_0; replace p174 := eq_true p174; replace q174 := eq_true q174; have p175 : 0 ≤ (0 : Int) := (by omega); have q175 : 0 < (l2.length : Int) := od_ (by first | (with_reducible assumption) | assumption); obtain ⟨ad175, e175, hx175_0, hx175_1, hx175_2, hx175_3, hx175_4, hx175_5, hx175_6, hx175_7, hx175_8⟩ := at_T34 HR2.out 0 p175 q175; (try rw [← Nbq9.out] at hx175_0); (try rw [← Nbq9.out] at hx175_1); obtain rfl : ad170 = ad175 := (by injection e175); have qi175 : (0 < l2.length) = True := eq_true (by omega); (try rw [show ((0 : Int)).toNat = 0 from rfl] at hx175_0); (try rw [show 0 * 9 = 0 from rfl] at hx175_0); (try rw [Addr.add_zero'] at hx175_0); (try rw [show ((0 : Int)).toNat = 0 from rfl] at hx175_1); (try rw [show 0 * 9 = 0 from rfl] at hx175_1); (try rw [Addr.add_zero'] at hx175_1); (try rw [show ((0 : Int)).toNat = 0 from rfl] at hx175_2); (try rw [show 0 * 9 = 0 from rfl] at hx175_2); (try rw [Addr.add_zero'] at hx175_2); (try rw [show ((0 : Int)).toNat = 0 from rfl] at hx175_3); (try rw [show 0 * 9 = 0 from rfl] at hx175_3); (try rw [Addr.add_zero'] at hx175_3); (try rw [show ((0 : Int)).toNat = 0 from rfl] at hx175_4); (try rw [show 0 * 9 = 0 from rfl] at hx175_4); (try rw [Addr.add_zero'] at hx175_4); (try rw [show ((0 : Int)).toNat = 0 from rfl] at hx175_5); (try rw [show 0 * 9 = 0 from rfl] at hx175_5); (try rw [Addr.add_zero'] at hx175_5); (try rw [show ((0 : Int)).toNat = 0 from rfl] at hx175_6); (try rw [show 0 * 9 = 0 from rfl] at hx175_6); (try rw [Addr.add_zero'] at hx175_6); (try rw [show ((0 : Int)).toNat = 0 from rfl] at hx175_7); (try rw [show 0 * 9 = 0 from rfl] at hx175_7); (try rw [Addr.add_zero'] at hx175_7); (try rw [show ((0 : Int)).toNat = 0 from rfl] at hx175_8); (try rw [show 0 * 9 = 0 from rfl] at hx175_8); (try rw [Addr.add_zero'] at hx175_8); replace hx175_0 := cx_ HB hx175_0; replace hx175_1 := cx_ HB hx175_1; replace hx175_2 := cx_ HB hx175_2; replace hx175_3 := cx_ HB hx175_3; replace hx175_4 := cx_ HB hx175_4; replace hx175_5 := cx_ HB hx175_5; replace hx175_6 := cx_ HB hx175_6; replace hx175_7 := cx_ HB hx175_7; replace hx175_8 := cx_ HB hx175_8; replace p175 := eq_true p175; replace q175 := eq_true q175)))
               go_roundg k1
               case measure => have := HK1.out; omega
               case rel => exact ⟨(wrap64 (x13_1 + 1)), rf_, H', ⟨by have := HK1.out; omega⟩, ⟨bw1_ HB GE171⟩⟩
             ·rw [if_neg c19] at H
              exact absurd H (by simp)
           ·rw [if_neg c13] at H
            exact absurd H (by simp)
          ·rw [if_neg c12] at H
           exact absurd H (by simp)
         ·rw [if_neg c11] at H
          exact absurd H (by simp)
        ·replace c10 := Bool.eq_false_iff.mpr c10
         subst c10
         have n_ := A7.out
         rw [← Nbq9.out] at n_
         clear A7
         have A7 := ak_ n_
         clear n_
         have H1 : (if x13_1 < (l1.length : Int) then (if (((rd_T34 l2 x13_1).f1) != (rdOf false l1 x13_1)) = true then (some 1) else (if 0 < (l2.length : Int) then (if ((false) != ((rd_T34 l2 0).f0)) = true then (some 1) else (value_is.l0 k1 l0 l1 l2 l2 (l2.length : Int) (wrap64 (x13_1 + 1)))) else (none))) else (none)) = some r := by rw [if_neg (show ¬ (false = true) by decide)] at H; exact H
         clear H
         have H := H1
         clear H1
         by_cases c29 : x13_1 < (l1.length : Int)
         ·rw [if_pos c29] at H
          have c29b0 := decide_eq_true c29
          clear c29
          by_cases c30 : (((rd_T34 l2 x13_1).f1) != (rdOf false l1 x13_1)) = true
          ·rw [if_pos c30] at H
           have c30b0 : (((rd_T34 l2 x13_1).f1) != (rdOf false l1 x13_1)) = true := c30
           (try (have c30b1 : decide (((rd_T34 l2 x13_1).f1) = (rdOf false l1 x13_1)) = false := by simpa using c30))
           (try (have c30b2 : (((rd_T34 l2 x13_1).f1) == (rdOf false l1 x13_1)) = false := by simpa using c30))
           (try (have c30b3 : ¬ (((rd_T34 l2 x13_1).f1) = (rdOf false l1 x13_1)) := by simpa using c30))
           clear c30
           obtain rfl := Option.some.inj H
           have p170 : 0 ≤ (x13_1 : Int) := od_ (by first | (with_reducible assumption) | assumption)
           have q170 : x13_1 < (l2.length : Int) := od_ (by first | (with_reducible assumption) | assumption)
           obtain ⟨ad170, e170, hx170_0, hx170_1, hx170_2, hx170_3, hx170_4, hx170_5, hx170_6, hx170_7, hx170_8⟩ := at_T34 HR2.out x13_1 p170 q170
           (try rw [← Nbq9.out] at hx170_0)
           (try rw [← Nbq9.out] at hx170_1)
           cases e170
           replace hx170_0 := cx_ HB hx170_0
           replace hx170_1 := cx_ HB hx170_1
           replace hx170_2 := cx_ HB hx170_2
           replace hx170_3 := cx_ HB hx170_3
           replace hx170_4 := cx_ HB hx170_4
           replace hx170_5 := cx_ HB hx170_5
           replace hx170_6 := cx_ HB hx170_6
           replace hx170_7 := cx_ HB hx170_7
           replace hx170_8 := cx_ HB hx170_8
           replace p170 := eq_true p170
           replace q170 := eq_true q170
           go_wp2_with (first | ((with_reducible refine gate_dst (N := 8) rfl ?_); refine bx_ 8 #[.bool false, .bool false, .int .u64 0, .int .u64 0, .int .u64 0, .int .u64 0, .int .u64 0, .int .u64 0, .int .i64 0] 34 ?_; intro gb171 hg w31 hbox hb; have BK171 := ak_ hbox; have GW171 := ak_ (gs_ hg HB); have GE171 := ak_ (gs_ hg HB); replace HB := ak_ (bt_ (bl_ HB) hb); clear hb hbox hg; obtain ⟨hcz32_0, hcz32_1, hcz32_2, hcz32_3, hcz32_4, hcz32_5, hcz32_6, hcz32_7, hcz32_8, hfz32_0, hfz32_1, hfz32_2, hfz32_3, hfz32_4, hfz32_5, hfz32_6, hfz32_7, hfz32_8⟩ := kc9_ BK171.out) | (go_at_call 58; (with_reducible refine (value_Check.calls k1 _ _ l0 false ((rd_T34 l2 x13_1).f1) ((rd_T34 l2 x13_1).f2.f0) ((rd_T34 l2 x13_1).f2.f1) ((rd_T34 l2 x13_1).f3.f0.f0) ((rd_T34 l2 x13_1).f3.f0.f1) ((rd_T34 l2 x13_1).f3.f1.f0) ((rd_T34 l2 x13_1).f3.f1.f1) ((rd_T34 l2 x13_1).f4) t172 _ ?side1 ?side2 A7.out).mono ?_); (case side1 => exact Kd.C_below HR0.out (bw1_ HB GE171)); (case side2 => exact HC0.out); rintro e w33 ⟨rfl, hb⟩; replace BK171 := ak_ (kb_ (g := gb171) (o := .cells #[.bool false, .bool ((rd_T34 l2 x13_1).f1), .int .u64 ((rd_T34 l2 x13_1).f2.f0), .int .u64 ((rd_T34 l2 x13_1).f2.f1), .int .u64 ((rd_T34 l2 x13_1).f3.f0.f0), .int .u64 ((rd_T34 l2 x13_1).f3.f0.f1), .int .u64 ((rd_T34 l2 x13_1).f3.f1.f0), .int .u64 ((rd_T34 l2 x13_1).f3.f1.f1), .int .i64 ((rd_T34 l2 x13_1).f4)] 34 (0, 0)) (by (with_reducible repeat (first | refine kn_ ?_ _ | refine kd_ ?_ | refine ka_ ?_ _)); exact sC_blk BK171.out rfl rfl) hb); replace HB := ak_ (bt_ (bw1_ HB GE171) hb); (try clear hb); (try clear hk); obtain ⟨hcz34_0, hcz34_1, hcz34_2, hcz34_3, hcz34_4, hcz34_5, hcz34_6, hcz34_7, hcz34_8, hfz34_0, hfz34_1, hfz34_2, hfz34_3, hfz34_4, hfz34_5, hfz34_6, hfz34_7, hfz34_8⟩ := kc9_ BK171.out; have p176 : 0 ≤ (x13_1 : Int) := od_ (by first | (with_reducible assumption) | assumption); have q176 : x13_1 < (l1.length : Int) := od_ (by first | (with_reducible assumption) | assumption); obtain ⟨ad176, e176, hx176_0⟩ := Kd.at_bool HR1.out x13_1 p176 q176; (try rw [← Nbq9.out] at hx176_0); cases e176; replace hx176_0 := cx_ HB hx176_0; replace p176 := eq_true p176; replace q176 := eq_true q176))
           repeat (go_quiet (first | ((with_reducible refine gate_dst (N := 8) rfl ?_); refine bx_ 8 #[.bool false, .bool false, .int .u64 0, .int .u64 0, .int .u64 0, .int .u64 0, .int .u64 0, .int .u64 0, .int .i64 0] 34 ?_; intro gb171 hg w31 hbox hb; have BK171 := ak_ hbox; have GW171 := ak_ (gs_ hg HB); have GE171 := ak_ (gs_ hg HB); replace HB := ak_ (bt_ (bl_ HB) hb); clear hb hbox hg; obtain ⟨hcz32_0, hcz32_1, hcz32_2, hcz32_3, hcz32_4, hcz32_5, hcz32_6, hcz32_7, hcz32_8, hfz32_0, hfz32_1, hfz32_2, hfz32_3, hfz32_4, hfz32_5, hfz32_6, hfz32_7, hfz32_8⟩ := kc9_ BK171.out) | (go_at_call 58; (with_reducible refine (value_Check.calls k1 _ _ l0 false ((rd_T34 l2 x13_1).f1) ((rd_T34 l2 x13_1).f2.f0) ((rd_T34 l2 x13_1).f2.f1) ((rd_T34 l2 x13_1).f3.f0.f0) ((rd_T34 l2 x13_1).f3.f0.f1) ((rd_T34 l2 x13_1).f3.f1.f0) ((rd_T34 l2 x13_1).f3.f1.f1) ((rd_T34 l2 x13_1).f4) t172 _ ?side1 ?side2 A7.out).mono ?_); (case side1 => exact Kd.C_below HR0.out (bw1_ HB GE171)); (case side2 => exact HC0.out); rintro e w33 ⟨rfl, hb⟩; replace BK171 := ak_ (kb_ (g := gb171) (o := .cells #[.bool false, .bool ((rd_T34 l2 x13_1).f1), .int .u64 ((rd_T34 l2 x13_1).f2.f0), .int .u64 ((rd_T34 l2 x13_1).f2.f1), .int .u64 ((rd_T34 l2 x13_1).f3.f0.f0), .int .u64 ((rd_T34 l2 x13_1).f3.f0.f1), .int .u64 ((rd_T34 l2 x13_1).f3.f1.f0), .int .u64 ((rd_T34 l2 x13_1).f3.f1.f1), .int .i64 ((rd_T34 l2 x13_1).f4)] 34 (0, 0)) (by (with_reducible repeat (first | refine kn_ ?_ _ | refine kd_ ?_ | refine ka_ ?_ _)); exact sC_blk BK171.out rfl rfl) hb); replace HB := ak_ (bt_ (bw1_ HB GE171) hb); (try clear hb); (try clear hk); obtain ⟨hcz34_0, hcz34_1, hcz34_2, hcz34_3, hcz34_4, hcz34_5, hcz34_6, hcz34_7, hcz34_8, hfz34_0, hfz34_1, hfz34_2, hfz34_3, hfz34_4, hfz34_5, hfz34_6, hfz34_7, hfz34_8⟩ := kc9_ BK171.out; have p176 : 0 ≤ (x13_1 : Int) := od_ (by first | (with_reducible assumption) | assumption); have q176 : x13_1 < (l1.length : Int) := od_ (by first | (with_reducible assumption) | assumption); obtain ⟨ad176, e176, hx176_0⟩ := Kd.at_bool HR1.out x13_1 p176 q176; (try rw [← Nbq9.out] at hx176_0); cases e176; replace hx176_0 := cx_ HB hx176_0; replace p176 := eq_true p176; replace q176 := eq_true q176)); try go_wp2_with (first | ((with_reducible refine gate_dst (N := 8) rfl ?_); refine bx_ 8 #[.bool false, .bool false, .int .u64 0, .int .u64 0, .int .u64 0, .int .u64 0, .int .u64 0, .int .u64 0, .int .i64 0] 34 ?_; intro gb171 hg w31 hbox hb; have BK171 := ak_ hbox; have GW171 := ak_ (gs_ hg HB); have GE171 := ak_ (gs_ hg HB); replace HB := ak_ (bt_ (bl_ HB) hb); clear hb hbox hg; obtain ⟨hcz32_0, hcz32_1, hcz32_2, hcz32_3, hcz32_4, hcz32_5, hcz32_6, hcz32_7, hcz32_8, hfz32_0, hfz32_1, hfz32_2, hfz32_3, hfz32_4, hfz32_5, hfz32_6, hfz32_7, hfz32_8⟩ := kc9_ BK171.out) | (go_at_call 58; (with_reducible refine (value_Check.calls k1 _ _ l0 false ((rd_T34 l2 x13_1).f1) ((rd_T34 l2 x13_1).f2.f0) ((rd_T34 l2 x13_1).f2.f1) ((rd_T34 l2 x13_1).f3.f0.f0) ((rd_T34 l2 x13_1).f3.f0.f1) ((rd_T34 l2 x13_1).f3.f1.f0) ((rd_T34 l2 x13_1).f3.f1.f1) ((rd_T34 l2 x13_1).f4) t172 _ ?side1 ?side2 A7.out).mono ?_); (case side1 => exact Kd.C_below HR0.out (bw1_ HB GE171)); (case side2 => exact HC0.out); rintro e w33 ⟨rfl, hb⟩; replace BK171 := ak_ (kb_ (g := gb171) (o := .cells #[.bool false, .bool ((rd_T34 l2 x13_1).f1), .int .u64 ((rd_T34 l2 x13_1).f2.f0), .int .u64 ((rd_T34 l2 x13_1).f2.f1), .int .u64 ((rd_T34 l2 x13_1).f3.f0.f0), .int .u64 ((rd_T34 l2 x13_1).f3.f0.f1), .int .u64 ((rd_T34 l2 x13_1).f3.f1.f0), .int .u64 ((rd_T34 l2 x13_1).f3.f1.f1), .int .i64 ((rd_T34 l2 x13_1).f4)] 34 (0, 0)) (by (with_reducible repeat (first | refine kn_ ?_ _ | refine kd_ ?_ | refine ka_ ?_ _)); exact sC_blk BK171.out rfl rfl) hb); replace HB := ak_ (bt_ (bw1_ HB GE171) hb); (try clear hb); (try clear hk); obtain ⟨hcz34_0, hcz34_1, hcz34_2, hcz34_3, hcz34_4, hcz34_5, hcz34_6, hcz34_7, hcz34_8, hfz34_0, hfz34_1, hfz34_2, hfz34_3, hfz34_4, hfz34_5, hfz34_6, hfz34_7, hfz34_8⟩ := kc9_ BK171.out; have p176 : 0 ≤ (x13_1 : Int) := od_ (by first | (with_reducible assumption) | assumption); have q176 : x13_1 < (l1.length : Int) := od_ (by first | (with_reducible assumption) | assumption); obtain ⟨ad176, e176, hx176_0⟩ := Kd.at_bool HR1.out x13_1 p176 q176; (try rw [← Nbq9.out] at hx176_0); cases e176; replace hx176_0 := cx_ HB hx176_0; replace p176 := eq_true p176; replace q176 := eq_true q176)))
           go_ret
           exact ea_ (bw1_ HB GE171)
          ·rw [if_neg c30] at H
           have c30b0 : (((rd_T34 l2 x13_1).f1) != (rdOf false l1 x13_1)) = false := by simpa using c30
           (try (have c30b1 : decide (((rd_T34 l2 x13_1).f1) = (rdOf false l1 x13_1)) = true := by simpa using c30))
           (try (have c30b2 : (((rd_T34 l2 x13_1).f1) == (rdOf false l1 x13_1)) = true := by simpa using c30))
           clear c30
           by_cases c35 : 0 < (l2.length : Int)
           ·rw [if_pos c35] at H
            have c35b0 := decide_eq_true c35
            have c35b1 : decide (0 < l2.length) = true := decide_eq_true (by omega)
            clear c35
            by_cases c36 : ((false) != ((rd_T34 l2 0).f0)) = true
            ·rw [if_pos c36] at H
             have c36b0 : ((false) != ((rd_T34 l2 0).f0)) = true := c36
             (try (have c36b1 : decide ((false) = ((rd_T34 l2 0).f0)) = false := by simpa using c36))
             (try (have c36b2 : ((false) == ((rd_T34 l2 0).f0)) = false := by simpa using c36))
             (try (have c36b3 : ¬ ((false) = ((rd_T34 l2 0).f0)) := by simpa using c36))
             clear c36
             obtain rfl := Option.some.inj H
             have p170 : 0 ≤ (x13_1 : Int) := od_ (by first | (with_reducible assumption) | assumption)
             have q170 : x13_1 < (l2.length : Int) := od_ (by first | (with_reducible assumption) | assumption)
             obtain ⟨ad170, e170, hx170_0, hx170_1, hx170_2, hx170_3, hx170_4, hx170_5, hx170_6, hx170_7, hx170_8⟩ := at_T34 HR2.out x13_1 p170 q170
             (try rw [← Nbq9.out] at hx170_0)
             (try rw [← Nbq9.out] at hx170_1)
             cases e170
             replace hx170_0 := cx_ HB hx170_0
             replace hx170_1 := cx_ HB hx170_1
             replace hx170_2 := cx_ HB hx170_2
             replace hx170_3 := cx_ HB hx170_3
             replace hx170_4 := cx_ HB hx170_4
             replace hx170_5 := cx_ HB hx170_5
             replace hx170_6 := cx_ HB hx170_6
             replace hx170_7 := cx_ HB hx170_7
             replace hx170_8 := cx_ HB hx170_8
             replace p170 := eq_true p170
             replace q170 := eq_true q170
             go_wp2_with (first | ((with_reducible refine gate_dst (N := 8) rfl ?_); refine bx_ 8 #[.bool false, .bool false, .int .u64 0, .int .u64 0, .int .u64 0, .int .u64 0, .int .u64 0, .int .u64 0, .int .i64 0] 34 ?_; intro gb171 hg w37 hbox hb; have BK171 := ak_ hbox; have GW171 := ak_ (gs_ hg HB); have GE171 := ak_ (gs_ hg HB); replace HB := ak_ (bt_ (bl_ HB) hb); clear hb hbox hg; obtain ⟨hcz38_0, hcz38_1, hcz38_2, hcz38_3, hcz38_4, hcz38_5, hcz38_6, hcz38_7, hcz38_8, hfz38_0, hfz38_1, hfz38_2, hfz38_3, hfz38_4, hfz38_5, hfz38_6, hfz38_7, hfz38_8⟩ := kc9_ BK171.out) | (go_at_call 58; (with_reducible refine (value_Check.calls k1 _ _ l0 false ((rd_T34 l2 x13_1).f1) ((rd_T34 l2 x13_1).f2.f0) ((rd_T34 l2 x13_1).f2.f1) ((rd_T34 l2 x13_1).f3.f0.f0) ((rd_T34 l2 x13_1).f3.f0.f1) ((rd_T34 l2 x13_1).f3.f1.f0) ((rd_T34 l2 x13_1).f3.f1.f1) ((rd_T34 l2 x13_1).f4) t172 _ ?side1 ?side2 A7.out).mono ?_); (case side1 => exact Kd.C_below HR0.out (bw1_ HB GE171)); (case side2 => exact HC0.out); rintro e w39 ⟨rfl, hb⟩; replace BK171 := ak_ (kb_ (g := gb171) (o := .cells #[.bool false, .bool ((rd_T34 l2 x13_1).f1), .int .u64 ((rd_T34 l2 x13_1).f2.f0), .int .u64 ((rd_T34 l2 x13_1).f2.f1), .int .u64 ((rd_T34 l2 x13_1).f3.f0.f0), .int .u64 ((rd_T34 l2 x13_1).f3.f0.f1), .int .u64 ((rd_T34 l2 x13_1).f3.f1.f0), .int .u64 ((rd_T34 l2 x13_1).f3.f1.f1), .int .i64 ((rd_T34 l2 x13_1).f4)] 34 (0, 0)) (by (with_reducible repeat (first | refine kn_ ?_ _ | refine kd_ ?_ | refine ka_ ?_ _)); exact sC_blk BK171.out rfl rfl) hb); replace HB := ak_ (bt_ (bw1_ HB GE171) hb); (try clear hb); (try clear hk); obtain ⟨hcz40_0, hcz40_1, hcz40_2, hcz40_3, hcz40_4, hcz40_5, hcz40_6, hcz40_7, hcz40_8, hfz40_0, hfz40_1, hfz40_2, hfz40_3, hfz40_4, hfz40_5, hfz40_6, hfz40_7, hfz40_8⟩ := kc9_ BK171.out; have p176 : 0 ≤ (x13_1 : Int) := od_ (by first | (with_reducible assumption) | assumption); have q176 : x13_1 < (l1.length : Int) := od_ (by first | (with_reducible assumption) | assumption); obtain ⟨ad176, e176, hx176_0⟩ := Kd.at_bool HR1.out x13_1 p176 q176; (try rw [← Nbq9.out] at hx176_0); cases e176; replace hx176_0 := cx_ HB hx176_0; replace p176 := eq_true p176; replace q176 := eq_true q176; have p177 : 0 ≤ (0 : Int) := (by omega); have q177 : 0 < (l2.length : Int) := od_ (by first | (with_reducible assumption) | assumption); obtain ⟨ad177, e177, hx177_0, hx177_1, hx177_2, hx177_3, hx177_4, hx177_5, hx177_6, hx177_7, hx177_8⟩ := at_T34 HR2.out 0 p177 q177; (try rw [← Nbq9.out] at hx177_0); (try rw [← Nbq9.out] at hx177_1); obtain rfl : ad170 = ad177 := (by injection e177); have qi177 : (0 < l2.length) = True := eq_true (by omega); (try rw [show ((0 : Int)).toNat = 0 from rfl] at hx177_0); (try rw [show 0 * 9 = 0 from rfl] at hx177_0); (try rw [Addr.add_zero'] at hx177_0); (try rw [show ((0 : Int)).toNat = 0 from rfl] at hx177_1); (try rw [show 0 * 9 = 0 from rfl] at hx177_1); (try rw [Addr.add_zero'] at hx177_1); (try rw [show ((0 : Int)).toNat = 0 from rfl] at hx177_2); (try rw [show 0 * 9 = 0 from rfl] at hx177_2); (try rw [Addr.add_zero'] at hx177_2); (try rw [show ((0 : Int)).toNat = 0 from rfl] at hx177_3); (try rw [show 0 * 9 = 0 from rfl] at hx177_3); (try rw [Addr.add_zero'] at hx177_3); (try rw [show ((0 : Int)).toNat = 0 from rfl] at hx177_4); (try rw [show 0 * 9 = 0 from rfl] at hx177_4); (try rw [Addr.add_zero'] at hx177_4); (try rw [show ((0 : Int)).toNat = 0 from rfl] at hx177_5); (try rw [show 0 * 9 = 0 from rfl] at hx177_5); (try rw [Addr.add_zero'] at hx177_5); (try rw [show ((0 : Int)).toNat = 0 from rfl] at hx177_6); (try rw [show 0 * 9 = 0 from rfl] at hx177_6); (try rw [Addr.add_zero'] at hx177_6); (try rw [show ((0 : Int)).toNat = 0 from rfl] at hx177_7); (try rw [show 0 * 9 = 0 from rfl] at hx177_7); (try rw [Addr.add_zero'] at hx177_7); (try rw [show ((0 : Int)).toNat = 0 from rfl] at hx177_8); (try rw [show 0 * 9 = 0 from rfl] at hx177_8); (try rw [Addr.add_zero'] at hx177_8); replace hx177_0 := cx_ HB hx177_0; replace hx177_1 := cx_ HB hx177_1; replace hx177_2 := cx_ HB hx177_2; replace hx177_3 := cx_ HB hx177_3; replace hx177_4 := cx_ HB hx177_4; replace hx177_5 := cx_ HB hx177_5; replace hx177_6 := cx_ HB hx177_6; replace hx177_7 := cx_ HB hx177_7; replace hx177_8 := cx_ HB hx177_8; replace p177 := eq_true p177; replace q177 := eq_true q177))
             repeat (go_quiet (first | ((with_reducible refine gate_dst (N := 8) rfl ?_); refine bx_ 8 #[.bool false, .bool false, .int .u64 0, .int .u64 0, .int .u64 0, .int .u64 0, .int .u64 0, .int .u64 0, .int .i64 0] 34 ?_; intro gb171 hg w37 hbox hb; have BK171 := ak_ hbox; have GW171 := ak_ (gs_ hg HB); have GE171 := ak_ (gs_ hg HB); replace HB := ak_ (bt_ (bl_ HB) hb); clear hb hbox hg; obtain ⟨hcz38_0, hcz38_1, hcz38_2, hcz38_3, hcz38_4, hcz38_5, hcz38_6, hcz38_7, hcz38_8, hfz38_0, hfz38_1, hfz38_2, hfz38_3, hfz38_4, hfz38_5, hfz38_6, hfz38_7, hfz38_8⟩ := kc9_ BK171.out) | (go_at_call 58; (with_reducible refine (value_Check.calls k1 _ _ l0 false ((rd_T34 l2 x13_1).f1) ((rd_T34 l2 x13_1).f2.f0) ((rd_T34 l2 x13_1).f2.f1) ((rd_T34 l2 x13_1).f3.f0.f0) ((rd_T34 l2 x13_1).f3.f0.f1) ((rd_T34 l2 x13_1).f3.f1.f0) ((rd_T34 l2 x13_1).f3.f1.f1) ((rd_T34 l2 x13_1).f4) t172 _ ?side1 ?side2 A7.out).mono ?_); (case side1 => exact Kd.C_below HR0.out (bw1_ HB GE171)); (case side2 => exact HC0.out); rintro e w39 ⟨rfl, hb⟩; replace BK171 := ak_ (kb_ (g := gb171) (o := .cells #[.bool false, .bool ((rd_T34 l2 x13_1).f1), .int .u64 ((rd_T34 l2 x13_1).f2.f0), .int .u64 ((rd_T34 l2 x13_1).f2.f1), .int .u64 ((rd_T34 l2 x13_1).f3.f0.f0), .int .u64 ((rd_T34 l2 x13_1).f3.f0.f1), .int .u64 ((rd_T34 l2 x13_1).f3.f1.f0), .int .u64 ((rd_T34 l2 x13_1).f3.f1.f1), .int .i64 ((rd_T34 l2 x13_1).f4)] 34 (0, 0)) (by (with_reducible repeat (first | refine kn_ ?_ _ | refine kd_ ?_ | refine ka_ ?_ _)); exact sC_blk BK171.out rfl rfl) hb); replace HB := ak_ (bt_ (bw1_ HB GE171) hb); (try clear hb); (try clear hk); obtain ⟨hcz40_0, hcz40_1, hcz40_2, hcz40_3, hcz40_4, hcz40_5, hcz40_6, hcz40_7, hcz40_8, hfz40_0, hfz40_1, hfz40_2, hfz40_3, hfz40_4, hfz40_5, hfz40_6, hfz40_7, hfz40_8⟩ := kc9_ BK171.out; have p176 : 0 ≤ (x13_1 : Int) := od_ (by first | (with_reducible assumption) | assumption); have q176 : x13_1 < (l1.length : Int) := od_ (by first | (with_reducible assumption) | assumption); obtain ⟨ad176, e176, hx176_0⟩ := Kd.at_bool HR1.out x13_1 p176 q176; (try rw [← Nbq9.out] at hx176_0); cases e176; replace hx176_0 := cx_ HB hx176_0; replace p176 := eq_true p176; replace q176 := eq_true q176; have p177 : 0 ≤ (0 : Int) := (by omega); have q177 : 0 < (l2.length : Int) := od_ (by first | (with_reducible assumption) | assumption); obtain ⟨ad177, e177, hx177_0, hx177_1, hx177_2, hx177_3, hx177_4, hx177_5, hx177_6, hx177_7, hx177_8⟩ := at_T34 HR2.out 0 p177 q177; (try rw [← Nbq9.out] at hx177_0); (try rw [← Nbq9.out] at hx177_1); obtain rfl : ad170 = ad177 := (by injection e177); have qi177 : (0 < l2.length) = True := eq_true (by omega); (try rw [show ((0 : Int)).toNat = 0 from rfl] at hx177_0); (try rw [show 0 * 9 = 0 from rfl] at hx177_0); (try rw [Addr.add_zero'] at hx177_0); (try rw [show ((0 : Int)).toNat = 0 from rfl] at hx177_1); (try rw [show 0 * 9 = 0 from rfl] at hx177_1); (try rw [Addr.add_zero'] at hx177_1); (try rw [show ((0 : Int)).toNat = 0 from rfl] at hx177_2); (try rw [show 0 * 9 = 0 from rfl] at hx177_2); (try rw [Addr.add_zero'] at hx177_2); (try rw [show ((0 : Int)).toNat = 0 from rfl] at hx177_3); (try rw [show 0 * 9 = 0 from rfl] at hx177_3); (try rw [Addr.add_zero'] at hx177_3); (try rw [show ((0 : Int)).toNat = 0 from rfl] at hx177_4); (try rw [show 0 * 9 = 0 from rfl] at hx177_4); (try rw [Addr.add_zero'] at hx177_4); (try rw [show ((0 : Int)).toNat = 0 from rfl] at hx177_5); (try rw [show 0 * 9 = 0 from rfl] at hx177_5); (try rw [Addr.add_zero'] at hx177_5); (try rw [show ((0 : Int)).toNat = 0 from rfl] at hx177_6); (try rw [show 0 * 9 = 0 from rfl] at hx177_6); (try rw [Addr.add_zero'] at hx177_6); (try rw [show ((0 : Int)).toNat = 0 from rfl] at hx177_7); (try rw [show 0 * 9 = 0 from rfl] at hx177_7); (try rw [Addr.add_zero'] at hx177_7); (try rw [show ((0 : Int)).toNat = 0 from rfl] at hx177_8); (try rw [show 0 * 9 = 0 from rfl] at hx177_8); (try rw [Addr.add_zero'] at hx177_8); replace hx177_0 := cx_ HB hx177_0; replace hx177_1 := cx_ HB hx177_1; replace hx177_2 := cx_ HB hx177_2; replace hx177_3 := cx_ HB hx177_3; replace hx177_4 := cx_ HB hx177_4; replace hx177_5 := cx_ HB hx177_5; replace hx177_6 := cx_ HB hx177_6; replace hx177_7 := cx_ HB hx177_7; replace hx177_8 := cx_ HB hx177_8; replace p177 := eq_true p177; replace q177 := eq_true q177)); try go_wp2_with (first | ((with_reducible refine gate_dst (N := 8) rfl ?_); refine bx_ 8 #[.bool false, .bool false, .int .u64 0, .int .u64 0, .int .u64 0, .int .u64 0, .int .u64 0, .int .u64 0, .int .i64 0] 34 ?_; intro gb171 hg w37 hbox hb; have BK171 := ak_ hbox; have GW171 := ak_ (gs_ hg HB); have GE171 := ak_ (gs_ hg HB); replace HB := ak_ (bt_ (bl_ HB) hb); clear hb hbox hg; obtain ⟨hcz38_0, hcz38_1, hcz38_2, hcz38_3, hcz38_4, hcz38_5, hcz38_6, hcz38_7, hcz38_8, hfz38_0, hfz38_1, hfz38_2, hfz38_3, hfz38_4, hfz38_5, hfz38_6, hfz38_7, hfz38_8⟩ := kc9_ BK171.out) | (go_at_call 58; (with_reducible refine (value_Check.calls k1 _ _ l0 false ((rd_T34 l2 x13_1).f1) ((rd_T34 l2 x13_1).f2.f0) ((rd_T34 l2 x13_1).f2.f1) ((rd_T34 l2 x13_1).f3.f0.f0) ((rd_T34 l2 x13_1).f3.f0.f1) ((rd_T34 l2 x13_1).f3.f1.f0) ((rd_T34 l2 x13_1).f3.f1.f1) ((rd_T34 l2 x13_1).f4) t172 _ ?side1 ?side2 A7.out).mono ?_); (case side1 => exact Kd.C_below HR0.out (bw1_ HB GE171)); (case side2 => exact HC0.out); rintro e w39 ⟨rfl, hb⟩; replace BK171 := ak_ (kb_ (g := gb171) (o := .cells #[.bool false, .bool ((rd_T34 l2 x13_1).f1), .int .u64 ((rd_T34 l2 x13_1).f2.f0), .int .u64 ((rd_T34 l2 x13_1).f2.f1), .int .u64 ((rd_T34 l2 x13_1).f3.f0.f0), .int .u64 ((rd_T34 l2 x13_1).f3.f0.f1), .int .u64 ((rd_T34 l2 x13_1).f3.f1.f0), .int .u64 ((rd_T34 l2 x13_1).f3.f1.f1), .int .i64 ((rd_T34 l2 x13_1).f4)] 34 (0, 0)) (by (with_reducible repeat (first | refine kn_ ?_ _ | refine kd_ ?_ | refine ka_ ?_ _)); exact sC_blk BK171.out rfl rfl) hb); replace HB := ak_ (bt_ (bw1_ HB GE171) hb); (try clear hb); (try clear hk); obtain ⟨hcz40_0, hcz40_1, hcz40_2, hcz40_3, hcz40_4, hcz40_5, hcz40_6, hcz40_7, hcz40_8, hfz40_0, hfz40_1, hfz40_2, hfz40_3, hfz40_4, hfz40_5, hfz40_6, hfz40_7, hfz40_8⟩ := kc9_ BK171.out; have p176 : 0 ≤ (x13_1 : Int) := od_ (by first | (with_reducible assumption) | assumption); have q176 : x13_1 < (l1.length : Int) := od_ (by first | (with_reducible assumption) | assumption); obtain ⟨ad176, e176, hx176_0⟩ := Kd.at_bool HR1.out x13_1 p176 q176; (try rw [← Nbq9.out] at hx176_0); cases e176; replace hx176_0 := cx_ HB hx176_0; replace p176 := eq_true p176; replace q176 := eq_true q176; have p177 : 0 ≤ (0 : Int) := (by omega); have q177 : 0 < (l2.length : Int) := od_ (by first | (with_reducible assumption) | assumption); obtain ⟨ad177, e177, hx177_0, hx177_1, hx177_2, hx177_3, hx177_4, hx177_5, hx177_6, hx177_7, hx177_8⟩ := at_T34 HR2.out 0 p177 q177; (try rw [← Nbq9.out] at hx177_0); (try rw [← Nbq9.out] at hx177_1); obtain rfl : ad170 = ad177 := (by injection e177); have qi177 : (0 < l2.length) = True := eq_true (by omega); (try rw [show ((0 : Int)).toNat = 0 from rfl] at hx177_0); (try rw [show 0 * 9 = 0 from rfl] at hx177_0); (try rw [Addr.add_zero'] at hx177_0); (try rw [show ((0 : Int)).toNat = 0 from rfl] at hx177_1); (try rw [show 0 * 9 = 0 from rfl] at hx177_1); (try rw [Addr.add_zero'] at hx177_1); (try rw [show ((0 : Int)).toNat = 0 from rfl] at hx177_2); (try rw [show 0 * 9 = 0 from rfl] at hx177_2); (try rw [Addr.add_zero'] at hx177_2); (try rw [show ((0 : Int)).toNat = 0 from rfl] at hx177_3); (try rw [show 0 * 9 = 0 from rfl] at hx177_3); (try rw [Addr.add_zero'] at hx177_3); (try rw [show ((0 : Int)).toNat = 0 from rfl] at hx177_4); (try rw [show 0 * 9 = 0 from rfl] at hx177_4); (try rw [Addr.add_zero'] at hx177_4); (try rw [show ((0 : Int)).toNat = 0 from rfl] at hx177_5); (try rw [show 0 * 9 = 0 from rfl] at hx177_5); (try rw [Addr.add_zero'] at hx177_5); (try rw [show ((0 : Int)).toNat = 0 from rfl] at hx177_6); (try rw [show 0 * 9 = 0 from rfl] at hx177_6); (try rw [Addr.add_zero'] at hx177_6); (try rw [show ((0 : Int)).toNat = 0 from rfl] at hx177_7); (try rw [show 0 * 9 = 0 from rfl] at hx177_7); (try rw [Addr.add_zero'] at hx177_7); (try rw [show ((0 : Int)).toNat = 0 from rfl] at hx177_8); (try rw [show 0 * 9 = 0 from rfl] at hx177_8); (try rw [Addr.add_zero'] at hx177_8); replace hx177_0 := cx_ HB hx177_0; replace hx177_1 := cx_ HB hx177_1; replace hx177_2 := cx_ HB hx177_2; replace hx177_3 := cx_ HB hx177_3; replace hx177_4 := cx_ HB hx177_4; replace hx177_5 := cx_ HB hx177_5; replace hx177_6 := cx_ HB hx177_6; replace hx177_7 := cx_ HB hx177_7; replace hx177_8 := cx_ HB hx177_8; replace p177 := eq_true p177; replace q177 := eq_true q177)))
             go_ret
             exact ea_ (bw1_ HB GE171)
            ·rw [if_neg c36] at H
             have c36b0 : ((false) != ((rd_T34 l2 0).f0)) = false := by simpa using c36
             (try (have c36b1 : decide ((false) = ((rd_T34 l2 0).f0)) = true := by simpa using c36))
             (try (have c36b2 : ((false) == ((rd_T34 l2 0).f0)) = true := by simpa using c36))
             clear c36
             have H' := ak_ H
             clear H
             have p170 : 0 ≤ (x13_1 : Int) := od_ (by first | (with_reducible assumption) | assumption)
             have q170 : x13_1 < (l2.length : Int) := od_ (by first | (with_reducible assumption) | assumption)
             obtain ⟨ad170, e170, hx170_0, hx170_1, hx170_2, hx170_3, hx170_4, hx170_5, hx170_6, hx170_7, hx170_8⟩ := at_T34 HR2.out x13_1 p170 q170
             (try rw [← Nbq9.out] at hx170_0)
             (try rw [← Nbq9.out] at hx170_1)
             cases e170
             replace hx170_0 := cx_ HB hx170_0
             replace hx170_1 := cx_ HB hx170_1
             replace hx170_2 := cx_ HB hx170_2
             replace hx170_3 := cx_ HB hx170_3
             replace hx170_4 := cx_ HB hx170_4
             replace hx170_5 := cx_ HB hx170_5
             replace hx170_6 := cx_ HB hx170_6
             replace hx170_7 := cx_ HB hx170_7
             replace hx170_8 := cx_ HB hx170_8
             replace p170 := eq_true p170
             replace q170 := eq_true q170
             go_wp2_with (first | ((with_reducible refine gate_dst (N := 8) rfl ?_); refine bx_ 8 #[.bool false, .bool false, .int .u64 0, .int .u64 0, .int .u64 0, .int .u64 0, .int .u64 0, .int .u64 0, .int .i64 0] 34 ?_; intro gb171 hg w41 hbox hb; have BK171 := ak_ hbox; have GW171 := ak_ (gs_ hg HB); have GE171 := ak_ (gs_ hg HB); replace HB := ak_ (bt_ (bl_ HB) hb); clear hb hbox hg; obtain ⟨hcz42_0, hcz42_1, hcz42_2, hcz42_3, hcz42_4, hcz42_5, hcz42_6, hcz42_7, hcz42_8, hfz42_0, hfz42_1, hfz42_2, hfz42_3, hfz42_4, hfz42_5, hfz42_6, hfz42_7, hfz42_8⟩ := kc9_ BK171.out) | (go_at_call 58; (with_reducible refine (value_Check.calls k1 _ _ l0 false ((rd_T34 l2 x13_1).f1) ((rd_T34 l2 x13_1).f2.f0) ((rd_T34 l2 x13_1).f2.f1) ((rd_T34 l2 x13_1).f3.f0.f0) ((rd_T34 l2 x13_1).f3.f0.f1) ((rd_T34 l2 x13_1).f3.f1.f0) ((rd_T34 l2 x13_1).f3.f1.f1) ((rd_T34 l2 x13_1).f4) t172 _ ?side1 ?side2 A7.out).mono ?_); (case side1 => exact Kd.C_below HR0.out (bw1_ HB GE171)); (case side2 => exact HC0.out); rintro e w43 ⟨rfl, hb⟩; replace BK171 := ak_ (kb_ (g := gb171) (o := .cells #[.bool false, .bool ((rd_T34 l2 x13_1).f1), .int .u64 ((rd_T34 l2 x13_1).f2.f0), .int .u64 ((rd_T34 l2 x13_1).f2.f1), .int .u64 ((rd_T34 l2 x13_1).f3.f0.f0), .int .u64 ((rd_T34 l2 x13_1).f3.f0.f1), .int .u64 ((rd_T34 l2 x13_1).f3.f1.f0), .int .u64 ((rd_T34 l2 x13_1).f3.f1.f1), .int .i64 ((rd_T34 l2 x13_1).f4)] 34 (0, 0)) (by (with_reducible repeat (first | refine kn_ ?_ _ | refine kd_ ?_ | refine ka_ ?_ _)); exact sC_blk BK171.out rfl rfl) hb); replace HB := ak_ (bt_ (bw1_ HB GE171) hb); (try clear hb); (try clear hk); obtain ⟨hcz44_0, hcz44_1, hcz44_2, hcz44_3, hcz44_4, hcz44_5, hcz44_6, hcz44_7, hcz44_8, hfz44_0, hfz44_1, hfz44_2, hfz44_3, hfz44_4, hfz44_5, hfz44_6, hfz44_7, hfz44_8⟩ := kc9_ BK171.out; have p176 : 0 ≤ (x13_1 : Int) := od_ (by first | (with_reducible assumption) | assumption); have q176 : x13_1 < (l1.length : Int) := od_ (by first | (with_reducible assumption) | assumption); obtain ⟨ad176, e176, hx176_0⟩ := Kd.at_bool HR1.out x13_1 p176 q176; (try rw [← Nbq9.out] at hx176_0); cases e176; replace hx176_0 := cx_ HB hx176_0; replace p176 := eq_true p176; replace q176 := eq_true q176; have p177 : 0 ≤ (0 : Int) := (by omega); have q177 : 0 < (l2.length : Int) := od_ (by first | (with_reducible assumption) | assumption); obtain ⟨ad177, e177, hx177_0, hx177_1, hx177_2, hx177_3, hx177_4, hx177_5, hx177_6, hx177_7, hx177_8⟩ := at_T34 HR2.out 0 p177 q177; (try rw [← Nbq9.out] at hx177_0); (try rw [← Nbq9.out] at hx177_1); obtain rfl : ad170 = ad177 := (by injection e177); have qi177 : (0 < l2.length) = True := eq_true (by omega); (try rw [show ((0 : Int)).toNat = 0 from rfl] at hx177_0); (try rw [show 0 * 9 = 0 from rfl] at hx177_0); (try rw [Addr.add_zero'] at hx177_0); (try rw [show ((0 : Int)).toNat = 0 from rfl] at hx177_1); (try rw [show 0 * 9 = 0 from rfl] at hx177_1); (try rw [Addr.add_zero'] at hx177_1); (try rw [show ((0 : Int)).toNat = 0 from rfl] at hx177_2); (try rw [show 0 * 9 = 0 from rfl] at hx177_2); (try rw [Addr.add_zero'] at hx177_2); (try rw [show ((0 : Int)).toNat = 0 from rfl] at hx177_3); (try rw [show 0 * 9 = 0 from rfl] at hx177_3); (try rw [Addr.add_zero'] at hx177_3); (try rw [show ((0 : Int)).toNat = 0 from rfl] at hx177_4); (try rw [show 0 * 9 = 0 from rfl] at hx177_4); (try rw [Addr.add_zero'] at hx177_4); (try rw [show ((0 : Int)).toNat = 0 from rfl] at hx177_5); (try rw [show 0 * 9 = 0 from rfl] at hx177_5); (try rw [Addr.add_zero'] at hx177_5); (try rw [show ((0 : Int)).toNat = 0 from rfl] at hx177_6); (try rw [show 0 * 9 = 0 from rfl] at hx177_6); (try rw [Addr.add_zero'] at hx177_6); (try rw [show ((0 : Int)).toNat = 0 from rfl] at hx177_7); (try rw [show 0 * 9 = 0 from rfl] at hx177_7); (try rw [Addr.add_zero'] at hx177_7); (try rw [show ((0 : Int)).toNat = 0 from rfl] at hx177_8); (try rw [show 0 * 9 = 0 from rfl] at hx177_8); (try rw [Addr.add_zero'] at hx177_8); replace hx177_0 := cx_ HB hx177_0; replace hx177_1 := cx_ HB hx177_1; replace hx177_2 := cx_ HB hx177_2; replace hx177_3 := cx_ HB hx177_3; replace hx177_4 := cx_ HB hx177_4; replace hx177_5 := cx_ HB hx177_5; replace hx177_6 := cx_ HB hx177_6; replace hx177_7 := cx_ HB hx177_7; replace hx177_8 := cx_ HB hx177_8; replace p177 := eq_true p177; replace q177 := eq_true q177))
             repeat (go_quiet (first | ((with_reducible refine gate_dst (N := 8) rfl ?_); refine bx_ 8 #[.bool false, .bool false, .int .u64 0, .int .u64 0, .int .u64 0, .int .u64 0, .int .u64 0, .int .u64 0, .int .i64 0] 34 ?_; intro gb171 hg w41 hbox hb; have BK171 := ak_ hbox; have GW171 := ak_ (gs_ hg HB); have GE171 := ak_ (gs_ hg HB); replace HB := ak_ (bt_ (bl_ HB) hb); clear hb hbox hg; obtain ⟨hcz42_0, hcz42_1, hcz42_2, hcz42_3, hcz42_4, hcz42_5, hcz42_6, hcz42_7, hcz42_8, hfz42_0, hfz42_1, hfz42_2, hfz42_3, hfz42_4, hfz42_5, hfz42_6, hfz42_7, hfz42_8⟩ := kc9_ BK171.out) | (go_at_call 58; (with_reducible refine (value_Check.calls k1 _ _ l0 false ((rd_T34 l2 x13_1).f1) ((rd_T34 l2 x13_1).f2.f0) ((rd_T34 l2 x13_1).f2.f1) ((rd_T34 l2 x13_1).f3.f0.f0) ((rd_T34 l2 x13_1).f3.f0.f1) ((rd_T34 l2 x13_1).f3.f1.f0) ((rd_T34 l2 x13_1).f3.f1.f1) ((rd_T34 l2 x13_1).f4) t172 _ ?side1 ?side2 A7.out).mono ?_); (case side1 => exact Kd.C_below HR0.out (bw1_ HB GE171)); (case side2 => exact HC0.out); rintro e w43 ⟨rfl, hb⟩; replace BK171 := ak_ (kb_ (g := gb171) (o := .cells #[.bool false, .bool ((rd_T34 l2 x13_1).f1), .int .u64 ((rd_T34 l2 x13_1).f2.f0), .int .u64 ((rd_T34 l2 x13_1).f2.f1), .int .u64 ((rd_T34 l2 x13_1).f3.f0.f0), .int .u64 ((rd_T34 l2 x13_1).f3.f0.f1), .int .u64 ((rd_T34 l2 x13_1).f3.f1.f0), .int .u64 ((rd_T34 l2 x13_1).f3.f1.f1), .int .i64 ((rd_T34 l2 x13_1).f4)] 34 (0, 0)) (by (with_reducible repeat (first | refine kn_ ?_ _ | refine kd_ ?_ | refine ka_ ?_ _)); exact sC_blk BK171.out rfl rfl) hb); replace HB := ak_ (bt_ (bw1_ HB GE171) hb); (try clear hb); (try clear hk); obtain ⟨hcz44_0, hcz44_1, hcz44_2, hcz44_3, hcz44_4, hcz44_5, hcz44_6, hcz44_7, hcz44_8, hfz44_0, hfz44_1, hfz44_2, hfz44_3, hfz44_4, hfz44_5, hfz44_6, hfz44_7, hfz44_8⟩ := kc9_ BK171.out; have p176 : 0 ≤ (x13_1 : Int) := od_ (by first | (with_reducible assumption) | assumption); have q176 : x13_1 < (l1.length : Int) := od_ (by first | (with_reducible assumption) | assumption); obtain ⟨ad176, e176, hx176_0⟩ := Kd.at_bool HR1.out x13_1 p176 q176; (try rw [← Nbq9.out] at hx176_0); cases e176; replace hx176_0 := cx_ HB hx176_0; replace p176 := eq_true p176; replace q176 := eq_true q176; have p177 : 0 ≤ (0 : Int) := (by omega); have q177 : 0 < (l2.length : Int) := od_ (by first | (with_reducible assumption) | assumption); obtain ⟨ad177, e177, hx177_0, hx177_1, hx177_2, hx177_3, hx177_4, hx177_5, hx177_6, hx177_7, hx177_8⟩ := at_T34 HR2.out 0 p177 q177; (try rw [← Nbq9.out] at hx177_0); (try rw [← Nbq9.out] at hx177_1); obtain rfl : ad170 = ad177 := (by injection e177); have qi177 : (0 < l2.length) = True := eq_true (by omega); (try rw [show ((0 : Int)).toNat = 0 from rfl] at hx177_0); (try rw [show 0 * 9 = 0 from rfl] at hx177_0); (try rw [Addr.add_zero'] at hx177_0); (try rw [show ((0 : Int)).toNat = 0 from rfl] at hx177_1); (try rw [show 0 * 9 = 0 from rfl] at hx177_1); (try rw [Addr.add_zero'] at hx177_1); (try rw [show ((0 : Int)).toNat = 0 from rfl] at hx177_2); (try rw [show 0 * 9 = 0 from rfl] at hx177_2); (try rw [Addr.add_zero'] at hx177_2); (try rw [show ((0 : Int)).toNat = 0 from rfl] at hx177_3); (try rw [show 0 * 9 = 0 from rfl] at hx177_3); (try rw [Addr.add_zero'] at hx177_3); (try rw [show ((0 : Int)).toNat = 0 from rfl] at hx177_4); (try rw [show 0 * 9 = 0 from rfl] at hx177_4); (try rw [Addr.add_zero'] at hx177_4); (try rw [show ((0 : Int)).toNat = 0 from rfl] at hx177_5); (try rw [show 0 * 9 = 0 from rfl] at hx177_5); (try rw [Addr.add_zero'] at hx177_5); (try rw [show ((0 : Int)).toNat = 0 from rfl] at hx177_6); (try rw [show 0 * 9 = 0 from rfl] at hx177_6); (try rw [Addr.add_zero'] at hx177_6); (try rw [show ((0 : Int)).toNat = 0 from rfl] at hx177_7); (try rw [show 0 * 9 = 0 from rfl] at hx177_7); (try rw [Addr.add_zero'] at hx177_7); (try rw [show ((0 : Int)).toNat = 0 from rfl] at hx177_8); (try rw [show 0 * 9 = 0 from rfl] at hx177_8); (try rw [Addr.add_zero'] at hx177_8); replace hx177_0 := cx_ HB hx177_0; replace hx177_1 := cx_ HB hx177_1; replace hx177_2 := cx_ HB hx177_2; replace hx177_3 := cx_ HB hx177_3; replace hx177_4 := cx_ HB hx177_4; replace hx177_5 := cx_ HB hx177_5; replace hx177_6 := cx_ HB hx177_6; replace hx177_7 := cx_ HB hx177_7; replace hx177_8 := cx_ HB hx177_8; replace p177 := eq_true p177; replace q177 := eq_true q177)); try go_wp2_with (first | ((with_reducible refine gate_dst (N := 8) rfl ?_); refine bx_ 8 #[.bool false, .bool false, .int .u64 0, .int .u64 0, .int .u64 0, .int .u64 0, .int .u64 0, .int .u64 0, .int .i64 0] 34 ?_; intro gb171 hg w41 hbox hb; have BK171 := ak_ hbox; have GW171 := ak_ (gs_ hg HB); have GE171 := ak_ (gs_ hg HB); replace HB := ak_ (bt_ (bl_ HB) hb); clear hb hbox hg; obtain ⟨hcz42_0, hcz42_1, hcz42_2, hcz42_3, hcz42_4, hcz42_5, hcz42_6, hcz42_7, hcz42_8, hfz42_0, hfz42_1, hfz42_2, hfz42_3, hfz42_4, hfz42_5, hfz42_6, hfz42_7, hfz42_8⟩ := kc9_ BK171.out) | (go_at_call 58; (with_reducible refine (value_Check.calls k1 _ _ l0 false ((rd_T34 l2 x13_1).f1) ((rd_T34 l2 x13_1).f2.f0) ((rd_T34 l2 x13_1).f2.f1) ((rd_T34 l2 x13_1).f3.f0.f0) ((rd_T34 l2 x13_1).f3.f0.f1) ((rd_T34 l2 x13_1).f3.f1.f0) ((rd_T34 l2 x13_1).f3.f1.f1) ((rd_T34 l2 x13_1).f4) t172 _ ?side1 ?side2 A7.out).mono ?_); (case side1 => exact Kd.C_below HR0.out (bw1_ HB GE171)); (case side2 => exact HC0.out); rintro e w43 ⟨rfl, hb⟩; replace BK171 := ak_ (kb_ (g := gb171) (o := .cells #[.bool false, .bool ((rd_T34 l2 x13_1).f1), .int .u64 ((rd_T34 l2 x13_1).f2.f0), .int .u64 ((rd_T34 l2 x13_1).f2.f1), .int .u64 ((rd_T34 l2 x13_1).f3.f0.f0), .int .u64 ((rd_T34 l2 x13_1).f3.f0.f1), .int .u64 ((rd_T34 l2 x13_1).f3.f1.f0), .int .u64 ((rd_T34 l2 x13_1).f3.f1.f1), .int .i64 ((rd_T34 l2 x13_1).f4)] 34 (0, 0)) (by (with_reducible repeat (first | refine kn_ ?_ _ | refine kd_ ?_ | refine ka_ ?_ _)); exact sC_blk BK171.out rfl rfl) hb); replace HB := ak_ (bt_ (bw1_ HB GE171) hb); (try clear hb); (try clear hk); obtain ⟨hcz44_0, hcz44_1, hcz44_2, hcz44_3, hcz44_4, hcz44_5, hcz44_6, hcz44_7, hcz44_8, hfz44_0, hfz44_1, hfz44_2, hfz44_3, hfz44_4, hfz44_5, hfz44_6, hfz44_7, hfz44_8⟩ := kc9_ BK171.out; have p176 : 0 ≤ (x13_1 : Int) := od_ (by first | (with_reducible assumption) | assumption); have q176 : x13_1 < (l1.length : Int) := od_ (by first | (with_reducible assumption) | assumption); obtain ⟨ad176, e176, hx176_0⟩ := Kd.at_bool HR1.out x13_1 p176 q176; (try rw [← Nbq9.out] at hx176_0); cases e176; replace hx176_0 := cx_ HB hx176_0; replace p176 := eq_true p176; replace q176 := eq_true q176; have p177 : 0 ≤ (0 : Int) := (by omega); have q177 : 0 < (l2.length : Int) := od_ (by first | (with_reducible assumption) | assumption); obtain ⟨ad177, e177, hx177_0, hx177_1, hx177_2, hx177_3, hx177_4, hx177_5, hx177_6, hx177_7, hx177_8⟩ := at_T34 HR2.out 0 p177 q177; (try rw [← Nbq9.out] at hx177_0); (try rw [← Nbq9.out] at hx177_1); obtain rfl : ad170 = ad177 := (by injection e177); have qi177 : (0 < l2.length) = True := eq_true (by omega); (try rw [show ((0 : Int)).toNat = 0 from rfl] at hx177_0); (try rw [show 0 * 9 = 0 from rfl] at hx177_0); (try rw [Addr.add_zero'] at hx177_0); (try rw [show ((0 : Int)).toNat = 0 from rfl] at hx177_1); (try rw [show 0 * 9 = 0 from rfl] at hx177_1); (try rw [Addr.add_zero'] at hx177_1); (try rw [show ((0 : Int)).toNat = 0 from rfl] at hx177_2); (try rw [show 0 * 9 = 0 from rfl] at hx177_2); (try rw [Addr.add_zero'] at hx177_2); (try rw [show ((0 : Int)).toNat = 0 from rfl] at hx177_3); (try rw [show 0 * 9 = 0 from rfl] at hx177_3); (try rw [Addr.add_zero'] at hx177_3); (try rw [show ((0 : Int)).toNat = 0 from rfl] at hx177_4); (try rw [show 0 * 9 = 0 from rfl] at hx177_4); (try rw [Addr.add_zero'] at hx177_4); (try rw [show ((0 : Int)).toNat = 0 from rfl] at hx177_5); (try rw [show 0 * 9 = 0 from rfl] at hx177_5); (try rw [Addr.add_zero'] at hx177_5); (try rw [show ((0 : Int)).toNat = 0 from rfl] at hx177_6); (try rw [show 0 * 9 = 0 from rfl] at hx177_6); (try rw [Addr.add_zero'] at hx177_6); (try rw [show ((0 : Int)).toNat = 0 from rfl] at hx177_7); (try rw [show 0 * 9 = 0 from rfl] at hx177_7); (try rw [Addr.add_zero'] at hx177_7); (try rw [show ((0 : Int)).toNat = 0 from rfl] at hx177_8); (try rw [show 0 * 9 = 0 from rfl] at hx177_8); (try rw [Addr.add_zero'] at hx177_8); replace hx177_0 := cx_ HB hx177_0; replace hx177_1 := cx_ HB hx177_1; replace hx177_2 := cx_ HB hx177_2; replace hx177_3 := cx_ HB hx177_3; replace hx177_4 := cx_ HB hx177_4; replace hx177_5 := cx_ HB hx177_5; replace hx177_6 := cx_ HB hx177_6; replace hx177_7 := cx_ HB hx177_7; replace hx177_8 := cx_ HB hx177_8; replace p177 := eq_true p177; replace q177 := eq_true q177)))
             go_roundg k1
             case measure => have := HK1.out; omega
             case rel => exact ⟨(wrap64 (x13_1 + 1)), rf_, H', ⟨by have := HK1.out; omega⟩, ⟨bw1_ HB GE171⟩⟩
           ·rw [if_neg c35] at H
            exact absurd H (by simp)
         ·rw [if_neg c29] at H
          exact absurd H (by simp)
       ·rw [if_neg c8] at H
        have c8b0 : (t172 == 0) = false := beq_eq_false_iff_ne.mpr c8
        have c8b1 : (t172 != 0) = true := bne_iff_ne.mpr c8
        obtain rfl := Option.some.inj H
        have p170 : 0 ≤ (x13_1 : Int) := od_ (by first | (with_reducible assumption) | assumption)
        have q170 : x13_1 < (l2.length : Int) := od_ (by first | (with_reducible assumption) | assumption)
        obtain ⟨ad170, e170, hx170_0, hx170_1, hx170_2, hx170_3, hx170_4, hx170_5, hx170_6, hx170_7, hx170_8⟩ := at_T34 HR2.out x13_1 p170 q170
        cases e170
        replace hx170_0 := cx_ HB hx170_0
        replace hx170_1 := cx_ HB hx170_1
        replace hx170_2 := cx_ HB hx170_2
        replace hx170_3 := cx_ HB hx170_3
        replace hx170_4 := cx_ HB hx170_4
        replace hx170_5 := cx_ HB hx170_5
        replace hx170_6 := cx_ HB hx170_6
        replace hx170_7 := cx_ HB hx170_7
        replace hx170_8 := cx_ HB hx170_8
        replace p170 := eq_true p170
        replace q170 := eq_true q170
        go_wp2_with (first | ((with_reducible refine gate_dst (N := 8) rfl ?_); refine bx_ 8 #[.bool false, .bool false, .int .u64 0, .int .u64 0, .int .u64 0, .int .u64 0, .int .u64 0, .int .u64 0, .int .i64 0] 34 ?_; intro gb171 hg w45 hbox hb; have BK171 := ak_ hbox; have GW171 := ak_ (gs_ hg HB); have GE171 := ak_ (gs_ hg HB); replace HB := ak_ (bt_ (bl_ HB) hb); clear hb hbox hg; obtain ⟨hcz46_0, hcz46_1, hcz46_2, hcz46_3, hcz46_4, hcz46_5, hcz46_6, hcz46_7, hcz46_8, hfz46_0, hfz46_1, hfz46_2, hfz46_3, hfz46_4, hfz46_5, hfz46_6, hfz46_7, hfz46_8⟩ := kc9_ BK171.out) | (go_at_call 58; (with_reducible refine (value_Check.calls k1 _ _ l0 ((rd_T34 l2 x13_1).f0) ((rd_T34 l2 x13_1).f1) ((rd_T34 l2 x13_1).f2.f0) ((rd_T34 l2 x13_1).f2.f1) ((rd_T34 l2 x13_1).f3.f0.f0) ((rd_T34 l2 x13_1).f3.f0.f1) ((rd_T34 l2 x13_1).f3.f1.f0) ((rd_T34 l2 x13_1).f3.f1.f1) ((rd_T34 l2 x13_1).f4) t172 _ ?side1 ?side2 A7.out).mono ?_); (case side1 => exact Kd.C_below HR0.out (bw1_ HB GE171)); (case side2 => exact HC0.out); rintro e w47 ⟨rfl, hb⟩; replace BK171 := ak_ (kb_ (g := gb171) (o := .cells #[.bool ((rd_T34 l2 x13_1).f0), .bool ((rd_T34 l2 x13_1).f1), .int .u64 ((rd_T34 l2 x13_1).f2.f0), .int .u64 ((rd_T34 l2 x13_1).f2.f1), .int .u64 ((rd_T34 l2 x13_1).f3.f0.f0), .int .u64 ((rd_T34 l2 x13_1).f3.f0.f1), .int .u64 ((rd_T34 l2 x13_1).f3.f1.f0), .int .u64 ((rd_T34 l2 x13_1).f3.f1.f1), .int .i64 ((rd_T34 l2 x13_1).f4)] 34 (0, 0)) (by (with_reducible repeat (first | refine kn_ ?_ _ | refine kd_ ?_ | refine ka_ ?_ _)); exact sC_blk BK171.out rfl rfl) hb); replace HB := ak_ (bt_ (bw1_ HB GE171) hb); (try clear hb); (try clear hk)))
        repeat (go_quiet (first | ((with_reducible refine gate_dst (N := 8) rfl ?_); refine bx_ 8 #[.bool false, .bool false, .int .u64 0, .int .u64 0, .int .u64 0, .int .u64 0, .int .u64 0, .int .u64 0, .int .i64 0] 34 ?_; intro gb171 hg w45 hbox hb; have BK171 := ak_ hbox; have GW171 := ak_ (gs_ hg HB); have GE171 := ak_ (gs_ hg HB); replace HB := ak_ (bt_ (bl_ HB) hb); clear hb hbox hg; obtain ⟨hcz46_0, hcz46_1, hcz46_2, hcz46_3, hcz46_4, hcz46_5, hcz46_6, hcz46_7, hcz46_8, hfz46_0, hfz46_1, hfz46_2, hfz46_3, hfz46_4, hfz46_5, hfz46_6, hfz46_7, hfz46_8⟩ := kc9_ BK171.out) | (go_at_call 58; (with_reducible refine (value_Check.calls k1 _ _ l0 ((rd_T34 l2 x13_1).f0) ((rd_T34 l2 x13_1).f1) ((rd_T34 l2 x13_1).f2.f0) ((rd_T34 l2 x13_1).f2.f1) ((rd_T34 l2 x13_1).f3.f0.f0) ((rd_T34 l2 x13_1).f3.f0.f1) ((rd_T34 l2 x13_1).f3.f1.f0) ((rd_T34 l2 x13_1).f3.f1.f1) ((rd_T34 l2 x13_1).f4) t172 _ ?side1 ?side2 A7.out).mono ?_); (case side1 => exact Kd.C_below HR0.out (bw1_ HB GE171)); (case side2 => exact HC0.out); rintro e w47 ⟨rfl, hb⟩; replace BK171 := ak_ (kb_ (g := gb171) (o := .cells #[.bool ((rd_T34 l2 x13_1).f0), .bool ((rd_T34 l2 x13_1).f1), .int .u64 ((rd_T34 l2 x13_1).f2.f0), .int .u64 ((rd_T34 l2 x13_1).f2.f1), .int .u64 ((rd_T34 l2 x13_1).f3.f0.f0), .int .u64 ((rd_T34 l2 x13_1).f3.f0.f1), .int .u64 ((rd_T34 l2 x13_1).f3.f1.f0), .int .u64 ((rd_T34 l2 x13_1).f3.f1.f1), .int .i64 ((rd_T34 l2 x13_1).f4)] 34 (0, 0)) (by (with_reducible repeat (first | refine kn_ ?_ _ | refine kd_ ?_ | refine ka_ ?_ _)); exact sC_blk BK171.out rfl rfl) hb); replace HB := ak_ (bt_ (bw1_ HB GE171) hb); (try clear hb); (try clear hk))); try go_wp2_with (first | ((with_reducible refine gate_dst (N := 8) rfl ?_); refine bx_ 8 #[.bool false, .bool false, .int .u64 0, .int .u64 0, .int .u64 0, .int .u64 0, .int .u64 0, .int .u64 0, .int .i64 0] 34 ?_; intro gb171 hg w45 hbox hb; have BK171 := ak_ hbox; have GW171 := ak_ (gs_ hg HB); have GE171 := ak_ (gs_ hg HB); replace HB := ak_ (bt_ (bl_ HB) hb); clear hb hbox hg; obtain ⟨hcz46_0, hcz46_1, hcz46_2, hcz46_3, hcz46_4, hcz46_5, hcz46_6, hcz46_7, hcz46_8, hfz46_0, hfz46_1, hfz46_2, hfz46_3, hfz46_4, hfz46_5, hfz46_6, hfz46_7, hfz46_8⟩ := kc9_ BK171.out) | (go_at_call 58; (with_reducible refine (value_Check.calls k1 _ _ l0 ((rd_T34 l2 x13_1).f0) ((rd_T34 l2 x13_1).f1) ((rd_T34 l2 x13_1).f2.f0) ((rd_T34 l2 x13_1).f2.f1) ((rd_T34 l2 x13_1).f3.f0.f0) ((rd_T34 l2 x13_1).f3.f0.f1) ((rd_T34 l2 x13_1).f3.f1.f0) ((rd_T34 l2 x13_1).f3.f1.f1) ((rd_T34 l2 x13_1).f4) t172 _ ?side1 ?side2 A7.out).mono ?_); (case side1 => exact Kd.C_below HR0.out (bw1_ HB GE171)); (case side2 => exact HC0.out); rintro e w47 ⟨rfl, hb⟩; replace BK171 := ak_ (kb_ (g := gb171) (o := .cells #[.bool ((rd_T34 l2 x13_1).f0), .bool ((rd_T34 l2 x13_1).f1), .int .u64 ((rd_T34 l2 x13_1).f2.f0), .int .u64 ((rd_T34 l2 x13_1).f2.f1), .int .u64 ((rd_T34 l2 x13_1).f3.f0.f0), .int .u64 ((rd_T34 l2 x13_1).f3.f0.f1), .int .u64 ((rd_T34 l2 x13_1).f3.f1.f0), .int .u64 ((rd_T34 l2 x13_1).f3.f1.f1), .int .i64 ((rd_T34 l2 x13_1).f4)] 34 (0, 0)) (by (with_reducible repeat (first | refine kn_ ?_ _ | refine kd_ ?_ | refine ka_ ?_ _)); exact sC_blk BK171.out rfl rfl) hb); replace HB := ak_ (bt_ (bw1_ HB GE171) hb); (try clear hb); (try clear hk))))
        go_ret
        exact ea_ (bw1_ HB GE171)
      ·rw [if_neg c6] at H
       exact absurd H (by simp)
     ·rw [if_neg c5] at H
      exact absurd H (by simp)
    ·rw [if_neg c4] at H
     have c4b0 := decide_eq_false c4
     clear c4
     obtain rfl := Option.some.inj H
     go_wp2
     repeat (go_quiet (fail); try go_wp2)
     go_ret
     exact ea_ (bl_ HB)
def tfind (l : List S45) (t : S45) : Int × Int := if tok l then (if tmay t (l.length : Int) = true then (match tpos l t with | none => (0, 4) | some i => (i, 0)) else (0, 1)) else (0, 1)
def term_Find.f (l0 : List S45) (a1_0 : Int) (a1_1 : Int) (a1_2 : Int) : Option (Int × Int) := if (∀ t ∈ l0, TmWf t) ∧ TmWf ⟨a1_0, a1_1, a1_2⟩ then some (tfind l0 ⟨a1_0, a1_1, a1_2⟩) else none
set_option maxHeartbeats 4000000 in
set_option maxRecDepth 100000 in
theorem tm_Find.calls (A : Option Addr) (c : Nat) (l : List S45) (t : S45) (w : World) (hr : Kd.C k45 w A l.length l) (hw : ∀ t ∈ l, TmWf t) (ht : TmWf t) :
   Calls Try.prog 115 #[.slice A l.length c, .agg #[.int .i64 t.f0, .int .i64 t.f1, .int .i64 t.f2]] w fun e w' => e = .returned (.tuple #[.int .i64 (tfind l t).1, .int .i64 (tfind l t).2]) ∧ Below w.heap.size w w' := by
  have hu_t := underlying45
  have HR := ak_ hr
  have HW := ak_ hw
  have HT := ak_ ht
  have HB := ak_ (Below.refl w.heap.size w)
  clear hr hw ht
  unfold tfind
  by_cases hk : tok l
  ·rw [if_pos hk]
   have HK := ak_ hk
   clear hk
   cases hmay : tmay t (l.length : Int) with
   | false =>
    have HMY := ak_ hmay
    clear hmay
    rw [if_neg (by simp)]
    go_enter func115, ntmps115
    go_wp2_with (first | ((with_reducible refine gate_dst (N := 3) rfl ?_); refine bx_ 3 #[.int .i64 t.f0, .int .i64 t.f1, .int .i64 t.f2] 45 ?_; intro g1 hgs w1 hbox hb; replace HB := ak_ (bt_ HB.out hb); clear hb hgs; have B1 := ak_ hbox; clear hbox) | (go_at_call 57; refine (tm_index_ok A c l _ (Kd.C_below HR.out HB.out) HW.out HK.out).mono ?_; rintro e w2 ⟨g, n, rfl, hm, hb⟩; have m0_ := ak_ (bt_ HB.out hb); have m1_ := ak_ (kb_ B1.out hb); clear HB B1; have HB := m0_; have B1 := m1_; have HM := ak_ hm; clear m0_ m1_ hb hm; have hz0 : w2.cell? ⟨g1, 0, none⟩ = some (.int .i64 t.f0) := (kc_ B1.out 0).trans rfl; have hz1 : w2.cell? ⟨g1, 1, none⟩ = some (.int .i64 t.f1) := (kc_ B1.out 1).trans rfl; have hz2 : w2.cell? ⟨g1, 2, none⟩ = some (.int .i64 t.f2) := (kc_ B1.out 2).trans rfl) | (go_at_call 82; refine (tm_may.calls t (l.length : Int) _).mono ?_; rw [HMY.out]; rintro e w3 ⟨rfl, hb⟩; have m0_ := ak_ (bt_ HB.out hb); have m1_ := ak_ (kb_ B1.out hb); have hl := (HM.out.below hb).run HT.out; clear HB B1 HM hz0 hz1 hz2; have HB := m0_; have B1 := m1_; clear m0_ m1_ hb; have hz0 : w3.cell? ⟨g1, 0, none⟩ = some (.int .i64 t.f0) := (kc_ B1.out 0).trans rfl; have hz1 : w3.cell? ⟨g1, 1, none⟩ = some (.int .i64 t.f1) := (kc_ B1.out 1).trans rfl; have hz2 : w3.cell? ⟨g1, 2, none⟩ = some (.int .i64 t.f2) := (kc_ B1.out 2).trans rfl))
    go_ret2
    exact ⟨rfl, HB.out⟩
   | true =>
    have HMY := ak_ hmay
    clear hmay
    rw [if_pos rfl]
    cases hp : tpos l t with
    | none =>
     have HP := ak_ hp
     clear hp
     go_enter func115, ntmps115
     go_wp2_with (first | ((with_reducible refine gate_dst (N := 3) rfl ?_); refine bx_ 3 #[.int .i64 t.f0, .int .i64 t.f1, .int .i64 t.f2] 45 ?_; intro g1 hgs w1 hbox hb; replace HB := ak_ (bt_ HB.out hb); clear hb hgs; have B1 := ak_ hbox; clear hbox) | (go_at_call 57; refine (tm_index_ok A c l _ (Kd.C_below HR.out HB.out) HW.out HK.out).mono ?_; rintro e w2 ⟨g, n, rfl, hm, hb⟩; have m0_ := ak_ (bt_ HB.out hb); have m1_ := ak_ (kb_ B1.out hb); clear HB B1; have HB := m0_; have B1 := m1_; have HM := ak_ hm; clear m0_ m1_ hb hm; have hz0 : w2.cell? ⟨g1, 0, none⟩ = some (.int .i64 t.f0) := (kc_ B1.out 0).trans rfl; have hz1 : w2.cell? ⟨g1, 1, none⟩ = some (.int .i64 t.f1) := (kc_ B1.out 1).trans rfl; have hz2 : w2.cell? ⟨g1, 2, none⟩ = some (.int .i64 t.f2) := (kc_ B1.out 2).trans rfl) | (go_at_call 82; refine (tm_may.calls t (l.length : Int) _).mono ?_; rw [HMY.out]; rintro e w3 ⟨rfl, hb⟩; have m0_ := ak_ (bt_ HB.out hb); have m1_ := ak_ (kb_ B1.out hb); have hl := (HM.out.below hb).run HT.out; clear HB B1 HM hz0 hz1 hz2; have HB := m0_; have B1 := m1_; clear m0_ m1_ hb; have hz0 : w3.cell? ⟨g1, 0, none⟩ = some (.int .i64 t.f0) := (kc_ B1.out 0).trans rfl; have hz1 : w3.cell? ⟨g1, 1, none⟩ = some (.int .i64 t.f1) := (kc_ B1.out 1).trans rfl; have hz2 : w3.cell? ⟨g1, 2, none⟩ = some (.int .i64 t.f2) := (kc_ B1.out 2).trans rfl; rw [HP.out] at hl))
     go_ret2
     exact ⟨rfl, HB.out⟩
    | some i =>
     have HP := ak_ hp
     clear hp
     go_enter func115, ntmps115
     go_wp2_with (first | ((with_reducible refine gate_dst (N := 3) rfl ?_); refine bx_ 3 #[.int .i64 t.f0, .int .i64 t.f1, .int .i64 t.f2] 45 ?_; intro g1 hgs w1 hbox hb; replace HB := ak_ (bt_ HB.out hb); clear hb hgs; have B1 := ak_ hbox; clear hbox) | (go_at_call 57; refine (tm_index_ok A c l _ (Kd.C_below HR.out HB.out) HW.out HK.out).mono ?_; rintro e w2 ⟨g, n, rfl, hm, hb⟩; have m0_ := ak_ (bt_ HB.out hb); have m1_ := ak_ (kb_ B1.out hb); clear HB B1; have HB := m0_; have B1 := m1_; have HM := ak_ hm; clear m0_ m1_ hb hm; have hz0 : w2.cell? ⟨g1, 0, none⟩ = some (.int .i64 t.f0) := (kc_ B1.out 0).trans rfl; have hz1 : w2.cell? ⟨g1, 1, none⟩ = some (.int .i64 t.f1) := (kc_ B1.out 1).trans rfl; have hz2 : w2.cell? ⟨g1, 2, none⟩ = some (.int .i64 t.f2) := (kc_ B1.out 2).trans rfl) | (go_at_call 82; refine (tm_may.calls t (l.length : Int) _).mono ?_; rw [HMY.out]; rintro e w3 ⟨rfl, hb⟩; have m0_ := ak_ (bt_ HB.out hb); have m1_ := ak_ (kb_ B1.out hb); have hl := (HM.out.below hb).run HT.out; clear HB B1 HM hz0 hz1 hz2; have HB := m0_; have B1 := m1_; clear m0_ m1_ hb; have hz0 : w3.cell? ⟨g1, 0, none⟩ = some (.int .i64 t.f0) := (kc_ B1.out 0).trans rfl; have hz1 : w3.cell? ⟨g1, 1, none⟩ = some (.int .i64 t.f1) := (kc_ B1.out 1).trans rfl; have hz2 : w3.cell? ⟨g1, 2, none⟩ = some (.int .i64 t.f2) := (kc_ B1.out 2).trans rfl; rw [HP.out] at hl))
     go_ret2
     exact ⟨rfl, HB.out⟩
  ·rw [if_neg hk]
   have HK := ak_ hk
   clear hk
   go_enter func115, ntmps115
   go_wp2_with (first | ((with_reducible refine gate_dst (N := 3) rfl ?_); refine bx_ 3 #[.int .i64 t.f0, .int .i64 t.f1, .int .i64 t.f2] 45 ?_; intro g1 hgs w1 hbox hb; replace HB := ak_ (bt_ HB.out hb); clear hb hgs; have B1 := ak_ hbox; clear hbox) | (go_at_call 57; refine (tm_index_no A c l _ (Kd.C_below HR.out HB.out) HW.out HK.out).mono ?_; rintro e w2 ⟨rfl, hb⟩; have m0_ := ak_ (bt_ HB.out hb); clear HB; have HB := m0_; clear m0_ hb))
   go_ret2
   exact ⟨rfl, HB.out⟩
theorem term_Find.calls (A0 : Option Addr) (c0 : Nat) (l0 : List S45) (a1_0 : Int) (a1_1 : Int) (a1_2 : Int) (r1 : Int) (r2 : Int) (w : World) (hr0 : Kd.C k45 w A0 l0.length l0) (hc0 : l0.length ≤ c0) (h : term_Find.f l0 a1_0 a1_1 a1_2 = some (r1, r2)) :
   Calls Try.prog 115 #[.slice A0 l0.length c0, .agg #[.int .i64 a1_0, .int .i64 a1_1, .int .i64 a1_2]] w fun e w' => e = .returned (.tuple #[.int .i64 r1, .int .i64 r2]) ∧ Below w.heap.size w w' := by
  unfold term_Find.f at h
  by_cases hw : (∀ t ∈ l0, TmWf t) ∧ TmWf ⟨a1_0, a1_1, a1_2⟩
  ·rw [if_pos hw] at h
   have h2 := Option.some.inj h
   have := tm_Find.calls A0 c0 l0 ⟨a1_0, a1_1, a1_2⟩ w hr0 hw.1 hw.2
   rw [h2] at this
   exact this
  ·rw [if_neg hw] at h
   exact absurd h (by simp)
def term_Make.f (l0 : List (S45)) (a1_0 : Int) (a1_1 : Int) (a1_2 : Int) : Option (Int × (List (S45)) × Int) := (term_Find.f l0 a1_0 a1_1 a1_2).bind fun bt179 => (if bt179.2 = 0 then ((api_Term.f l0).bind fun t181 => (some (bt179.1, t181, 0))) else (if bt179.2 = 4 then (if (l0.length : Int) = 65536 then (some (0, ([] : List (S45)), 6)) else ((api_Term.f l0).bind fun t184 => ((some (([(⟨a1_0, a1_1, a1_2⟩ : S45)] : List (S45)) : List (S45))).bind fun y187 => (if t184.length + y187.length < 5864062014805 then (some ((l0.length : Int), (t184 ++ y187), 0)) else (none))))) else (some (0, ([] : List (S45)), bt179.2))))
def term_Make.T8 : Bool × List (List Nat × List Nat) := (true, [([], []), ([0], [0]), ([], []), ([2], [2]), ([], []), ([4], [4]), ([3, 5, 3], [3, 5]), ([1, 6, 0, 1], [1]), ([6, 7, 0, 1, 2, 3, 4, 5, 6, 7], [6]), ([8, 0, 1, 2, 3, 4, 5, 6, 7, 8], [])])
def term_Make.B8 : List Nat := [0, 1, 0, 4, 0, 16, 60, 127, 255, 511]
theorem term_Make.tab8 : rtab .any (opsOf Try.f110 8) = term_Make.T8 := by kernel_rfl
theorem term_Make.bits8 : waitsOk term_Make.T8.2 term_Make.B8 = true := by kernel_rfl
set_option maxHeartbeats 8000000 in
set_option maxRecDepth 100000 in
theorem term_Make.calls (A0 : Option Addr) (c0 : Nat) (l0 : List (S45)) (a1_0 : Int) (a1_1 : Int) (a1_2 : Int) (r1 : Int) (r2 : List (S45)) (r3 : Int) (w : World) (hr0 : Kd.C k45 w A0 l0.length l0) (hc0 : l0.length ≤ c0) (h : term_Make.f l0 a1_0 a1_1 a1_2 = some (r1, r2, r3)) :
   Calls Try.prog 110 #[.slice A0 l0.length c0, .agg #[.int .i64 a1_0, .int .i64 a1_1, .int .i64 a1_2]] w fun e w' => ∃ v1_ : Value, e = .returned (.tuple #[.int .i64 r1, v1_, .int .i64 r3]) ∧ Kd.R k45 45 w' w.heap.size (fun _ => True) v1_ r2 ∧ Below w.heap.size w w' := by
  have hu45 := underlying45
  have HR0 := ak_ hr0
  have HC0 := ak_ hc0
  clear hr0 hc0
  have HB := ak_ (Below.refl w.heap.size w)
  have H : ((term_Find.f l0 a1_0 a1_1 a1_2).bind fun bt179 => (if bt179.2 = 0 then ((api_Term.f l0).bind fun t181 => (some (bt179.1, t181, 0))) else (if bt179.2 = 4 then (if (l0.length : Int) = 65536 then (some (0, ([] : List (S45)), 6)) else ((api_Term.f l0).bind fun t184 => ((some (([(⟨a1_0, a1_1, a1_2⟩ : S45)] : List (S45)) : List (S45))).bind fun y187 => (if t184.length + y187.length < 5864062014805 then (some ((l0.length : Int), (t184 ++ y187), 0)) else (none))))) else (some (0, ([] : List (S45)), bt179.2))))) = some (r1, r2, r3) := h
  clear h
  replace H := bind_eq_some_iff.mp H
  obtain ⟨⟨t179, t180⟩, A30, H⟩ := H
  replace H : (if t180 = 0 then ((api_Term.f l0).bind fun t181 => (some (t179, t181, 0))) else (if t180 = 4 then (if (l0.length : Int) = 65536 then (some (0, ([] : List (S45)), 6)) else ((api_Term.f l0).bind fun t184 => ((some (([(⟨a1_0, a1_1, a1_2⟩ : S45)] : List (S45)) : List (S45))).bind fun y187 => (if t184.length + y187.length < 5864062014805 then (some ((l0.length : Int), (t184 ++ y187), 0)) else (none))))) else (some (0, ([] : List (S45)), t180)))) = some (r1, r2, r3) := H
  have A3 := ak_ A30
  clear A30
  by_cases c4 : t180 = 0
  ·rw [if_pos c4] at H
   have c4b0 : (t180 == 0) = true := beq_iff_eq.mpr c4
   have c4b1 : (t180 != 0) = false := bne_eq_false_iff_eq.mpr c4
   clear c4
   replace H := bind_eq_some_iff.mp H
   obtain ⟨t181, A50, H⟩ := H
   replace H : (some (t179, t181, 0)) = some (r1, r2, r3) := H
   have A5 := ak_ A50
   clear A50
   simp only [some.injEq, Prod.mk.injEq] at H
   obtain ⟨rfl, rfl, rfl⟩ := H
   go_enter func110, ntmps110
   go_wp2_with (first | ((with_reducible refine gate_dst (N := 3) rfl ?_); refine bx_ 3 #[.int .i64 a1_0, .int .i64 a1_1, .int .i64 a1_2] 45 ?_; intro gb178 hg w6 hbox hb; have BK178 := ak_ hbox; have GW178 := ak_ (gs_ hg HB); have GE178 := ak_ (gs_ hg HB); replace HB := ak_ (bt_ (bl_ HB) hb); clear hb hbox hg; obtain ⟨hcz7_0, hcz7_1, hcz7_2, hfz7_0, hfz7_1, hfz7_2⟩ := kc3_ BK178.out) | ((with_reducible refine gate_callee (f := 115) rfl ?_); refine gl_ (some 12) func115 #[.slice A0 l0.length c0, .agg #[.int .i64 a1_0, .int .i64 a1_1, .int .i64 a1_2]] ?_; (with_reducible refine (term_Find.calls _ _ l0 a1_0 a1_1 a1_2 t179 t180 _ ?side1 ?side2 A3.out).mono ?_); (case side1 => repeat (first | exact (Kd.C_below HR0.out HB.out) | (with_reducible refine Kd.C_alloc ?_ _) | (with_reducible refine Kd.C_drewN ?_ _) | (with_reducible refine Kd.C_drew ?_))); (case side2 => exact HC0.out); rintro e w8 ⟨rfl, hb⟩; refine ⟨_, rfl, ?_⟩; replace BK178 := ak_ (kb_ (kl_ BK178) hb); replace HB := ak_ (bt_ (bw1_ HB GE178) hb); (try clear hb); (try clear hk)) | ((with_reducible refine gate_callee (f := 76) rfl ?_); refine gl_ (some 20) func76 #[.slice A0 l0.length c0] ?_; (with_reducible refine (api_Term.calls _ _ l0 t181 _ ?side1 ?side2 A5.out).mono ?_); (case side1 => repeat (first | exact (Kd.C_below HR0.out HB.out) | (with_reducible refine Kd.C_alloc ?_ _) | (with_reducible refine Kd.C_drewN ?_ _) | (with_reducible refine Kd.C_drew ?_))); (case side2 => exact HC0.out); rintro e w9 ⟨v182, rfl, ho0, hb⟩; refine ⟨_, rfl, ?_⟩; have HO183 := ak_ (Kd.R_lower (Kd.R_newB ho0 (g := gb178) (o := .cells #[.int .i64 a1_0, .int .i64 a1_1, .int .i64 a1_2] 45 (0, 0)) (kl_ BK178)) (bz_ (bw1_ HB GE178))); replace BK178 := ak_ (kb_ (kl_ BK178) hb); replace HB := ak_ (bt_ (bw1_ HB GE178) hb); (try clear hb); (try clear hk); (try clear ho0)))
   go_ret3
   exact ⟨_, by first | rfl | (simp <;> rfl) | (simp [*] <;> rfl), by (with_reducible repeat (first | apply Kd.R_alloc | apply Kd.R_drewN | apply Kd.R_drew)); exact Kd.R_mono HO183.out (fun _ hk => trivial), bw1_ HB GE178⟩
  ·rw [if_neg c4] at H
   have c4b0 : (t180 == 0) = false := beq_eq_false_iff_ne.mpr c4
   have c4b1 : (t180 != 0) = true := bne_iff_ne.mpr c4
   by_cases c10 : t180 = 4
   ·rw [if_pos c10] at H
    have c10b0 : (t180 == 4) = true := beq_iff_eq.mpr c10
    have c10b1 : (t180 != 4) = false := bne_eq_false_iff_eq.mpr c10
    clear c10
    by_cases c11 : (l0.length : Int) = 65536
    ·rw [if_pos c11] at H
     have c11b0 : ((l0.length : Int) == 65536) = true := beq_iff_eq.mpr c11
     have c11b1 : ((l0.length : Int) != 65536) = false := bne_eq_false_iff_eq.mpr c11
     clear c11
     simp only [some.injEq, Prod.mk.injEq] at H
     obtain ⟨rfl, rfl, rfl⟩ := H
     go_enter func110, ntmps110
     go_wp2_with (first | ((with_reducible refine gate_dst (N := 3) rfl ?_); refine bx_ 3 #[.int .i64 a1_0, .int .i64 a1_1, .int .i64 a1_2] 45 ?_; intro gb178 hg w12 hbox hb; have BK178 := ak_ hbox; have GW178 := ak_ (gs_ hg HB); have GE178 := ak_ (gs_ hg HB); replace HB := ak_ (bt_ (bl_ HB) hb); clear hb hbox hg; obtain ⟨hcz13_0, hcz13_1, hcz13_2, hfz13_0, hfz13_1, hfz13_2⟩ := kc3_ BK178.out) | ((with_reducible refine gate_callee (f := 115) rfl ?_); refine gl_ (some 12) func115 #[.slice A0 l0.length c0, .agg #[.int .i64 a1_0, .int .i64 a1_1, .int .i64 a1_2]] ?_; (with_reducible refine (term_Find.calls _ _ l0 a1_0 a1_1 a1_2 t179 t180 _ ?side1 ?side2 A3.out).mono ?_); (case side1 => repeat (first | exact (Kd.C_below HR0.out HB.out) | (with_reducible refine Kd.C_alloc ?_ _) | (with_reducible refine Kd.C_drewN ?_ _) | (with_reducible refine Kd.C_drew ?_))); (case side2 => exact HC0.out); rintro e w14 ⟨rfl, hb⟩; refine ⟨_, rfl, ?_⟩; replace BK178 := ak_ (kb_ (kl_ BK178) hb); replace HB := ak_ (bt_ (bw1_ HB GE178) hb); (try clear hb); (try clear hk)))
     go_ret3
     exact ⟨_, by first | rfl | (simp <;> rfl) | (simp [*] <;> rfl), by first | exact Kd.R_nil _ _ _ _ _ | exact Kd.N_nil _ _ _ _ _ | exact Kd.V_nil _ _ _ _ _ | exact Kd.Q_nil _ _ _ _ _ | exact Kd.S_nil _ _ _ _ _, bw1_ HB GE178⟩
    ·rw [if_neg c11] at H
     have c11b0 : ((l0.length : Int) == 65536) = false := beq_eq_false_iff_ne.mpr c11
     have c11b1 : ((l0.length : Int) != 65536) = true := bne_iff_ne.mpr c11
     replace H := bind_eq_some_iff.mp H
     obtain ⟨t184, A150, H⟩ := H
     replace H : ((some (([(⟨a1_0, a1_1, a1_2⟩ : S45)] : List (S45)) : List (S45))).bind fun y187 => (if t184.length + y187.length < 5864062014805 then (some ((l0.length : Int), (t184 ++ y187), 0)) else (none))) = some (r1, r2, r3) := H
     have A15 := ak_ A150
     clear A150
     obtain ⟨y187, hy187⟩ : ∃ y_ : List (S45), y_ = (([(⟨a1_0, a1_1, a1_2⟩ : S45)] : List (S45))) := ⟨_, rfl⟩
     replace H : (if t184.length + y187.length < 5864062014805 then (some ((l0.length : Int), (t184 ++ y187), 0)) else (none)) = some (r1, r2, r3) := by first | (rw [hy187]; with_reducible exact H) | (have H2_ := (Option.bind_some _ _).symm.trans H; rw [hy187]; with_reducible exact H2_) | (have H2_ := (Option.bind_some _ _).symm.trans H; with_reducible exact H2_) | with_reducible exact H | (rw [hy187]; exact H) | exact H
     have Ny187 := ak_ hy187
     clear hy187
     by_cases c16 : t184.length + y187.length < 5864062014805
     ·rw [if_pos c16] at H
      have LMc16 := ak_ c16
      clear c16
      obtain ⟨y190, hy190⟩ : ∃ y_ : List (S45), y_ = (t184 ++ y187) := ⟨_, rfl⟩
      replace H : (some ((l0.length : Int), y190, 0)) = some (r1, r2, r3) := by first | (rw [hy190]; with_reducible exact H) | (have H2_ := (Option.bind_some _ _).symm.trans H; rw [hy190]; with_reducible exact H2_) | (have H2_ := (Option.bind_some _ _).symm.trans H; with_reducible exact H2_) | with_reducible exact H | (rw [hy190]; exact H) | exact H
      have Ny190 := ak_ hy190
      clear hy190
      simp only [some.injEq, Prod.mk.injEq] at H
      obtain ⟨rfl, rfl, rfl⟩ := H
      go_enter func110, ntmps110
      try go_wp2_with (first | ((with_reducible refine gate_dst (N := 3) rfl ?_); refine bx_ 3 #[.int .i64 a1_0, .int .i64 a1_1, .int .i64 a1_2] 45 ?_; intro gb178 hg w17 hbox hb; have BK178 := ak_ hbox; have GW178 := ak_ (gs_ hg HB); have GE178 := ak_ (gs_ hg HB); replace HB := ak_ (bt_ (bl_ HB) hb); clear hb hbox hg; obtain ⟨hcz18_0, hcz18_1, hcz18_2, hfz18_0, hfz18_1, hfz18_2⟩ := kc3_ BK178.out) | ((with_reducible refine gate_callee (f := 115) rfl ?_); refine gl_ (some 12) func115 #[.slice A0 l0.length c0, .agg #[.int .i64 a1_0, .int .i64 a1_1, .int .i64 a1_2]] ?_; (with_reducible refine (term_Find.calls _ _ l0 a1_0 a1_1 a1_2 t179 t180 _ ?side1 ?side2 A3.out).mono ?_); (case side1 => repeat (first | exact (Kd.C_below HR0.out HB.out) | (with_reducible refine Kd.C_alloc ?_ _) | (with_reducible refine Kd.C_drewN ?_ _) | (with_reducible refine Kd.C_drew ?_))); (case side2 => exact HC0.out); rintro e w19 ⟨rfl, hb⟩; refine ⟨_, rfl, ?_⟩; replace BK178 := ak_ (kb_ (kl_ BK178) hb); replace HB := ak_ (bt_ (bw1_ HB GE178) hb); (try clear hb); (try clear hk)))
      replace BK178 := ak_ (kd_ BK178.out)
      replace HB := ak_ (bd_ HB.out)
      refine start_ (n := 10) (S := fun w' => w'.cell? ⟨gb178, 0, none⟩ = some (.int .i64 a1_0) ∧ w'.cell? ⟨gb178, 1, none⟩ = some (.int .i64 a1_1) ∧ w'.cell? ⟨gb178, 2, none⟩ = some (.int .i64 a1_2)) (ds := []) #[false, false, false, false, false, false, false, false, false, false] (by kernel_rfl) rfl rfl ⟨kq_ BK178.out 0 rfl, kq_ BK178.out 1 rfl, kq_ BK178.out 2 rfl⟩ (fun hHeld => ?_); refine with_tabW term_Make.tab8 term_Make.bits8 (fun HT_ HW_ => ?_)
      generalize w19.drew = w20 at BK178 HB hHeld ⊢
      refine pu_ HT_ 0 (some 29) #[true, false, false, false, false, false, false, false, false, false] ?_
      refine pu_ HT_ 1 (some 30) #[true, true, false, false, false, false, false, false, false, false] ?_
      refine pu_ HT_ 2 (some 31) #[true, true, true, false, false, false, false, false, false, false] ?_
      refine tk_ HT_ HW_ hHeld 4 (some 33) #[true, true, true, false, true, false, false, false, false, false] rfl (by rintro w' ⟨s0, s1, s2⟩; go_simp; with_reducible rfl) ?_
      refine join_ (σ := Value × Value) 4 #[true, true, true, true, true, true, false, false, false, false] (fun s_ => [(32, s_.1), (34, s_.2)]) (fun s_ w' => (w'.cell? ⟨gb178, 0, none⟩ = some (.int .i64 a1_0) ∧ w'.cell? ⟨gb178, 1, none⟩ = some (.int .i64 a1_1) ∧ w'.cell? ⟨gb178, 2, none⟩ = some (.int .i64 a1_2)) ∧ (Kd.R k45 45 w' w.heap.size (fun k_ => some k_ ≠ (s_.2 : Value).ownBlock ∧ k_ ≠ gb178) s_.1 t184) ∧ (Kd.R k45 45 w' w.heap.size (fun k_ => some k_ ≠ (s_.1 : Value).ownBlock ∧ k_ ≠ gb178) s_.2 y187) ∧ (w'.heap[gb178]? = some (.cells #[.int .i64 a1_0, .int .i64 a1_1, .int .i64 a1_2] 45 (0, 0))) ∧ (Below w.heap.size w w')) ?_ ?_
      rotate_left
      ·intro hCont
       refine two_ (i := 3) (j := 5) (Ni := some 32) (Nj := some 34) #[true, true, true, true, true, false, false, false, false, false] #[true, true, true, false, true, true, false, false, false, false] rfl rfl rfl rfl (two_of HT_.out (by kernel_rfl)) (by decide) (by decide) (fun K hK => ?_) (fun K hK => ?_)
       ·skip
        refine gg_ func76 #[.slice A0 l0.length c0] ?_
        with_reducible refine (api_Term.calls _ _ l0 t184 _ ?side1 ?side2 A15.out).mono ?_
        (case side1 => repeat (first | exact (Kd.C_below HR0.out HB.out) | (with_reducible refine Kd.C_alloc ?_ _) | (with_reducible refine Kd.C_drewN ?_ _) | (with_reducible refine Kd.C_drew ?_)))
        (case side2 => exact HC0.out)
        rintro e w21 ⟨v185, rfl, ho0, hb⟩
        refine ⟨_, rfl, ?_⟩
        have HO186 := ak_ (Kd.R_lower (Kd.R_newB ho0 (g := gb178) (o := .cells #[.int .i64 a1_0, .int .i64 a1_1, .int .i64 a1_2] 45 (0, 0)) (kl_ BK178)) (bz_ (bw1_ HB GE178)))
        replace BK178 := ak_ (kb_ (kl_ BK178) hb)
        replace HB := ak_ (bt_ (bw1_ HB GE178) hb)
        (try clear hb)
        (try clear hb2)
        (try clear hk)
        (try clear hi)
        (try clear ho0)
        refine hK.out _ _ ⟨kq_ BK178.out 0 rfl, kq_ BK178.out 1 rfl, kq_ BK178.out 2 rfl⟩ (fun hHeld => ?_)
        clear hK K
        refine norm_ (a' := ?_) ?_ ?_
        rotate_left
        ·show Act.put _ (some 32) _ = _
         simp only [Act.put, setIfInBounds_toArray, set_cons_zero, set_cons_succ, i64_w, i32_w]
         rfl
        refine one_ (i := 5) (N := some 34) #[true, true, true, true, true, true, false, false, false, false] rfl rfl (one_of HT_.out (by kernel_rfl)) (by decide) (fun K hK => ?_)
        refine Kd.R_lit_step k45 _ 45 ?hg (N := 34) ?hd (xs := ([(⟨a1_0, a1_1, a1_2⟩ : S45)] : List (S45))) (inner := [.int .i64 a1_0, .int .i64 a1_1, .int .i64 a1_2]) (ok := fun _ => True) (okp := fun _ => True) ?hr ?hp (fun _ hk => hk) trivial (Below.refl _ _) (Nat.le_refl _) (by simp) ?_; (case hd => rfl); (case hg => rfl); (case hr => first | (go_simp; done) | (go_simp; rfl)); (case hp => exact (Reps.c3 (show Kd.M k45 _ _ _ (⟨a1_0, a1_1, a1_2⟩ : S45) [.int .i64 a1_0, .int .i64 a1_1, .int .i64 a1_2] from (k45_mkM _ _ _ (⟨a1_0, a1_1, a1_2⟩ : S45) )) (Reps.none _ _)))
        intro v188 w22 ho23 hb hg_ hnew_
        clear hg_ hnew_
        (first | rw [← Ny187.out] at ho23 | (simp only [Int.reduceToNat] at ho23; rw [← Ny187.out] at ho23))
        have HO189 := ak_ (Kd.R_lower (Kd.R_newB (Kd.R_new' ho23 (Kd.R_lt (rl_ HO186))) (g := gb178) (o := .cells #[.int .i64 a1_0, .int .i64 a1_1, .int .i64 a1_2] 45 (0, 0)) (kl_ BK178)) (bz_ (bw1_ HB GE178)))
        replace HO186 := ak_ (Kd.R_elder' (rl_ HO186) (Kd.R_base ho23) hb)
        replace BK178 := ak_ (kb_ (kl_ BK178) hb)
        replace HB := ak_ (bt_ (bw1_ HB GE178) hb)
        clear hb ho23
        refine hK.out _ _ ⟨kq_ BK178.out 0 rfl, kq_ BK178.out 1 rfl, kq_ BK178.out 2 rfl⟩ (fun hHeld => ?_)
        clear hK K
        refine norm_ (a' := ?_) ?_ ?_
        rotate_left
        ·show Act.put _ (some 34) _ = _
         simp only [Act.put, setIfInBounds_toArray, set_cons_zero, set_cons_succ, i64_w, i32_w]
         rfl
        exact norm_ (by simp only [putAll, Act.put, setIfInBounds_toArray, set_cons_zero, set_cons_succ]) (hCont (v185, v188) _ ⟨hHeld, (by (with_reducible repeat (first | apply Kd.R_alloc | apply Kd.R_drewN | apply Kd.R_drew)); exact Kd.R_mono HO186.out (fun _ hk => ⟨hk.2, hk.1.2⟩)), (by (with_reducible repeat (first | apply Kd.R_alloc | apply Kd.R_drewN | apply Kd.R_drew)); exact Kd.R_mono HO189.out (fun _ hk => ⟨hk.1.2, hk.2⟩)), (kl_ BK178), (bw1_ HB GE178)⟩)
       ·skip
        refine Kd.R_lit_step k45 _ 45 ?hg (N := 34) ?hd (xs := ([(⟨a1_0, a1_1, a1_2⟩ : S45)] : List (S45))) (inner := [.int .i64 a1_0, .int .i64 a1_1, .int .i64 a1_2]) (ok := fun _ => True) (okp := fun _ => True) ?hr ?hp (fun _ hk => hk) trivial (Below.refl _ _) (Nat.le_refl _) (by simp) ?_; (case hd => rfl); (case hg => rfl); (case hr => first | (go_simp; done) | (go_simp; rfl)); (case hp => exact (Reps.c3 (show Kd.M k45 _ _ _ (⟨a1_0, a1_1, a1_2⟩ : S45) [.int .i64 a1_0, .int .i64 a1_1, .int .i64 a1_2] from (k45_mkM _ _ _ (⟨a1_0, a1_1, a1_2⟩ : S45) )) (Reps.none _ _)))
        intro v188 w21 ho22 hb hg_ hnew_
        clear hg_ hnew_
        (first | rw [← Ny187.out] at ho22 | (simp only [Int.reduceToNat] at ho22; rw [← Ny187.out] at ho22))
        have HO189 := ak_ (Kd.R_lower (Kd.R_newB ho22 (g := gb178) (o := .cells #[.int .i64 a1_0, .int .i64 a1_1, .int .i64 a1_2] 45 (0, 0)) (kl_ BK178)) (bz_ (bw1_ HB GE178)))
        replace BK178 := ak_ (kb_ (kl_ BK178) hb)
        replace HB := ak_ (bt_ (bw1_ HB GE178) hb)
        clear hb ho22
        refine hK.out _ _ ⟨kq_ BK178.out 0 rfl, kq_ BK178.out 1 rfl, kq_ BK178.out 2 rfl⟩ (fun hHeld => ?_)
        clear hK K
        refine norm_ (a' := ?_) ?_ ?_
        rotate_left
        ·show Act.put _ (some 34) _ = _
         simp only [Act.put, setIfInBounds_toArray, set_cons_zero, set_cons_succ, i64_w, i32_w]
         rfl
        refine one_ (i := 3) (N := some 32) #[true, true, true, true, true, true, false, false, false, false] rfl rfl (one_of HT_.out (by kernel_rfl)) (by decide) (fun K hK => ?_)
        refine gg_ func76 #[.slice A0 l0.length c0] ?_
        with_reducible refine (api_Term.calls _ _ l0 t184 _ ?side1 ?side2 A15.out).mono ?_
        (case side1 => repeat (first | exact (Kd.C_below HR0.out HB.out) | (with_reducible refine Kd.C_alloc ?_ _) | (with_reducible refine Kd.C_drewN ?_ _) | (with_reducible refine Kd.C_drew ?_)))
        (case side2 => exact HC0.out)
        rintro e w23 ⟨v185, rfl, ho0, hb⟩
        refine ⟨_, rfl, ?_⟩
        have HO186 := ak_ (Kd.R_lower (Kd.R_newB (Kd.R_new' ho0 (Kd.R_lt (rl_ HO189))) (g := gb178) (o := .cells #[.int .i64 a1_0, .int .i64 a1_1, .int .i64 a1_2] 45 (0, 0)) (kl_ BK178)) (bz_ (bw1_ HB GE178)))
        replace HO189 := ak_ (Kd.R_elder' (rl_ HO189) (Kd.R_base ho0) hb)
        replace BK178 := ak_ (kb_ (kl_ BK178) hb)
        replace HB := ak_ (bt_ (bw1_ HB GE178) hb)
        (try clear hb)
        (try clear hb2)
        (try clear hk)
        (try clear hi)
        (try clear ho0)
        refine hK.out _ _ ⟨kq_ BK178.out 0 rfl, kq_ BK178.out 1 rfl, kq_ BK178.out 2 rfl⟩ (fun hHeld => ?_)
        clear hK K
        refine norm_ (a' := ?_) ?_ ?_
        rotate_left
        ·show Act.put _ (some 32) _ = _
         simp only [Act.put, setIfInBounds_toArray, set_cons_zero, set_cons_succ, i64_w, i32_w]
         rfl
        exact norm_ (by simp only [putAll, Act.put, setIfInBounds_toArray, set_cons_zero, set_cons_succ]) (hCont (v185, v188) _ ⟨hHeld, (by (with_reducible repeat (first | apply Kd.R_alloc | apply Kd.R_drewN | apply Kd.R_drew)); exact Kd.R_mono HO186.out (fun _ hk => ⟨hk.1.2, hk.2⟩)), (by (with_reducible repeat (first | apply Kd.R_alloc | apply Kd.R_drewN | apply Kd.R_drew)); exact Kd.R_mono HO189.out (fun _ hk => ⟨hk.2, hk.1.2⟩)), (kl_ BK178), (bw1_ HB GE178)⟩)
      rintro ⟨v185, v188⟩ w24 ⟨hS_, h0_, h1_, h2_, h3_⟩
      have n0_ : Aside0 (Kd.R k45 45 w24 w.heap.size (fun k_ => some k_ ≠ (v188 : Value).ownBlock ∧ k_ ≠ gb178) v185 t184) := ⟨h0_⟩
      have n1_ : Aside0 (Kd.R k45 45 w24 w.heap.size (fun k_ => some k_ ≠ (v185 : Value).ownBlock ∧ k_ ≠ gb178) v188 y187) := ⟨h1_⟩
      have n2_ : Aside0 (w24.heap[gb178]? = some (.cells #[.int .i64 a1_0, .int .i64 a1_1, .int .i64 a1_2] 45 (0, 0))) := ⟨h2_⟩
      have n3_ : Aside0 (Below w.heap.size w w24) := ⟨h3_⟩
      clear BK178
      clear HB
      clear h0_ h1_ h2_ h3_
      have HO186 := n0_
      have HO189 := n1_
      have BK178 := n2_
      have HB := n3_
      clear n0_ n1_ n2_ n3_
      have hHeld : w24.cell? ⟨gb178, 0, none⟩ = some (.int .i64 a1_0) ∧ w24.cell? ⟨gb178, 1, none⟩ = some (.int .i64 a1_1) ∧ w24.cell? ⟨gb178, 2, none⟩ = some (.int .i64 a1_2) := hS_
      obtain ⟨Ao26, co26, eo26⟩ := Kd.R_slice HO189.out
      (first | subst eo26 | (injection eo26 with f1_ f2_ f3_; have f4_ := f1_.symm; have f5_ := f3_.symm; clear f1_ f2_ f3_; subst f4_; subst f5_))
      refine norm_ (a' := ?_) ?_ ?_
      rotate_left
      ·simp only [putAll, Act.put, setIfInBounds_toArray, set_cons_zero, set_cons_succ]
       rfl
      refine one_ (i := 6) (N := some 35) #[true, true, true, true, true, true, true, false, false, false] rfl rfl (one_of HT_.out (by kernel_rfl)) (by decide) (fun K hK => ?_)
      refine Kd.R_append_rows_step k45 (w0 := w) w.heap.size (by rfl) (.tmp 32) (.tmp 34) 27 45 (.agg #[(.int .i64 0), (.int .i64 0), (.int .i64 0)]) 24 rfl underlying27 info45 rfl (by decide) (by omega) v185 t184 y187 _ _ _ (fun k_ => some k_ ≠ (.slice Ao26 y187.length co26 : Value).ownBlock ∧ k_ ≠ gb178) (fun _ => False) rfl rfl ?aO ?aR (fun _ _ h => h) (fun _ h => h.elim) ?aF ?aB ?aS ?aL ?_
      (case aR => repeat (first | exact (Kd.R_reads' HO189.out).2.2 | (with_reducible refine Kd.C_alloc ?_ _) | (with_reducible refine Kd.C_drewN ?_ _) | (with_reducible refine Kd.C_drew ?_)))
      (case aB => exact (bw1_ HB GE178))
      (case aF => exact (fun k_ hk => ⟨Kd.fresh' (Kd.R_lt (rl_ HO189)) k_ hk, Kd.freshB (g := gb178) (o := .cells #[.int .i64 a1_0, .int .i64 a1_1, .int .i64 a1_2] 45 (0, 0)) (kl_ BK178) k_ hk⟩))
      (case aO => exact (rl_ HO186))
      (case aS => exact (bz_ (bw1_ HB GE178)))
      (case aL => have := LMc16.out; omega)
      intro v191 w25 ho hb hg hat
      rw [← Ny190.out] at ho
      replace BK178 := ak_ (blk_grown (g := gb178) (o := .cells #[.int .i64 a1_0, .int .i64 a1_1, .int .i64 a1_2] 45 (0, 0)) (kl_ BK178) hg (Kd.R_away HO186.out (fun _ hk => hk.2)))
      replace HO189 := ak_ (Kd.R_after (ok := (fun k_ => k_ ≠ gb178)) (by (with_reducible repeat (first | apply Kd.R_alloc | apply Kd.R_drewN | apply Kd.R_drew)); exact Kd.R_mono HO189.out (fun _ hk => ⟨hk.2, hk.1⟩)) hg hat)
      replace HB := ak_ hb
      have HO192 := ak_ ho
      clear HO186
      clear ho hb hg hat
      refine hK.out _ _ ⟨kq_ BK178.out 0 rfl, kq_ BK178.out 1 rfl, kq_ BK178.out 2 rfl⟩ (fun hHeld => ?_)
      clear hK K
      refine norm_ (a' := ?_) ?_ ?_
      rotate_left
      ·show Act.put _ (some 35) _ = _
       simp only [Act.put, setIfInBounds_toArray, set_cons_zero, set_cons_succ, i64_w, i32_w]
       rfl
      refine pu_ HT_ 7 (some 4) #[true, true, true, true, true, true, true, true, false, false] ?_
      refine pu_ HT_ 8 (some 5) #[true, true, true, true, true, true, true, true, true, false] ?_
      refine pu_ HT_ 9 (some 6) #[true, true, true, true, true, true, true, true, true, true] ?_
      refine done_ (done_of HT_.out (by kernel_rfl)) ?_
      try go_wp2
      go_ret3
      exact ⟨_, by first | rfl | (simp <;> rfl) | (simp [*] <;> rfl), by (with_reducible repeat (first | apply Kd.R_alloc | apply Kd.R_drewN | apply Kd.R_drew)); exact Kd.R_mono HO192.out (fun _ hk => trivial), bw1_ HB GE178⟩
     ·rw [if_neg c16] at H
      exact absurd H (by simp)
   ·rw [if_neg c10] at H
    have c10b0 : (t180 == 4) = false := beq_eq_false_iff_ne.mpr c10
    have c10b1 : (t180 != 4) = true := bne_iff_ne.mpr c10
    simp only [some.injEq, Prod.mk.injEq] at H
    obtain ⟨rfl, rfl, rfl⟩ := H
    go_enter func110, ntmps110
    go_wp2_with (first | ((with_reducible refine gate_dst (N := 3) rfl ?_); refine bx_ 3 #[.int .i64 a1_0, .int .i64 a1_1, .int .i64 a1_2] 45 ?_; intro gb178 hg w27 hbox hb; have BK178 := ak_ hbox; have GW178 := ak_ (gs_ hg HB); have GE178 := ak_ (gs_ hg HB); replace HB := ak_ (bt_ (bl_ HB) hb); clear hb hbox hg; obtain ⟨hcz28_0, hcz28_1, hcz28_2, hfz28_0, hfz28_1, hfz28_2⟩ := kc3_ BK178.out) | ((with_reducible refine gate_callee (f := 115) rfl ?_); refine gl_ (some 12) func115 #[.slice A0 l0.length c0, .agg #[.int .i64 a1_0, .int .i64 a1_1, .int .i64 a1_2]] ?_; (with_reducible refine (term_Find.calls _ _ l0 a1_0 a1_1 a1_2 t179 t180 _ ?side1 ?side2 A3.out).mono ?_); (case side1 => repeat (first | exact (Kd.C_below HR0.out HB.out) | (with_reducible refine Kd.C_alloc ?_ _) | (with_reducible refine Kd.C_drewN ?_ _) | (with_reducible refine Kd.C_drew ?_))); (case side2 => exact HC0.out); rintro e w29 ⟨rfl, hb⟩; refine ⟨_, rfl, ?_⟩; replace BK178 := ak_ (kb_ (kl_ BK178) hb); replace HB := ak_ (bt_ (bw1_ HB GE178) hb); (try clear hb); (try clear hk)))
    go_ret3
    exact ⟨_, by first | rfl | (simp <;> rfl) | (simp [*] <;> rfl), by first | exact Kd.R_nil _ _ _ _ _ | exact Kd.N_nil _ _ _ _ _ | exact Kd.V_nil _ _ _ _ _ | exact Kd.Q_nil _ _ _ _ _ | exact Kd.S_nil _ _ _ _ _, bw1_ HB GE178⟩
def value_made.f (l0 : List (S45)) (a1_0 : Int) (a1_1 : Int) (a1_2 : Int) : Option (Bool × Bool × Int × Int × Int × Int × Int × Int × Int × (List (S45)) × Int) := (term_Make.f l0 a1_0 a1_1 a1_2).bind fun bt195 => (if bt195.2.2 = 0 then (some (true, false, 0, 0, 0, 0, 0, 0, bt195.1, bt195.2.1, 0)) else (some (false, false, 0, 0, 0, 0, 0, 0, 0, ([] : List (S45)), bt195.2.2)))
set_option maxHeartbeats 8000000 in
set_option maxRecDepth 100000 in
theorem value_made.calls (A0 : Option Addr) (c0 : Nat) (l0 : List (S45)) (a1_0 : Int) (a1_1 : Int) (a1_2 : Int) (r1 : Bool) (r2 : Bool) (r3 : Int) (r4 : Int) (r5 : Int) (r6 : Int) (r7 : Int) (r8 : Int) (r9 : Int) (r10 : List (S45)) (r11 : Int) (w : World) (hr0 : Kd.C k45 w A0 l0.length l0) (hc0 : l0.length ≤ c0) (h : value_made.f l0 a1_0 a1_1 a1_2 = some (r1, r2, r3, r4, r5, r6, r7, r8, r9, r10, r11)) :
   Calls Try.prog 98 #[.slice A0 l0.length c0, .agg #[.int .i64 a1_0, .int .i64 a1_1, .int .i64 a1_2]] w fun e w' => ∃ v9_ : Value, e = .returned (.tuple #[.agg #[.bool r1, .bool r2, .int .u64 r3, .int .u64 r4, .int .u64 r5, .int .u64 r6, .int .u64 r7, .int .u64 r8, .int .i64 r9], v9_, .int .i64 r11]) ∧ Kd.R k45 45 w' w.heap.size (fun _ => True) v9_ r10 ∧ Below w.heap.size w w' := by
  have hu45 := underlying45
  have hu34 := underlying34
  have HR0 := ak_ hr0
  have HC0 := ak_ hc0
  clear hr0 hc0
  have HB := ak_ (Below.refl w.heap.size w)
  have H : ((term_Make.f l0 a1_0 a1_1 a1_2).bind fun bt195 => (if bt195.2.2 = 0 then (some (true, false, 0, 0, 0, 0, 0, 0, bt195.1, bt195.2.1, 0)) else (some (false, false, 0, 0, 0, 0, 0, 0, 0, ([] : List (S45)), bt195.2.2)))) = some (r1, r2, r3, r4, r5, r6, r7, r8, r9, r10, r11) := h
  clear h
  replace H := bind_eq_some_iff.mp H
  obtain ⟨⟨t195, t196, t199⟩, A30, H⟩ := H
  replace H : (if t199 = 0 then (some (true, false, 0, 0, 0, 0, 0, 0, t195, t196, 0)) else (some (false, false, 0, 0, 0, 0, 0, 0, 0, ([] : List (S45)), t199))) = some (r1, r2, r3, r4, r5, r6, r7, r8, r9, r10, r11) := H
  have A3 := ak_ A30
  clear A30
  by_cases c4 : t199 = 0
  ·rw [if_pos c4] at H
   have c4b0 : (t199 == 0) = true := beq_iff_eq.mpr c4
   have c4b1 : (t199 != 0) = false := bne_eq_false_iff_eq.mpr c4
   clear c4
   simp only [some.injEq, Prod.mk.injEq] at H
   obtain ⟨rfl, rfl, rfl, rfl, rfl, rfl, rfl, rfl, rfl, rfl, rfl⟩ := H
   go_enter func98, ntmps98
   go_wp2_with (first | ((with_reducible refine gate_dst (N := 3) rfl ?_); refine bx_ 3 #[.int .i64 a1_0, .int .i64 a1_1, .int .i64 a1_2] 45 ?_; intro gb193 hg w5 hbox hb; have BK193 := ak_ hbox; have GW193 := ak_ (gs_ hg HB); have GE193 := ak_ (gs_ hg HB); replace HB := ak_ (bt_ (bl_ HB) hb); clear hb hbox hg) | ((with_reducible refine gate_dst (N := 4) rfl ?_); refine bx_ 4 #[.bool false, .bool false, .int .u64 0, .int .u64 0, .int .u64 0, .int .u64 0, .int .u64 0, .int .u64 0, .int .i64 0] 34 ?_; intro gb194 hg w6 hbox hb; have BK194 := ak_ hbox; have GW194 := ak_ (gw1_ HB GE193 hg); have GE194 := ak_ (gw1_ HB GE193 hg); replace HB := ak_ (bt_ (bw1_ HB GE193) hb); have NB193_194 := ak_ (nl_ hg BK193); have NB194_193 := ak_ (nr_ hg BK193); replace BK193 := ak_ (kb_ (kl_ BK193) hb); clear hb hbox hg; have hnb7 := NB193_194.out; have hnc7 := NB194_193.out; obtain ⟨hcz8_0, hcz8_1, hcz8_2, hfz8_0, hfz8_1, hfz8_2⟩ := kc3_ BK193.out) | ((with_reducible refine gate_callee (f := 110) rfl ?_); refine gl_ (some 12) func110 #[.slice A0 l0.length c0, .agg #[.int .i64 a1_0, .int .i64 a1_1, .int .i64 a1_2]] ?_; (with_reducible refine (term_Make.calls _ _ l0 a1_0 a1_1 a1_2 t195 t196 t199 _ ?side1 ?side2 A3.out).mono ?_); (case side1 => repeat (first | exact (Kd.C_below HR0.out HB.out) | (with_reducible refine Kd.C_alloc ?_ _) | (with_reducible refine Kd.C_drewN ?_ _) | (with_reducible refine Kd.C_drew ?_))); (case side2 => exact HC0.out); rintro e w9 ⟨v197, rfl, ho0, hb⟩; refine ⟨_, rfl, ?_⟩; have HO198 := ak_ (Kd.R_lower (Kd.R_newB ho0 (g := gb193) (o := .cells #[.int .i64 a1_0, .int .i64 a1_1, .int .i64 a1_2] 45 (0, 0)) (kl_ BK193)) (bz_ (bw2_ HB GE193 GE194))); replace BK193 := ak_ (kb_ (kl_ BK193) hb); replace BK194 := ak_ (kb_ (kl_ BK194) hb); replace HB := ak_ (bt_ (bw2_ HB GE193 GE194) hb); (try clear hb); (try clear hk); (try clear ho0); obtain ⟨hcz10_0, hcz10_1, hcz10_2, hcz10_3, hcz10_4, hcz10_5, hcz10_6, hcz10_7, hcz10_8, hfz10_0, hfz10_1, hfz10_2, hfz10_3, hfz10_4, hfz10_5, hfz10_6, hfz10_7, hfz10_8⟩ := kc9_ BK194.out))
   refine bodyPost_ret (results_ctt rfl _ _ gb194 34 #[.bool true, .bool false, .int .u64 0, .int .u64 0, .int .u64 0, .int .u64 0, .int .u64 0, .int .u64 0, .int .i64 t195] (0, 0) _ rfl (by (with_reducible repeat (first | refine kn_ ?_ _ | refine kd_ ?_ | refine ka_ ?_ _)); exact sC_blk BK194.out rfl rfl) underlying34 rfl (by kernel_rfl)) rfl ?_
   exact ⟨_, by first | rfl | (simp <;> rfl) | (simp [*] <;> rfl), by (with_reducible repeat (first | apply Kd.R_alloc | apply Kd.R_drewN | apply Kd.R_drew)); exact Kd.R_mono (Kd.R_far (p := ⟨gb194, 8, none⟩) (Kd.R_far (p := ⟨gb194, 7, none⟩) (Kd.R_far (p := ⟨gb194, 6, none⟩) (Kd.R_far (p := ⟨gb194, 5, none⟩) (Kd.R_far (p := ⟨gb194, 4, none⟩) (Kd.R_far (p := ⟨gb194, 3, none⟩) (Kd.R_far (p := ⟨gb194, 2, none⟩) (Kd.R_far (p := ⟨gb194, 1, none⟩) (Kd.R_far (p := ⟨gb194, 0, none⟩) (Kd.R_types HO198.out BK194.out (by decide)) (fun _ hk => hk.2) (.bool true)) (fun _ hk => hk.2) (.bool false)) (fun _ hk => hk.2) (.int .u64 0)) (fun _ hk => hk.2) (.int .u64 0)) (fun _ hk => hk.2) (.int .u64 0)) (fun _ hk => hk.2) (.int .u64 0)) (fun _ hk => hk.2) (.int .u64 0)) (fun _ hk => hk.2) (.int .u64 0)) (fun _ hk => hk.2) (.int .i64 t195)) (fun _ hk => trivial), bw2_ HB GE193 GE194⟩
  ·rw [if_neg c4] at H
   have c4b0 : (t199 == 0) = false := beq_eq_false_iff_ne.mpr c4
   have c4b1 : (t199 != 0) = true := bne_iff_ne.mpr c4
   simp only [some.injEq, Prod.mk.injEq] at H
   obtain ⟨rfl, rfl, rfl, rfl, rfl, rfl, rfl, rfl, rfl, rfl, rfl⟩ := H
   go_enter func98, ntmps98
   go_wp2_with (first | ((with_reducible refine gate_dst (N := 3) rfl ?_); refine bx_ 3 #[.int .i64 a1_0, .int .i64 a1_1, .int .i64 a1_2] 45 ?_; intro gb193 hg w11 hbox hb; have BK193 := ak_ hbox; have GW193 := ak_ (gs_ hg HB); have GE193 := ak_ (gs_ hg HB); replace HB := ak_ (bt_ (bl_ HB) hb); clear hb hbox hg) | ((with_reducible refine gate_dst (N := 4) rfl ?_); refine bx_ 4 #[.bool false, .bool false, .int .u64 0, .int .u64 0, .int .u64 0, .int .u64 0, .int .u64 0, .int .u64 0, .int .i64 0] 34 ?_; intro gb194 hg w12 hbox hb; have BK194 := ak_ hbox; have GW194 := ak_ (gw1_ HB GE193 hg); have GE194 := ak_ (gw1_ HB GE193 hg); replace HB := ak_ (bt_ (bw1_ HB GE193) hb); have NB193_194 := ak_ (nl_ hg BK193); have NB194_193 := ak_ (nr_ hg BK193); replace BK193 := ak_ (kb_ (kl_ BK193) hb); clear hb hbox hg; have hnb13 := NB193_194.out; have hnc13 := NB194_193.out; obtain ⟨hcz14_0, hcz14_1, hcz14_2, hfz14_0, hfz14_1, hfz14_2⟩ := kc3_ BK193.out) | ((with_reducible refine gate_callee (f := 110) rfl ?_); refine gl_ (some 12) func110 #[.slice A0 l0.length c0, .agg #[.int .i64 a1_0, .int .i64 a1_1, .int .i64 a1_2]] ?_; (with_reducible refine (term_Make.calls _ _ l0 a1_0 a1_1 a1_2 t195 t196 t199 _ ?side1 ?side2 A3.out).mono ?_); (case side1 => repeat (first | exact (Kd.C_below HR0.out HB.out) | (with_reducible refine Kd.C_alloc ?_ _) | (with_reducible refine Kd.C_drewN ?_ _) | (with_reducible refine Kd.C_drew ?_))); (case side2 => exact HC0.out); rintro e w15 ⟨v197, rfl, ho0, hb⟩; refine ⟨_, rfl, ?_⟩; have HO198 := ak_ (Kd.R_lower (Kd.R_newB ho0 (g := gb193) (o := .cells #[.int .i64 a1_0, .int .i64 a1_1, .int .i64 a1_2] 45 (0, 0)) (kl_ BK193)) (bz_ (bw2_ HB GE193 GE194))); replace BK193 := ak_ (kb_ (kl_ BK193) hb); replace BK194 := ak_ (kb_ (kl_ BK194) hb); replace HB := ak_ (bt_ (bw2_ HB GE193 GE194) hb); (try clear hb); (try clear hk); (try clear ho0); obtain ⟨hcz16_0, hcz16_1, hcz16_2, hcz16_3, hcz16_4, hcz16_5, hcz16_6, hcz16_7, hcz16_8, hfz16_0, hfz16_1, hfz16_2, hfz16_3, hfz16_4, hfz16_5, hfz16_6, hfz16_7, hfz16_8⟩ := kc9_ BK194.out))
   refine bodyPost_ret (results_ctt rfl _ _ gb194 34 #[.bool false, .bool false, .int .u64 0, .int .u64 0, .int .u64 0, .int .u64 0, .int .u64 0, .int .u64 0, .int .i64 0] (0, 0) _ rfl (by (with_reducible repeat (first | refine kn_ ?_ _ | refine kd_ ?_ | refine ka_ ?_ _)); exact sC_blk BK194.out rfl rfl) underlying34 rfl (by kernel_rfl)) rfl ?_
   exact ⟨_, by first | rfl | (simp <;> rfl) | (simp [*] <;> rfl), by first | exact Kd.R_nil _ _ _ _ _ | exact Kd.N_nil _ _ _ _ _ | exact Kd.V_nil _ _ _ _ _ | exact Kd.Q_nil _ _ _ _ _ | exact Kd.S_nil _ _ _ _ _, bw2_ HB GE193 GE194⟩
theorem xi_index {P : Program} {t e : TypeId} (hu : P.underlying t = some (.array 2 e)) (hg : P.plainKey e = true) (hs : P.cellsOf e = 1) (a b i : Int) (h0 : 0 ≤ i) (h1 : i < 2) (w : World) :
   (Instr.index t (.agg #[.int .u64 a, .int .u64 b]) (.int .i64 i)).run P w = .ok (.int .u64 (rd [a, b] i)) w := by
  obtain ⟨q, hq⟩ : ∃ q, P.info? e = some q := by
   unfold Program.plainKey at hg
   cases hu : P.underlying e with
   | none => simp [hu] at hg
   | some d => exact info_of_underlying hu
  have z := run_sizeOf w hq
  rw [hs] at z
  rcases (show i = 0 ∨ i = 1 by omega) with rfl | rfl
  ·have p0 := run_part_plain w hg (xs := #[.int .u64 a, .int .u64 b]) (off := 0) (v := .int .u64 a) rfl
   simp [Instr.index, run_underlying hu, asIntOf, z, p0, rd]
  ·have p1 := run_part_plain w hg (xs := #[.int .u64 a, .int .u64 b]) (off := 1) (v := .int .u64 b) rfl
   simp [Instr.index, run_underlying hu, asIntOf, z, p1, rd]
def mix_Xor.f (a0_0 : Int) (a0_1 : Int) (a1_0 : Int) (a1_1 : Int) : Option (Int × Int) := some (Go.bits .xor .u64 a0_0 a1_0, Go.bits .xor .u64 a0_1 a1_1)
set_option maxHeartbeats 8000000 in
set_option maxRecDepth 100000 in
theorem mix_Xor.calls (a0_0 : Int) (a0_1 : Int) (a1_0 : Int) (a1_1 : Int) (r1 : Int) (r2 : Int) (w : World) (h : mix_Xor.f a0_0 a0_1 a1_0 a1_1 = some (r1, r2)) :
   Calls Try.prog 111 #[.agg #[.int .u64 a0_0, .int .u64 a0_1], .agg #[.int .u64 a1_0, .int .u64 a1_1]] w fun e w' => e = .returned (.agg #[.int .u64 r1, .int .u64 r2]) ∧ Below w.heap.size w w' := by
  simp only [mix_Xor.f, some.injEq, Prod.mk.injEq] at h
  obtain ⟨rfl, rfl⟩ := h
  have hu_b := underlying24
  have q0 : ∀ w : World, (Instr.index 24 (.agg #[.int .u64 a1_0, .int .u64 a1_1]) (.int .i64 0)).run Try.prog w = .ok (.int .u64 a1_0) w := fun w => xi_index underlying24 (by kernel_rfl) (by kernel_rfl) a1_0 a1_1 0 (by decide) (by decide) w
  have q1 : ∀ w : World, (Instr.index 24 (.agg #[.int .u64 a1_0, .int .u64 a1_1]) (.int .i64 1)).run Try.prog w = .ok (.int .u64 a1_1) w := fun w => xi_index underlying24 (by kernel_rfl) (by kernel_rfl) a1_0 a1_1 1 (by decide) (by decide) w
  have HB := ak_ (Below.refl w.heap.size w)
  go_enter func111, ntmps111
  go_wp2_with (first
   | ((with_reducible refine gate_dst (N := 2) rfl ?_); refine bx_ 2 #[.int .u64 a0_0, .int .u64 a0_1] 24 ?_; intro g2 hg w1 hbox hb; have GE2 := ak_ (show w.heap.size ≤ g2 by rw [hg]; exact Nat.le_refl _); have n0_ := ak_ hb; have BK2 := ak_ hbox; clear HB; have HB := n0_; clear n0_ hb hbox hg)
   | ((with_reducible refine gate_dst (N := 3) rfl ?_); refine bx_ 3 #[.int .u64 a1_0, .int .u64 a1_1] 24 ?_; intro g3 hg w2 hbox hb; have n0_ := ak_ (bt_ HB.out hb); have n1_ := ak_ (kb_ BK2.out hb); have BK3 := ak_ hbox; clear HB BK2; have HB := n0_; have BK2 := n1_; clear n0_ n1_ hb hbox hg)
   | ((with_reducible refine gate_dst (N := 4) rfl ?_); refine bx_ 4 #[.int .u64 0, .int .u64 0] 24 ?_; intro g4 hg w3 hbox hb; have GE4 := ak_ (show w.heap.size ≤ g4 by rw [hg]; exact bz_ HB.out); have N42 := ak_ (show g4 ≠ g2 by rw [hg]; exact Nat.ne_of_gt (blk_lt BK2.out)); have n0_ := ak_ (bt_ HB.out hb); have n1_ := ak_ (kb_ BK2.out hb); have n2_ := ak_ (kb_ BK3.out hb); have BK4 := ak_ hbox; clear HB BK2 BK3; have HB := n0_; have BK2 := n1_; have BK3 := n2_; clear n0_ n1_ n2_ hb hbox hg; have hz0 : w3.cell? ⟨g3, 0, none⟩ = some (.int .u64 a1_0) := (kc_ BK3.out 0).trans rfl; have hz1 : w3.cell? ⟨g3, 1, none⟩ = some (.int .u64 a1_1) := (kc_ BK3.out 1).trans rfl))
  go_loopg [8] 3 (fun kq v8 w' => ∃ (x y j : Int), v8 = .int .i64 j ∧ Aside0 ((j = 0 ∧ x = a0_0 ∧ y = a0_1) ∨ (j = 1 ∧ x = Go.bits .xor .u64 a0_0 a1_0 ∧ y = a0_1) ∨ (j = 2 ∧ x = Go.bits .xor .u64 a0_0 a1_0 ∧ y = Go.bits .xor .u64 a0_1 a1_1)) ∧ Aside0 ((kq : Int) + j = 3) ∧ Aside0 (w'.heap[g2]? = some (.cells #[.int .u64 x, .int .u64 y] 24 (0, 0))) ∧ Aside0 (w'.heap[g4]? = some (.cells #[.int .u64 0, .int .u64 0] 24 (0, 0))) ∧ Aside0 (Below w.heap.size w w'))
  case atStart => exact ⟨a0_0, a0_1, 0, rfl, ⟨.inl ⟨rfl, rfl, rfl⟩⟩, ⟨rfl⟩, ⟨BK2.out⟩, ⟨BK4.out⟩, ⟨HB.out⟩⟩
  case round =>
   clear BK2 BK3 BK4 HB hz0 hz1
   obtain ⟨x, y, j, rfl, HC, HK, BK2, BK4, HB⟩ := hrel
   have BK0 := ak_ BK2.out
   have hx0 : wr.cell? ⟨g2, 0, none⟩ = some (.int .u64 x) := (kc_ BK2.out 0).trans rfl
   have hx1 : wr.cell? ⟨g2, 1, none⟩ = some (.int .u64 y) := (kc_ BK2.out 1).trans rfl
   have hf0 := kf_ BK2.out 0
   have hf1 := kf_ BK2.out 1
   have hr0 : wr.cell? ⟨g4, 0, none⟩ = some (.int .u64 0) := (kc_ BK4.out 0).trans rfl
   have hr1 : wr.cell? ⟨g4, 1, none⟩ = some (.int .u64 0) := (kc_ BK4.out 1).trans rfl
   have hs0 := kf_ BK4.out 0
   have hs1 := kf_ BK4.out 1
   rcases HC.out with ⟨rfl, rfl, rfl⟩ | ⟨rfl, rfl, rfl⟩ | ⟨rfl, rfl, rfl⟩
   ·obtain ⟨k1, rfl⟩ : ∃ k1, gk = k1 + 1 := ⟨gk - 1, by have := HK.out; omega⟩
    go_wp2
    go_roundg k1
    case measure => omega
    case rel => exact ⟨_, _, 1, rfl, ⟨.inr (.inl ⟨rfl, rfl, rfl⟩)⟩, ⟨by have := HK.out; omega⟩, ⟨blk_put BK0.out 0 _ rfl⟩, ⟨blk_far BK4.out N42.out _⟩, ⟨below_set HB.out GE2.out⟩⟩
   ·obtain ⟨k1, rfl⟩ : ∃ k1, gk = k1 + 1 := ⟨gk - 1, by have := HK.out; omega⟩
    go_wp2
    go_roundg k1
    case measure => omega
    case rel => exact ⟨_, _, 2, rfl, ⟨.inr (.inr ⟨rfl, rfl, rfl⟩)⟩, ⟨by have := HK.out; omega⟩, ⟨blk_put BK0.out 1 _ rfl⟩, ⟨blk_far BK4.out N42.out _⟩, ⟨below_set HB.out GE2.out⟩⟩
   ·go_wp2
    refine bodyPost_ret (results_cell_row rfl _ _ g4 24 #[.int .u64 (Go.bits .xor .u64 a0_0 a1_0), .int .u64 (Go.bits .xor .u64 a0_1 a1_1)] (0, 0) _ rfl (blk_put (blk_put BK4.out 0 _ rfl) 1 _ rfl) underlying24 rfl (by kernel_rfl)) rfl ?_
    exact ⟨rfl, below_set (below_set HB.out GE4.out) GE4.out⟩
def bits_RotateLeft64.f (a0 : Int) (a1 : Int) : Option (Int) := if 0 ≤ (Go.bits .and .u64 (IntKind.u64.wrap (a1)) 63) then (if 0 ≤ (IntKind.u64.wrap (64 - (Go.bits .and .u64 (IntKind.u64.wrap (a1)) 63))) then (some (Go.bits .or .u64 (shl .u64 a0 (Go.bits .and .u64 (IntKind.u64.wrap (a1)) 63)) (shr .u64 a0 (IntKind.u64.wrap (64 - (Go.bits .and .u64 (IntKind.u64.wrap (a1)) 63)))))) else (none)) else (none)
set_option maxHeartbeats 8000000 in
set_option maxRecDepth 100000 in
theorem bits_RotateLeft64.calls (a0 : Int) (a1 : Int) (r : Int) (w : World) (h : bits_RotateLeft64.f a0 a1 = some r) :
   Calls Try.prog 116 #[.int .u64 a0, .int .i64 a1] w fun e w' => e = .returned (.int .u64 r) ∧ Drawn0 w w' := by
  have H : (if 0 ≤ (Go.bits .and .u64 (IntKind.u64.wrap (a1)) 63) then (if 0 ≤ (IntKind.u64.wrap (64 - (Go.bits .and .u64 (IntKind.u64.wrap (a1)) 63))) then (some (Go.bits .or .u64 (shl .u64 a0 (Go.bits .and .u64 (IntKind.u64.wrap (a1)) 63)) (shr .u64 a0 (IntKind.u64.wrap (64 - (Go.bits .and .u64 (IntKind.u64.wrap (a1)) 63)))))) else (none)) else (none)) = some r := h
  clear h
  obtain ⟨ji3, hji3⟩ : ∃ j_ : Int, (Go.bits .and .u64 (IntKind.u64.wrap (a1)) 63) = j_ := ⟨_, rfl⟩
  replace H : (if 0 ≤ (ji3) then (if 0 ≤ (IntKind.u64.wrap (64 - (ji3))) then (some (Go.bits .or .u64 (shl .u64 a0 (ji3)) (shr .u64 a0 (IntKind.u64.wrap (64 - (ji3)))))) else (none)) else (none)) = some r := by first | (rw [hji3] at H; exact H) | (simp only [hji3] at H ⊢; exact H)
  by_cases c4 : 0 ≤ (ji3)
  ·rw [if_pos c4] at H
   have c4b0 := eq_true c4
   have c4b1 := decide_eq_true c4
   clear c4
   obtain ⟨ji5, hji5⟩ : ∃ j_ : Int, (shl .u64 a0 (ji3)) = j_ := ⟨_, rfl⟩
   replace H : (if 0 ≤ (IntKind.u64.wrap (64 - (ji3))) then (some (Go.bits .or .u64 (ji5) (shr .u64 a0 (IntKind.u64.wrap (64 - (ji3)))))) else (none)) = some r := by first | (rw [hji5] at H; exact H) | (simp only [hji5] at H ⊢; exact H)
   have hji5_ : (IntKind.u64.wrap (a0 * 2 ^ min (ji3).toNat 64)) = ji5 := hji5
   have hji5z : (ji3) ≤ 64 → (IntKind.u64.wrap (a0 * 2 ^ (ji3).toNat)) = ji5 := shl_small hji5
   obtain ⟨ji6, hji6⟩ : ∃ j_ : Int, (IntKind.u64.wrap (64 - (ji3))) = j_ := ⟨_, rfl⟩
   replace H : (if 0 ≤ (ji6) then (some (Go.bits .or .u64 (ji5) (shr .u64 a0 (ji6)))) else (none)) = some r := by first | (rw [hji6] at H; exact H) | (simp only [hji6] at H ⊢; exact H)
   by_cases c7 : 0 ≤ (ji6)
   ·rw [if_pos c7] at H
    have c7b0 := eq_true c7
    have c7b1 := decide_eq_true c7
    clear c7
    obtain ⟨ji8, hji8⟩ : ∃ j_ : Int, (shr .u64 a0 (ji6)) = j_ := ⟨_, rfl⟩
    replace H : (some (Go.bits .or .u64 (ji5) (ji8))) = some r := by first | (rw [hji8] at H; exact H) | (simp only [hji8] at H ⊢; exact H)
    have hji8_ : (a0 / 2 ^ min (ji6).toNat 64) = ji8 := hji8
    have hji8z : (ji6) ≤ 64 → (a0 / 2 ^ (ji6).toNat) = ji8 := shr_small hji8
    obtain rfl := Option.some.inj H
    go_enter func116, ntmps116
    go_wp2
    go_ret
    exact ⟨by first | rfl | (simp; done) | (simp only [← hji3, ← hji5, ← hji6, ← hji8] <;> (first | rfl | simp)) | (simp [*]; done), by repeat (first | exact Drawn0.refl _ | apply Drawn0.step)⟩
   ·rw [if_neg c7] at H
    exact absurd H (by simp)
  ·rw [if_neg c4] at H
   exact absurd H (by simp)
end Go.Proofs.Ytkleiaeihihjnaa.MP
