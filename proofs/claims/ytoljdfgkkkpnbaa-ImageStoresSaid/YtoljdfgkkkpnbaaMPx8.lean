-- written by a program of this session (wip/tools/mprint.sh) for this seat
import Derived.Test.YtoljdfgkkkpnbaaMPx0
import Derived.Test.YtoljdfgkkkpnbaaMPx1
import Derived.Test.YtoljdfgkkkpnbaaMPx2
import Derived.Test.YtoljdfgkkkpnbaaMPx6
namespace Go.Proofs.Ytoljdfgkkkpnbaa.MP
open Go.RowKit Go.Proofs.YtoljdfgkkkpnbaaW.PrintWords Go.Proofs.YtoljdfgkkkpnbaaW.PrintLast Go.Proofs.YtoljdfgkkkpnbaaW.PrintMore
open Option (bind_eq_some_iff some.injEq)
open _root_.Go.Proofs.Try
open List (setIfInBounds_toArray set_cons_zero set_cons_succ map_toArray map_cons map_nil length_drop length_take)
attribute [local go_sem] max2_int min2_int max_two min_two max_three min_three max_four min_four
set_option linter.unusedVariables false
set_option linter.unusedSimpArgs false
attribute [local go_sem high] eqA65
mutual
def medlarref17_Read.j0 : Nat → List Int → Int → Int → Int → List (S39) → Bool → Option (Int × Int × Int × (List (S65)) × Int)
  | 0, _, _, _, _, _, _ => none
  | k + 1, x0, x7, x8, x9, x10, x52 => if x52 = true then (some (0, 0, 0, ([] : List (S65)), 2)) else (medlarref17_Read.l0 k x0 x7 x8 x9 ([] : List (S65)) x10 (x10.length : Int) 0)
def medlarref17_Read.l0 : Nat → List Int → Int → Int → Int → List (S65) → List (S39) → Int → Int → Option (Int × Int × Int × (List (S65)) × Int)
  | 0, _, _, _, _, _, _, _, _ => none
  | k + 1, x0, x7, x8, x9, x12, x53, x54, x55 => if x55 < x54 then (if 0 ≤ x55 then (if x55 < (x53.length : Int) then (if 0 ≤ (wrap64 (11 + (wrap64 (16 * x55)))) then (if (wrap64 (11 + (wrap64 (16 * x55)))) ≤ (wrap64 (27 + (wrap64 (16 * x55)))) then (if (wrap64 (27 + (wrap64 (16 * x55)))) ≤ (x0.length : Int) then ((medlarref03_Of.f k ((x0.take ((wrap64 (27 + (wrap64 (16 * x55)))) : Int).toNat).drop ((wrap64 (11 + (wrap64 (16 * x55)))) : Int).toNat)).bind fun bt393 => (if x12.length < 1759218604441 then (medlarref17_Read.l0 k x0 x7 x8 x9 (x12 ++ [(⟨(⟨(rd_T39 x53 x55).f0, (rd_T39 x53 x55).f1⟩ : S39), (⟨false, false, (⟨bt393.1, bt393.2.1⟩ : S25), (⟨(⟨0, 0⟩ : S25), (⟨0, 0⟩ : S25)⟩ : S27), 0⟩ : S29)⟩ : S65)]) x53 x54 (wrap64 (x55 + 1))) else (none))) else (none)) else (none)) else (none)) else (none)) else (none)) else ((medlarref17_Store.f k x8 x7 x9 x12).bind fun bt400 => (if bt400.2 = 0 then (if (strOfNums bt400.1).toList = (strOfNums x0).toList then (some (x8, x7, x9, x12, 0)) else (some (0, 0, 0, ([] : List (S65)), 2))) else (some (0, 0, 0, ([] : List (S65)), 2))))
end
def medlarref17_Read.f (k : Nat) (l0 : List Int) : Option (Int × Int × Int × (List (S65)) × Int) := if (l0.length : Int) > 65536 then (some (0, 0, 0, ([] : List (S65)), 3)) else (if (l0.length : Int) < 11 then (some (0, 0, 0, ([] : List (S65)), 2)) else (if 1 < (l0.length : Int) then (if 2 < (l0.length : Int) then (if 3 ≤ 11 then (if 11 ≤ (l0.length : Int) then ((medlarref17_take.f k ((l0.take 11).drop 3)).bind fun t385 => ((medlarref14_Pairs.f k (wrap64 (rd l0 2)) (wrap64 (rd l0 1)) t385).bind fun bt386 => (if bt386.2 = 0 then (medlarref17_Read.j0 k l0 (wrap64 (rd l0 1)) (wrap64 (rd l0 2)) t385 bt386.1 ((l0.length : Int) != (wrap64 (11 + (wrap64 (16 * (bt386.1.length : Int))))))) else (medlarref17_Read.j0 k l0 (wrap64 (rd l0 1)) (wrap64 (rd l0 2)) t385 bt386.1 true)))) else (none)) else (none)) else (none)) else (none)))
theorem medlarref17_Read.mono_l : ∀ k, (∀ y0 y1 y2 y3 y4 y5, LeO (medlarref17_Read.j0 k y0 y1 y2 y3 y4 y5) (medlarref17_Read.j0 (k + 1) y0 y1 y2 y3 y4 y5)) ∧ (∀ y0 y1 y2 y3 y4 y5 y6 y7, LeO (medlarref17_Read.l0 k y0 y1 y2 y3 y4 y5 y6 y7) (medlarref17_Read.l0 (k + 1) y0 y1 y2 y3 y4 y5 y6 y7))
  | 0 => ⟨fun _ _ _ _ _ _ r h => by simp [medlarref17_Read.j0] at h, fun _ _ _ _ _ _ _ _ r h => by simp [medlarref17_Read.l0] at h⟩
  | k + 1 => by
   obtain ⟨ih0, ih1⟩ := medlarref17_Read.mono_l k
   refine ⟨?_, ?_⟩
   ·intro y0 y1 y2 y3 y4 y5
    unfold medlarref17_Read.j0
    repeat' first
    | (with_reducible exact ih0 _ _ _ _ _ _)
    | (with_reducible exact ih1 _ _ _ _ _ _ _ _)
    | (with_reducible exact medlarref03_Of.mono _ _)
    | (with_reducible exact medlarref14_Pairs.mono _ _ _ _)
    | (with_reducible exact medlarref17_Store.mono _ _ _ _ _)
    | (with_reducible exact medlarref17_take.mono _ _)
    | (with_reducible exact LeO.refl _)
    | (with_reducible exact LeO.none _)
    | (with_reducible refine LeO.ite ?_ ?_)
    | (with_reducible refine LeO.bind ?_ (fun _ => ?_))
    | exact ih0 _ _ _ _ _ _
    | exact ih1 _ _ _ _ _ _ _ _
    | exact medlarref03_Of.mono _ _
    | exact medlarref14_Pairs.mono _ _ _ _
    | exact medlarref17_Store.mono _ _ _ _ _
    | exact medlarref17_take.mono _ _
    | exact LeO.none _
    | refine LeO.ite ?_ ?_
    | refine LeO.bind ?_ (fun _ => ?_)
   ·intro y0 y1 y2 y3 y4 y5 y6 y7
    unfold medlarref17_Read.l0
    repeat' first
    | (with_reducible exact ih0 _ _ _ _ _ _)
    | (with_reducible exact ih1 _ _ _ _ _ _ _ _)
    | (with_reducible exact medlarref03_Of.mono _ _)
    | (with_reducible exact medlarref14_Pairs.mono _ _ _ _)
    | (with_reducible exact medlarref17_Store.mono _ _ _ _ _)
    | (with_reducible exact medlarref17_take.mono _ _)
    | (with_reducible exact LeO.refl _)
    | (with_reducible exact LeO.none _)
    | (with_reducible refine LeO.ite ?_ ?_)
    | (with_reducible refine LeO.bind ?_ (fun _ => ?_))
    | exact ih0 _ _ _ _ _ _
    | exact ih1 _ _ _ _ _ _ _ _
    | exact medlarref03_Of.mono _ _
    | exact medlarref14_Pairs.mono _ _ _ _
    | exact medlarref17_Store.mono _ _ _ _ _
    | exact medlarref17_take.mono _ _
    | exact LeO.none _
    | refine LeO.ite ?_ ?_
    | refine LeO.bind ?_ (fun _ => ?_)
theorem medlarref17_Read.mono : ∀ a0 k, LeO (medlarref17_Read.f k a0) (medlarref17_Read.f (k + 1) a0) := by
  intro a0 k
  obtain ⟨ih0, ih1⟩ := medlarref17_Read.mono_l k
  unfold medlarref17_Read.f
  repeat' first
    | (with_reducible exact ih0 _ _ _ _ _ _)
    | (with_reducible exact ih1 _ _ _ _ _ _ _ _)
    | (with_reducible exact medlarref03_Of.mono _ _)
    | (with_reducible exact medlarref14_Pairs.mono _ _ _ _)
    | (with_reducible exact medlarref17_Store.mono _ _ _ _ _)
    | (with_reducible exact medlarref17_take.mono _ _)
    | (with_reducible exact LeO.refl _)
    | (with_reducible exact LeO.none _)
    | (with_reducible refine LeO.ite ?_ ?_)
    | (with_reducible refine LeO.bind ?_ (fun _ => ?_))
    | exact ih0 _ _ _ _ _ _
    | exact ih1 _ _ _ _ _ _ _ _
    | exact medlarref03_Of.mono _ _
    | exact medlarref14_Pairs.mono _ _ _ _
    | exact medlarref17_Store.mono _ _ _ _ _
    | exact medlarref17_take.mono _ _
    | exact LeO.none _
    | refine LeO.ite ?_ ?_
    | refine LeO.bind ?_ (fun _ => ?_)
set_option maxHeartbeats 8000000 in
set_option maxRecDepth 100000 in
theorem medlarref17_Read.calls (k : Nat) (A0 : Option Addr) (c0 : Nat) (l0 : List Int) (r1 : Int) (r2 : Int) (r3 : Int) (r4 : List (S65)) (r5 : Int) (w : World) (hr0 : Kd.C (Kd.int .u8) w A0 l0.length l0) (hc0 : l0.length ≤ c0) (h : medlarref17_Read.f k l0 = some (r1, r2, r3, r4, r5)) :
   Calls Try.prog 36 #[.slice A0 l0.length c0] w fun e w' => ∃ v3_ : Value, e = .returned (.tuple #[.int .i64 r1, .int .i64 r2, .int .u64 r3, v3_, .int .i64 r5]) ∧ Kd.R k65 65 w' w.heap.size (fun _ => True) v3_ r4 ∧ Below w.heap.size w w' := by
  have hu39 := underlying39
  have hu25 := underlying25
  have hu29 := underlying29
  have hu65 := underlying65
  have HR0 := ak_ hr0
  have HC0 := ak_ hc0
  clear hr0 hc0
  have HB := ak_ (Below.refl w.heap.size w)
  have H : (if (l0.length : Int) > 65536 then (some (0, 0, 0, ([] : List (S65)), 3)) else (if (l0.length : Int) < 11 then (some (0, 0, 0, ([] : List (S65)), 2)) else (if 1 < (l0.length : Int) then (if 2 < (l0.length : Int) then (if 3 ≤ 11 then (if 11 ≤ (l0.length : Int) then ((medlarref17_take.f k ((l0.take 11).drop 3)).bind fun t385 => ((medlarref14_Pairs.f k (wrap64 (rd l0 2)) (wrap64 (rd l0 1)) t385).bind fun bt386 => (if bt386.2 = 0 then (medlarref17_Read.j0 k l0 (wrap64 (rd l0 1)) (wrap64 (rd l0 2)) t385 bt386.1 ((l0.length : Int) != (wrap64 (11 + (wrap64 (16 * (bt386.1.length : Int))))))) else (medlarref17_Read.j0 k l0 (wrap64 (rd l0 1)) (wrap64 (rd l0 2)) t385 bt386.1 true)))) else (none)) else (none)) else (none)) else (none)))) = some (r1, r2, r3, r4, r5) := h
  clear h
  by_cases c2 : (l0.length : Int) > 65536
  ·rw [if_pos c2] at H
   have c2b0 : decide (65536 < (l0.length : Int)) = true := decide_eq_true c2
   have c2b1 : decide (65536 < l0.length) = true := decide_eq_true (by omega)
   clear c2
   simp only [some.injEq, Prod.mk.injEq] at H
   obtain ⟨rfl, rfl, rfl, rfl, rfl⟩ := H
   go_enter func36, ntmps36
   go_wp2
   refine bodyPost_ret (results_list (rs := [.tmp 2, .tmp 3, .tmp 4, .tmp 5, .tmp 6]) rfl (by simp) (.tmp (.tmp (.tmp (.tmp (.tmp .nil)))))) rfl ?_
   exact ⟨_, by first | rfl | (simp <;> rfl) | (simp [*] <;> rfl), by first | exact Kd.R_nil _ _ _ _ _ | exact Kd.N_nil _ _ _ _ _ | exact Kd.V_nil _ _ _ _ _ | exact Kd.Q_nil _ _ _ _ _ | exact Kd.S_nil _ _ _ _ _, bl_ HB⟩
  ·rw [if_neg c2] at H
   have c2b0 : decide (65536 < (l0.length : Int)) = false := decide_eq_false c2
   have c2b1 : decide (65536 < l0.length) = false := decide_eq_false (by omega)
   clear c2
   by_cases c3 : (l0.length : Int) < 11
   ·rw [if_pos c3] at H
    have c3b0 := decide_eq_true c3
    have c3b1 : decide (l0.length < 11) = true := decide_eq_true (by omega)
    clear c3
    simp only [some.injEq, Prod.mk.injEq] at H
    obtain ⟨rfl, rfl, rfl, rfl, rfl⟩ := H
    go_enter func36, ntmps36
    go_wp2
    refine bodyPost_ret (results_list (rs := [.tmp 2, .tmp 3, .tmp 4, .tmp 5, .tmp 6]) rfl (by simp) (.tmp (.tmp (.tmp (.tmp (.tmp .nil)))))) rfl ?_
    exact ⟨_, by first | rfl | (simp <;> rfl) | (simp [*] <;> rfl), by first | exact Kd.R_nil _ _ _ _ _ | exact Kd.N_nil _ _ _ _ _ | exact Kd.V_nil _ _ _ _ _ | exact Kd.Q_nil _ _ _ _ _ | exact Kd.S_nil _ _ _ _ _, bl_ HB⟩
   ·rw [if_neg c3] at H
    have c3b0 := decide_eq_false c3
    have c3b1 : decide (l0.length < 11) = false := decide_eq_false (by omega)
    clear c3
    by_cases c4 : 1 < (l0.length : Int)
    ·rw [if_pos c4] at H
     have c4b0 := decide_eq_true c4
     have c4b1 : decide (1 < l0.length) = true := decide_eq_true (by omega)
     clear c4
     by_cases c5 : 2 < (l0.length : Int)
     ·rw [if_pos c5] at H
      have c5b0 := decide_eq_true c5
      have c5b1 : decide (2 < l0.length) = true := decide_eq_true (by omega)
      clear c5
      by_cases c6 : 3 ≤ 11
      ·rw [if_pos c6] at H
       have c6b0 := eq_true c6
       have c6b1 := decide_eq_true c6
       clear c6
       by_cases c7 : 11 ≤ (l0.length : Int)
       ·rw [if_pos c7] at H
        have c7b0 := eq_true c7
        have c7b1 := decide_eq_true c7
        clear c7
        replace H := bind_eq_some_iff.mp H
        obtain ⟨t385, A80, H⟩ := H
        replace H : ((medlarref14_Pairs.f k (wrap64 (rd l0 2)) (wrap64 (rd l0 1)) t385).bind fun bt386 => (if bt386.2 = 0 then (medlarref17_Read.j0 k l0 (wrap64 (rd l0 1)) (wrap64 (rd l0 2)) t385 bt386.1 ((l0.length : Int) != (wrap64 (11 + (wrap64 (16 * (bt386.1.length : Int))))))) else (medlarref17_Read.j0 k l0 (wrap64 (rd l0 1)) (wrap64 (rd l0 2)) t385 bt386.1 true))) = some (r1, r2, r3, r4, r5) := H
        have A8 := ak_ A80
        clear A80
        replace H := bind_eq_some_iff.mp H
        obtain ⟨⟨t386, t387⟩, A90, H⟩ := H
        replace H : (if t387 = 0 then (medlarref17_Read.j0 k l0 (wrap64 (rd l0 1)) (wrap64 (rd l0 2)) t385 t386 ((l0.length : Int) != (wrap64 (11 + (wrap64 (16 * (t386.length : Int))))))) else (medlarref17_Read.j0 k l0 (wrap64 (rd l0 1)) (wrap64 (rd l0 2)) t385 t386 true)) = some (r1, r2, r3, r4, r5) := H
        have A9 := ak_ A90
        clear A90
        have HC10 := ak_ H
        clear H
        have p382 : 0 ≤ (1 : Int) := (by omega)
        have q382 : 1 < (l0.length : Int) := od_ (by first | (with_reducible assumption) | assumption)
        obtain ⟨ad382, e382, hx382_0⟩ := Kd.at_int HR0.out 1 p382 q382
        cases e382
        (try simp only [show (1 : Int).toNat = 1 from rfl, Nat.reduceMul, Nat.reduceEqDiff, Go.Addr.add, ↓reduceIte] at hx382_0)
        have qi382 : (1 < l0.length) = True := eq_true (by omega)
        (try rw [show ((1 : Int)).toNat = 1 from rfl] at hx382_0)
        replace p382 := eq_true p382
        replace q382 := eq_true q382
        have p383 : 0 ≤ (2 : Int) := (by omega)
        have q383 : 2 < (l0.length : Int) := od_ (by first | (with_reducible assumption) | assumption)
        obtain ⟨ad383, e383, hx383_0⟩ := Kd.at_int HR0.out 2 p383 q383
        obtain rfl : ad382 = ad383 := (by injection e383)
        (try simp only [show (2 : Int).toNat = 2 from rfl, Nat.reduceMul, Nat.reduceEqDiff, Go.Addr.add, ↓reduceIte] at hx383_0)
        have qi383 : (2 < l0.length) = True := eq_true (by omega)
        (try rw [show ((2 : Int)).toNat = 2 from rfl] at hx383_0)
        replace p383 := eq_true p383
        replace q383 := eq_true q383
        obtain ⟨i011, hi011, _, hsz11, _⟩ := info_parts info5
        obtain ⟨A11, hcut11, hA11, hC11⟩ := print_mid_of (P := Try.prog) (Value.int .u8) 0 35 5 .i64 .i64 underlying35 hi011 hsz11 (some ad382) c0 l0 3 11 (by omega) (by first | omega | exact od_ (by first | (with_reducible assumption) | assumption)) (od_ (by first | (with_reducible assumption) | assumption)) HC0.out
        have HR384 := ak_ (Kd.C_of_reads (h1 := fun _ => rfl) (hA11 _ (Kd.reads_of_C HR0.out)))
        have HC384 := ak_ hC11
        clear hA11 hC11 hi011 hsz11
        go_enter func36, ntmps36
        go_upto_region 9 with (first | ((with_reducible refine gate_callee (f := 72) rfl ?_); refine goesL_ (some 34) rfl rfl func72 (by kernel_rfl) rfl #[.slice A11 ((l0.take 11).drop 3).length (c0 - 3)] rfl (by (try simp only [map_toArray, map_cons, map_nil]); first | done | (rw [show ((l0.take 11).drop 3).length = (11 - 3) from (by rw [List.length_drop, List.length_take]; have h_ : (11 : Int) ≤ (l0.length : Int) := od_ (by first | (with_reducible assumption) | assumption); omega)] <;> rfl) | rfl | (simp only [length_drop, length_take]; rfl)) ?_; (with_reducible refine (medlarref17_take.calls k _ _ ((l0.take 11).drop 3) t385 _ ?side1 ?side2 A8.out).mono ?_); (case side1 => repeat (first | exact HR384.out | (with_reducible refine Kd.C_alloc ?_ _) | (with_reducible refine Kd.C_drewN ?_ _) | (with_reducible refine Kd.C_drew ?_))); (case side2 => exact HC384.out); rintro e w' ⟨rfl, ⟨nd, rfl⟩⟩; refine ⟨_, rfl, ?_⟩) | ((with_reducible refine gate_callee (f := 80) rfl ?_); refine gl_ (some 39) func80 #[.int .i64 (wrap64 (rd l0 2)), .int .i64 (wrap64 (rd l0 1)), .int .u64 t385] ?_; (with_reducible refine (medlarref14_Pairs.calls k (wrap64 (rd l0 2)) (wrap64 (rd l0 1)) t385 t386 t387 _ A9.out).mono ?_); rintro e w12 ⟨v388, rfl, ho0, hb⟩; refine ⟨_, rfl, ?_⟩; have HO389 := ak_ (Kd.R_lower ho0 (bz_ (bl_ HB))); replace HB := ak_ (bt_ (bl_ HB) hb); (try clear hb); (try clear hk); (try clear ho0)))
        (try simp only [Act.put, setIfInBounds_toArray, set_cons_zero, set_cons_succ])
        go_cut [52] (fun v52 wc => ∃ (kq : Nat) (x52_9 : Bool), v52 = .bool x52_9 ∧ Aside0 (medlarref17_Read.j0 kq l0 (wrap64 (rd l0 1)) (wrap64 (rd l0 2)) t385 t386 x52_9 = some (r1, r2, r3, r4, r5)) ∧ Aside0 (kq ≤ k) ∧ Aside0 (Kd.R k39 39 wc w.heap.size (fun _ => True) v388 t386) ∧ Aside0 (Below w.heap.size w wc))
        case first =>
         have H := HC10.out
         clear HC10
         by_cases c13 : t387 = 0
         ·rw [if_pos c13] at H
          have c13b0 : (t387 == 0) = true := beq_iff_eq.mpr c13
          have c13b1 : (t387 != 0) = false := bne_eq_false_iff_eq.mpr c13
          clear c13
          (first | rw [c13b0] | (simp only [i64_w, i32_w]; rw [c13b0]) | skip)
          have H' := ak_ H
          clear H
          obtain ⟨Ao14, co14, eo14⟩ := Kd.R_slice HO389.out
          subst eo14
          go_wp2
          go_meet
          case rel => exact ⟨_, (((l0.length : Int) != (wrap64 (11 + (wrap64 (16 * (t386.length : Int))))))), rf_, H', ⟨by first | omega | exact Nat.le_refl _⟩, ⟨rl_ HO389⟩, ⟨bl_ HB⟩⟩
         ·rw [if_neg c13] at H
          have c13b0 : (t387 == 0) = false := beq_eq_false_iff_ne.mpr c13
          have c13b1 : (t387 != 0) = true := bne_iff_ne.mpr c13
          (first | rw [c13b0] | (simp only [i64_w, i32_w]; rw [c13b0]) | skip)
          have H' := ak_ H
          clear H
          go_wp2
          go_meet
          case rel => exact ⟨_, (true), rf_, H', ⟨by first | omega | exact Nat.le_refl _⟩, ⟨rl_ HO389⟩, ⟨bl_ HB⟩⟩
        case rest =>
         clear HC10
         try clear c1
         try clear c2
         try clear c2b0
         try clear c2b1
         try clear p2
         try clear c3
         try clear c3b0
         try clear c3b1
         try clear p3
         try clear q3
         try clear hx3
         try clear qi3
         try clear c4
         try clear c4b0
         try clear c4b1
         try clear c5
         try clear c5b0
         try clear c5b1
         try clear c6
         try clear c6b0
         try clear c6b1
         try clear p6
         try clear c7
         try clear c7b0
         try clear c7b1
         try clear c8
         try clear c13
         try clear c13b0
         try clear c13b1
         try clear hx382_0
         try clear hx383_0
         try clear p382
         try clear p383
         try clear q382
         try clear q383
         obtain ⟨kq, x52_9, rfl, HA, HJ9, HO_10, HB⟩ := hcut
         cases kq with
         | zero => exact absurd HA.out (by simp [medlarref17_Read.j0])
         | succ kj9 =>
          have H := HA.out
          clear HA
          simp only [medlarref17_Read.j0] at H
          by_cases c15 : x52_9 = true
          ·subst c15
           have H1 : (some (0, 0, 0, ([] : List (S65)), 2)) = some (r1, r2, r3, r4, r5) := by rw [if_pos rfl] at H; exact H
           clear H
           have H := H1
           clear H1
           simp only [some.injEq, Prod.mk.injEq] at H
           obtain ⟨rfl, rfl, rfl, rfl, rfl⟩ := H
           go_wp2
           refine bodyPost_ret (results_list (rs := [.tmp 2, .tmp 3, .tmp 4, .tmp 5, .tmp 6]) rfl (by simp) (.tmp (.tmp (.tmp (.tmp (.tmp .nil)))))) rfl ?_
           exact ⟨_, by first | rfl | (simp <;> rfl) | (simp [*] <;> rfl), by first | exact Kd.R_nil _ _ _ _ _ | exact Kd.N_nil _ _ _ _ _ | exact Kd.V_nil _ _ _ _ _ | exact Kd.Q_nil _ _ _ _ _ | exact Kd.S_nil _ _ _ _ _, bl_ HB⟩
          ·replace c15 := Bool.eq_false_iff.mpr c15
           subst c15
           have H1 : (medlarref17_Read.l0 kj9 l0 (wrap64 (rd l0 1)) (wrap64 (rd l0 2)) t385 ([] : List (S65)) t386 (t386.length : Int) 0) = some (r1, r2, r3, r4, r5) := by rw [if_neg (show ¬ (false = true) by decide)] at H; exact H
           clear H
           have H := H1
           clear H1
           have H' := ak_ H
           clear H
           obtain ⟨Ao16, co16, eo16⟩ := Kd.R_slice HO_10.out
           subst eo16
           go_wp2
           go_loopg [12, 55] kj9 (fun kq v12 v55 w' => ∃ (x12_2 : List (S65)) (x55_2 : Int), v55 = .int .i64 x55_2 ∧ Aside0 (medlarref17_Read.l0 kq l0 (wrap64 (rd l0 1)) (wrap64 (rd l0 2)) t385 x12_2 t386 (t386.length : Int) x55_2 = some (r1, r2, r3, r4, r5)) ∧ Aside0 (kq ≤ kj9) ∧ Aside0 (Kd.R k65 65 w' w.heap.size (fun _ => True) v12 x12_2) ∧ Aside0 (Kd.R k39 39 w' w.heap.size (fun _ => True) (.slice Ao16 t386.length co16) t386) ∧ Aside0 (Below w.heap.size w w'))
           case atStart => exact ⟨(([] : List (S65))), (0), rf_, H', ⟨Nat.le_refl _⟩, ⟨by first | exact Kd.R_nil _ _ _ _ _ | exact Kd.N_nil _ _ _ _ _ | exact Kd.V_nil _ _ _ _ _ | exact Kd.Q_nil _ _ _ _ _ | exact Kd.S_nil _ _ _ _ _⟩, ⟨rl_ HO_10⟩, ⟨bl_ HB⟩⟩
           case round =>
            clear H'
            try clear c1
            try clear c2
            try clear c2b0
            try clear c2b1
            try clear p2
            try clear c3
            try clear c3b0
            try clear c3b1
            try clear p3
            try clear q3
            try clear hx3
            try clear qi3
            try clear c4
            try clear c4b0
            try clear c4b1
            try clear c5
            try clear c5b0
            try clear c5b1
            try clear c6
            try clear c6b0
            try clear c6b1
            try clear p6
            try clear c7
            try clear c7b0
            try clear c7b1
            try clear c8
            try clear c13
            try clear c13b0
            try clear c13b1
            try clear c15
            try clear hx382_0
            try clear hx383_0
            try clear p2
            try clear p3
            try clear p382
            try clear p383
            try clear p6
            try clear q3
            try clear q382
            try clear q383
            obtain ⟨x12_2, x55_2, rfl, HA, HK2, HO_12, HO_53, HB⟩ := hrel
            cases gk with
            | zero => exact absurd HA.out (by simp [medlarref17_Read.l0])
            | succ k2 =>
             have H := HA.out
             clear HA
             simp only [medlarref17_Read.l0] at H
             by_cases c17 : x55_2 < (t386.length : Int)
             ·rw [if_pos c17] at H
              have c17b0 := decide_eq_true c17
              clear c17
              by_cases c18 : 0 ≤ x55_2
              ·rw [if_pos c18] at H
               have c18b0 := decide_eq_true c18
               clear c18
               by_cases c19 : x55_2 < (t386.length : Int)
               ·rw [if_pos c19] at H
                have c19b0 := decide_eq_true c19
                clear c19
                obtain ⟨ji20, hji20⟩ : ∃ j_ : Int, (wrap64 (11 + (wrap64 (16 * x55_2)))) = j_ := ⟨_, rfl⟩
                replace H : (if 0 ≤ (ji20) then (if (ji20) ≤ (wrap64 (27 + (wrap64 (16 * x55_2)))) then (if (wrap64 (27 + (wrap64 (16 * x55_2)))) ≤ (l0.length : Int) then ((medlarref03_Of.f k2 ((l0.take ((wrap64 (27 + (wrap64 (16 * x55_2)))) : Int).toNat).drop ((ji20) : Int).toNat)).bind fun bt393 => (if x12_2.length < 1759218604441 then (medlarref17_Read.l0 k2 l0 (wrap64 (rd l0 1)) (wrap64 (rd l0 2)) t385 (x12_2 ++ [(⟨(⟨(rd_T39 t386 x55_2).f0, (rd_T39 t386 x55_2).f1⟩ : S39), (⟨false, false, (⟨bt393.1, bt393.2.1⟩ : S25), (⟨(⟨0, 0⟩ : S25), (⟨0, 0⟩ : S25)⟩ : S27), 0⟩ : S29)⟩ : S65)]) t386 (t386.length : Int) (wrap64 (x55_2 + 1))) else (none))) else (none)) else (none)) else (none)) = some (r1, r2, r3, r4, r5) := by first | (rw [hji20] at H; exact H) | (simp only [hji20] at H ⊢; exact H)
                have hji20w : (IntKind.i64.wrap (11 + (wrap64 (16 * x55_2)))) = ji20 := (i64_w _).trans hji20
                by_cases c21 : 0 ≤ (ji20)
                ·rw [if_pos c21] at H
                 have c21b0 := eq_true c21
                 have c21b1 := decide_eq_true c21
                 clear c21
                 by_cases c22 : (ji20) ≤ (wrap64 (27 + (wrap64 (16 * x55_2))))
                 ·rw [if_pos c22] at H
                  have c22b0 := eq_true c22
                  have c22b1 := decide_eq_true c22
                  by_cases c23 : (wrap64 (27 + (wrap64 (16 * x55_2)))) ≤ (l0.length : Int)
                  ·rw [if_pos c23] at H
                   have c23b0 := eq_true c23
                   have c23b1 := decide_eq_true c23
                   replace H := bind_eq_some_iff.mp H
                   obtain ⟨⟨t393, t394, t395⟩, A240, H⟩ := H
                   replace H : (if x12_2.length < 1759218604441 then (medlarref17_Read.l0 k2 l0 (wrap64 (rd l0 1)) (wrap64 (rd l0 2)) t385 (x12_2 ++ [(⟨(⟨(rd_T39 t386 x55_2).f0, (rd_T39 t386 x55_2).f1⟩ : S39), (⟨false, false, (⟨t393, t394⟩ : S25), (⟨(⟨0, 0⟩ : S25), (⟨0, 0⟩ : S25)⟩ : S27), 0⟩ : S29)⟩ : S65)]) t386 (t386.length : Int) (wrap64 (x55_2 + 1))) else (none)) = some (r1, r2, r3, r4, r5) := H
                   have A24 := ak_ A240
                   clear A240
                   by_cases c25 : x12_2.length < 1759218604441
                   ·rw [if_pos c25] at H
                    have LMc25 := ak_ c25
                    clear c25
                    obtain ⟨y397, hy397⟩ : ∃ y_ : List (S65), y_ = (x12_2 ++ [(⟨(⟨(rd_T39 t386 x55_2).f0, (rd_T39 t386 x55_2).f1⟩ : S39), (⟨false, false, (⟨t393, t394⟩ : S25), (⟨(⟨0, 0⟩ : S25), (⟨0, 0⟩ : S25)⟩ : S27), 0⟩ : S29)⟩ : S65)]) := ⟨_, rfl⟩
                    replace H : (medlarref17_Read.l0 k2 l0 (wrap64 (rd l0 1)) (wrap64 (rd l0 2)) t385 y397 t386 (t386.length : Int) (wrap64 (x55_2 + 1))) = some (r1, r2, r3, r4, r5) := by first | (rw [hy397]; with_reducible exact H) | (have H2_ := (Option.bind_some _ _).symm.trans H; rw [hy397]; with_reducible exact H2_) | (have H2_ := (Option.bind_some _ _).symm.trans H; with_reducible exact H2_) | with_reducible exact H | (rw [hy397]; exact H) | exact H
                    have Ny397 := ak_ hy397
                    clear hy397
                    have H' := ak_ H
                    clear H
                    have p390 : 0 ≤ (x55_2 : Int) := od_ (by first | (with_reducible assumption) | assumption)
                    have q390 : x55_2 < (t386.length : Int) := od_ (by first | (with_reducible assumption) | assumption)
                    obtain ⟨ad390, e390, hx390_0, hx390_1⟩ := at_T39 (Kd.R_reads' HO_53.out).2.2 x55_2 p390 q390
                    cases e390
                    replace p390 := eq_true p390
                    replace q390 := eq_true q390
                    go_wp2_with (first | ((with_reducible refine gate_dst (N := 14) rfl ?_); (try (refine gate_guard (by rfl) ?_; dsimp only)); refine bx_ 14 #[.int .u64 0, .int .u64 0] 39 ?_; intro gb391 hg w26 hbox hb; replace HO_12 := ak_ (Kd.R_below (rl_ HO_12) hb); replace HO_53 := ak_ (Kd.R_below (Kd.R_elderB (rl_ HO_53) gb391 (Nat.le_of_eq hg.symm)) hb); have BK391 := ak_ hbox; have GW391 := ak_ (gs_ hg HB); have GE391 := ak_ (gs_ hg HB); replace HB := ak_ (bt_ (bl_ HB) hb); clear hb hbox hg; have hcz27_0 := kq_ BK391.out 0 rfl; have hcz27_1 := kq_ BK391.out 1 rfl; have hfz27_0 := kf_ BK391.out 0; have hfz27_1 := kf_ BK391.out 1; obtain ⟨i028, hi028, _, hsz28, _⟩ := info_parts info5; obtain ⟨A28, hcut28, hA28, hC28⟩ := print_mid_of (P := Try.prog) (Value.int .u8) 0 35 5 .i64 .i64 underlying35 hi028 hsz28 (some ad382) c0 l0 (ji20) (wrap64 (27 + (wrap64 (16 * x55_2)))) (od_ (by first | (with_reducible assumption) | assumption)) (by first | omega | exact od_ (by first | (with_reducible assumption) | assumption)) (od_ (by first | (with_reducible assumption) | assumption)) HC0.out; have HR392 := ak_ (Kd.C_of_reads (h1 := fun _ => rfl) (hA28 _ (Kd.reads_of_C HR0.out))); have HC392 := ak_ hC28; clear hA28 hC28 hi028 hsz28) | ((with_reducible refine gate_callee (f := 81) rfl ?_); refine goesL_ (some 69) rfl rfl func81 (by kernel_rfl) rfl #[.slice A28 ((l0.take ((wrap64 (27 + (wrap64 (16 * x55_2)))) : Int).toNat).drop ((ji20) : Int).toNat).length (c0 - (ji20).toNat)] rfl (by (try simp only [map_toArray, map_cons, map_nil]); first | done | (rw [show ((l0.take ((wrap64 (27 + (wrap64 (16 * x55_2)))) : Int).toNat).drop ((ji20) : Int).toNat).length = ((wrap64 (27 + (wrap64 (16 * x55_2)))).toNat - (ji20).toNat) from (by rw [List.length_drop, List.length_take]; have h_ : ((wrap64 (27 + (wrap64 (16 * x55_2)))) : Int) ≤ (l0.length : Int) := od_ (by first | (with_reducible assumption) | assumption); omega)] <;> rfl) | (simp only [hji20]; rfl) | rfl | (simp only [length_drop, length_take]; rfl)) ?_; (with_reducible refine (medlarref03_Of.calls k2 _ _ ((l0.take ((wrap64 (27 + (wrap64 (16 * x55_2)))) : Int).toNat).drop ((ji20) : Int).toNat) t393 t394 t395 _ ?side1 ?side2 A24.out).mono ?_); (case side1 => exact Kd.C_below HR392.out (by repeat (first | (with_reducible first | exact HB.out | apply ba_ | apply bn_ | apply bd_ | refine below_set ?_ GE391.out) | exact HB.out))); (case side2 => exact HC392.out); rintro e w29 ⟨rfl, hb⟩; refine ⟨_, rfl, ?_⟩; replace HO_12 := ak_ (Kd.R_below (by (with_reducible repeat (first | apply Kd.R_alloc | apply Kd.R_drewN | apply Kd.R_drew)); exact (Kd.R_mono (Kd.R_far (p := ⟨gb391, 1, none⟩) (Kd.R_far (p := ⟨gb391, 0, none⟩) (Kd.R_types HO_12.out BK391.out (by decide)) (fun _ hk => hk.2) (.int .u64 ((rd_T39 t386 x55_2).f0))) (fun _ hk => hk.2) (.int .u64 ((rd_T39 t386 x55_2).f1))) (fun _ h_ => h_.1))) hb); replace HO_53 := ak_ (Kd.R_below (by (with_reducible repeat (first | apply Kd.R_alloc | apply Kd.R_drewN | apply Kd.R_drew)); exact (Kd.R_mono (Kd.R_far (p := ⟨gb391, 1, none⟩) (Kd.R_far (p := ⟨gb391, 0, none⟩) (Kd.R_mono HO_53.out (fun k_ hk => (⟨hk, hk.2⟩ : _ ∧ k_ ≠ gb391))) (fun _ hk => hk.2) (.int .u64 ((rd_T39 t386 x55_2).f0))) (fun _ hk => hk.2) (.int .u64 ((rd_T39 t386 x55_2).f1))) (fun _ h_ => h_.1))) hb); replace BK391 := ak_ (kb_ (g := gb391) (o := .cells #[.int .u64 ((rd_T39 t386 x55_2).f0), .int .u64 ((rd_T39 t386 x55_2).f1)] 39 (0, 0)) (by (with_reducible repeat (first | refine kn_ ?_ _ | refine kd_ ?_ | refine ka_ ?_ _)); refine blk_put (cs := #[.int .u64 ((rd_T39 t386 x55_2).f0), .int .u64 0]) ?_ 1 _ rfl; (with_reducible repeat (first | refine kn_ ?_ _ | refine kd_ ?_ | refine ka_ ?_ _)); refine blk_put (cs := #[.int .u64 0, .int .u64 0]) ?_ 0 _ rfl; (with_reducible repeat (first | refine kn_ ?_ _ | refine kd_ ?_ | refine ka_ ?_ _)); exact BK391.out) hb); replace HB := ak_ (bt_ (by repeat (first | (with_reducible first | exact HB.out | apply ba_ | apply bn_ | apply bd_ | refine below_set ?_ GE391.out) | exact HB.out)) hb); (try clear hb); (try clear hk)) | ((with_reducible refine gate_dst (N := 15) rfl ?_); (try (refine gate_guard (by rfl) ?_; dsimp only)); refine bx_ 15 #[.int .u64 0, .int .u64 0] 25 ?_; intro gb396 hg w30 hbox hb; replace HO_12 := ak_ (Kd.R_below (rl_ HO_12) hb); replace HO_53 := ak_ (Kd.R_below (rl_ HO_53) hb); have BK396 := ak_ hbox; have GW396 := ak_ (by rw [hg]; exact (bz_ (by repeat (first | (with_reducible first | exact HB.out | apply ba_ | apply bn_ | apply bd_ | refine below_set ?_ GE391.out) | exact HB.out))) : w.heap.size ≤ gb396); have GE396 := ak_ (by rw [hg]; exact (bz_ (by repeat (first | (with_reducible first | exact HB.out | apply ba_ | apply bn_ | apply bd_ | refine below_set ?_ GE391.out) | exact HB.out))) : w.heap.size ≤ gb396); replace HB := ak_ (bt_ (by repeat (first | (with_reducible first | exact HB.out | apply ba_ | apply bn_ | apply bd_ | refine below_set ?_ GE391.out) | exact HB.out)) hb); have NB391_396 := ak_ (by rw [hg]; exact Nat.ne_of_lt (blk_lt (g := gb391) (o := .cells #[.int .u64 ((rd_T39 t386 x55_2).f0), .int .u64 ((rd_T39 t386 x55_2).f1)] 39 (0, 0)) (kl_ BK391)) : gb391 ≠ gb396); have NB396_391 := ak_ (by rw [hg]; exact Nat.ne_of_gt (blk_lt (g := gb391) (o := .cells #[.int .u64 ((rd_T39 t386 x55_2).f0), .int .u64 ((rd_T39 t386 x55_2).f1)] 39 (0, 0)) (kl_ BK391)) : gb396 ≠ gb391); replace BK391 := ak_ (kb_ (g := gb391) (o := .cells #[.int .u64 ((rd_T39 t386 x55_2).f0), .int .u64 ((rd_T39 t386 x55_2).f1)] 39 (0, 0)) (kl_ BK391) hb); clear hb hbox hg; have hnb31 := NB396_391.out; have hnc31 := NB391_396.out; have hcz32_0 := kq_ BK396.out 0 rfl; have hcz32_1 := kq_ BK396.out 1 rfl; have hfz32_0 := kf_ BK396.out 0; have hfz32_1 := kf_ BK396.out 1; have hcz33_0 := kq_ BK391.out 0 rfl; have hcz33_1 := kq_ BK391.out 1 rfl; have hfz33_0 := kf_ BK391.out 0; have hfz33_1 := kf_ BK391.out 1) | ((with_reducible refine gate_builtin (b := .append) (xs := #[.tmp 72, .tmp 77]) rfl ?_); (try (refine gate_guard (by rfl) ?_; dsimp only)); at_builtin; refine Kd.R_append k65 (w0 := w) w.heap.size rfl (.tmp 72) (.tmp 77) 59 65 (.agg #[(.int .u64 0), (.int .u64 0), (.bool false), (.bool false), (.int .u64 0), (.int .u64 0), (.int .u64 0), (.int .u64 0), (.int .u64 0), (.int .u64 0), (.int .i64 0)]) 80 rfl underlying59 info65 rfl (by decide) (by omega) u12 x12_2 (⟨(⟨(rd_T39 t386 x55_2).f0, (rd_T39 t386 x55_2).f1⟩ : S39), (⟨false, false, (⟨t393, t394⟩ : S25), (⟨(⟨0, 0⟩ : S25), (⟨0, 0⟩ : S25)⟩ : S27), 0⟩ : S29)⟩ : S65) [.int .u64 ((rd_T39 t386 x55_2).f0), .int .u64 ((rd_T39 t386 x55_2).f1), .bool false, .bool false, .int .u64 t393, .int .u64 t394, .int .u64 0, .int .u64 0, .int .u64 0, .int .u64 0, .int .i64 0] (fun _ => True) (fun _ => False) rfl (by first | (go_simp; done) | (go_simp; rfl)) ?aP (fun _ hk => hk.elim) ?aF ?aO ?aB ?aS ?aL ?_; (case aP => exact k65_mkM _ _ _ (⟨(⟨(rd_T39 t386 x55_2).f0, (rd_T39 t386 x55_2).f1⟩ : S39), (⟨false, false, (⟨t393, t394⟩ : S25), (⟨(⟨0, 0⟩ : S25), (⟨0, 0⟩ : S25)⟩ : S27), 0⟩ : S29)⟩ : S65)); (case aB => exact (by repeat (first | (with_reducible first | exact HB.out | apply ba_ | apply bn_ | apply bd_ | refine below_set ?_ GE391.out | refine below_set ?_ GE396.out) | exact HB.out))); (case aF => exact (fun _ _ => trivial)); (case aO => exact (by (with_reducible repeat (first | apply Kd.R_alloc | apply Kd.R_drewN | apply Kd.R_drew)); exact Kd.R_mono (Kd.R_far (p := ⟨gb396, 1, none⟩) (Kd.R_far (p := ⟨gb396, 0, none⟩) (Kd.R_types HO_12.out BK396.out (by decide)) (fun _ hk => hk.2) (.int .u64 t393)) (fun _ hk => hk.2) (.int .u64 t394)) (fun _ hk => trivial))); (case aS => exact (bz_ (by repeat (first | (with_reducible first | exact HB.out | apply ba_ | apply bn_ | apply bd_ | refine below_set ?_ GE391.out | refine below_set ?_ GE396.out) | exact HB.out)))); (case aL => have := LMc25.out; omega); intro v398 w34 ho hb hg hat; rw [← Ny397.out] at ho; replace HO_53 := ak_ (Kd.R_over' (by (with_reducible repeat (first | apply Kd.R_alloc | apply Kd.R_drewN | apply Kd.R_drew)); exact (Kd.R_mono (Kd.R_far (p := ⟨gb396, 1, none⟩) (Kd.R_far (p := ⟨gb396, 0, none⟩) (Kd.R_types HO_53.out BK396.out (by decide)) (fun _ hk => hk.2) (.int .u64 t393)) (fun _ hk => hk.2) (.int .u64 t394)) (fun _ h_ => h_.1))) (Kd.R_typed (by (with_reducible repeat (first | apply Kd.R_alloc | apply Kd.R_drewN | apply Kd.R_drew)); exact (Kd.R_mono (Kd.R_far (p := ⟨gb396, 1, none⟩) (Kd.R_far (p := ⟨gb396, 0, none⟩) (Kd.R_types HO_12.out BK396.out (by decide)) (fun _ hk => hk.2) (.int .u64 t393)) (fun _ hk => hk.2) (.int .u64 t394)) (fun _ h_ => h_.1)))) (by decide) hg); replace BK391 := ak_ (blk_grown (g := gb391) (o := .cells #[.int .u64 ((rd_T39 t386 x55_2).f0), .int .u64 ((rd_T39 t386 x55_2).f1)] 39 (0, 0)) (by (with_reducible repeat (first | refine kn_ ?_ _ | refine kd_ ?_ | refine ka_ ?_ _)); refine blk_far ?_ NB391_396.out _; (with_reducible repeat (first | refine kn_ ?_ _ | refine kd_ ?_ | refine ka_ ?_ _)); refine blk_far ?_ NB391_396.out _; (with_reducible repeat (first | refine kn_ ?_ _ | refine kd_ ?_ | refine ka_ ?_ _)); exact BK391.out) hg (Kd.R_ne HO_12.out BK391.out (by decide))); replace BK396 := ak_ (blk_grown (g := gb396) (o := .cells #[.int .u64 t393, .int .u64 t394] 25 (0, 0)) (by (with_reducible repeat (first | refine kn_ ?_ _ | refine kd_ ?_ | refine ka_ ?_ _)); refine blk_put (cs := #[.int .u64 t393, .int .u64 0]) ?_ 1 _ rfl; (with_reducible repeat (first | refine kn_ ?_ _ | refine kd_ ?_ | refine ka_ ?_ _)); refine blk_put (cs := #[.int .u64 0, .int .u64 0]) ?_ 0 _ rfl; (with_reducible repeat (first | refine kn_ ?_ _ | refine kd_ ?_ | refine ka_ ?_ _)); exact BK396.out) hg (Kd.R_ne HO_12.out BK396.out (by decide))); replace HB := ak_ hb; have HO399 := ak_ ho; clear HO_12; clear ho hb hg hat))
                    go_roundg k2
                    case measure => have := HJ9.out; have := HK2.out; omega
                    case rel => exact ⟨(y397), (wrap64 (x55_2 + 1)), rf_, H', ⟨by have := HJ9.out; have := HK2.out; omega⟩, ⟨rl_ HO399⟩, ⟨by (with_reducible repeat (first | apply Kd.R_alloc | apply Kd.R_drewN | apply Kd.R_drew)); exact Kd.R_mono HO_53.out (fun _ hk => trivial)⟩, ⟨by repeat (first | (with_reducible first | exact HB.out | apply ba_ | apply bn_ | apply bd_ | refine below_set ?_ GE391.out | refine below_set ?_ GE396.out) | exact HB.out)⟩⟩
                   ·rw [if_neg c25] at H
                    exact absurd H (by simp)
                  ·rw [if_neg c23] at H
                   exact absurd H (by simp)
                 ·rw [if_neg c22] at H
                  exact absurd H (by simp)
                ·rw [if_neg c21] at H
                 exact absurd H (by simp)
               ·rw [if_neg c19] at H
                exact absurd H (by simp)
              ·rw [if_neg c18] at H
               exact absurd H (by simp)
             ·rw [if_neg c17] at H
              have c17b0 := decide_eq_false c17
              clear c17
              replace H := bind_eq_some_iff.mp H
              obtain ⟨⟨t400, t401⟩, A350, H⟩ := H
              replace H : (if t401 = 0 then (if (strOfNums t400).toList = (strOfNums l0).toList then (some ((wrap64 (rd l0 2)), (wrap64 (rd l0 1)), t385, x12_2, 0)) else (some (0, 0, 0, ([] : List (S65)), 2))) else (some (0, 0, 0, ([] : List (S65)), 2))) = some (r1, r2, r3, r4, r5) := H
              have A35 := ak_ A350
              clear A350
              by_cases c36 : t401 = 0
              ·rw [if_pos c36] at H
               have c36b0 : (t401 == 0) = true := beq_iff_eq.mpr c36
               have c36b1 : (t401 != 0) = false := bne_eq_false_iff_eq.mpr c36
               clear c36
               by_cases c37 : (strOfNums t400).toList = (strOfNums l0).toList
               ·rw [if_pos c37] at H
                have c37b0 : ((strOfNums t400).toList == (strOfNums l0).toList) = true := beq_iff_eq.mpr c37
                have c37b1 : ((strOfNums t400).toList != (strOfNums l0).toList) = false := bne_eq_false_iff_eq.mpr c37
                clear c37
                simp only [some.injEq, Prod.mk.injEq] at H
                obtain ⟨rfl, rfl, rfl, rfl, rfl⟩ := H
                obtain ⟨Ao38, co38, eo38⟩ := Kd.R_slice HO_12.out
                subst eo38
                go_wp2_with (first | ((with_reducible refine gate_callee (f := 34) rfl ?_); refine gl_ (some 85) func34 #[.int .i64 (wrap64 (rd l0 2)), .int .i64 (wrap64 (rd l0 1)), .int .u64 t385, .slice Ao38 x12_2.length co38] ?_; (with_reducible refine (medlarref17_Store.calls k2 (wrap64 (rd l0 2)) (wrap64 (rd l0 1)) t385 _ _ x12_2 t400 t401 _ ?side1 ?side2 A35.out).mono ?_); (case side1 => repeat (first | exact (Kd.R_reads' HO_12.out).2.2 | (with_reducible refine Kd.C_alloc ?_ _) | (with_reducible refine Kd.C_drewN ?_ _) | (with_reducible refine Kd.C_drew ?_))); (case side2 => exact (Kd.R_reads' HO_12.out).2.1); rintro e w39 ⟨v402, rfl, ho0, hb⟩; refine ⟨_, rfl, ?_⟩; replace HO_12 := ak_ (Kd.R_below (rl_ HO_12) hb); replace HO_53 := ak_ (Kd.R_below (rl_ HO_53) hb); have HO403 := ak_ (Kd.R_lower ho0 (bz_ (bl_ HB))); replace HB := ak_ (bt_ (bl_ HB) hb); (try clear hb); (try clear hk); (try clear ho0); have hcv40 := own_string (P := Try.prog) underlying35 underlying5 underlying9 (Kd.own_of_R HO403.out); have hcv41 := Kd.C_string (P := Try.prog) (A := (some ad382)) (c := c0) underlying35 underlying5 underlying9 (Kd.C_below HR0.out HB.out)))
                refine bodyPost_ret (results_list (rs := [.tmp 2, .tmp 3, .tmp 4, .tmp 5, .tmp 6]) rfl (by simp) (.tmp (.tmp (.tmp (.tmp (.tmp .nil)))))) rfl ?_
                exact ⟨_, by first | rfl | (simp <;> rfl) | (simp [*] <;> rfl), by (with_reducible repeat (first | apply Kd.R_alloc | apply Kd.R_drewN | apply Kd.R_drew)); exact HO_12.out, bl_ HB⟩
               ·rw [if_neg c37] at H
                have c37b0 : ((strOfNums t400).toList == (strOfNums l0).toList) = false := beq_eq_false_iff_ne.mpr c37
                have c37b1 : ((strOfNums t400).toList != (strOfNums l0).toList) = true := bne_iff_ne.mpr c37
                simp only [some.injEq, Prod.mk.injEq] at H
                obtain ⟨rfl, rfl, rfl, rfl, rfl⟩ := H
                obtain ⟨Ao42, co42, eo42⟩ := Kd.R_slice HO_12.out
                subst eo42
                go_wp2_with (first | ((with_reducible refine gate_callee (f := 34) rfl ?_); refine gl_ (some 85) func34 #[.int .i64 (wrap64 (rd l0 2)), .int .i64 (wrap64 (rd l0 1)), .int .u64 t385, .slice Ao42 x12_2.length co42] ?_; (with_reducible refine (medlarref17_Store.calls k2 (wrap64 (rd l0 2)) (wrap64 (rd l0 1)) t385 _ _ x12_2 t400 t401 _ ?side1 ?side2 A35.out).mono ?_); (case side1 => repeat (first | exact (Kd.R_reads' HO_12.out).2.2 | (with_reducible refine Kd.C_alloc ?_ _) | (with_reducible refine Kd.C_drewN ?_ _) | (with_reducible refine Kd.C_drew ?_))); (case side2 => exact (Kd.R_reads' HO_12.out).2.1); rintro e w43 ⟨v402, rfl, ho0, hb⟩; refine ⟨_, rfl, ?_⟩; replace HO_12 := ak_ (Kd.R_below (rl_ HO_12) hb); replace HO_53 := ak_ (Kd.R_below (rl_ HO_53) hb); have HO403 := ak_ (Kd.R_lower ho0 (bz_ (bl_ HB))); replace HB := ak_ (bt_ (bl_ HB) hb); (try clear hb); (try clear hk); (try clear ho0); have hcv44 := own_string (P := Try.prog) underlying35 underlying5 underlying9 (Kd.own_of_R HO403.out); have hcv45 := Kd.C_string (P := Try.prog) (A := (some ad382)) (c := c0) underlying35 underlying5 underlying9 (Kd.C_below HR0.out HB.out)))
                refine bodyPost_ret (results_list (rs := [.tmp 2, .tmp 3, .tmp 4, .tmp 5, .tmp 6]) rfl (by simp) (.tmp (.tmp (.tmp (.tmp (.tmp .nil)))))) rfl ?_
                exact ⟨_, by first | rfl | (simp <;> rfl) | (simp [*] <;> rfl), by first | exact Kd.R_nil _ _ _ _ _ | exact Kd.N_nil _ _ _ _ _ | exact Kd.V_nil _ _ _ _ _ | exact Kd.Q_nil _ _ _ _ _ | exact Kd.S_nil _ _ _ _ _, bl_ HB⟩
              ·rw [if_neg c36] at H
               have c36b0 : (t401 == 0) = false := beq_eq_false_iff_ne.mpr c36
               have c36b1 : (t401 != 0) = true := bne_iff_ne.mpr c36
               simp only [some.injEq, Prod.mk.injEq] at H
               obtain ⟨rfl, rfl, rfl, rfl, rfl⟩ := H
               obtain ⟨Ao46, co46, eo46⟩ := Kd.R_slice HO_12.out
               subst eo46
               go_wp2_with (first | ((with_reducible refine gate_callee (f := 34) rfl ?_); refine gl_ (some 85) func34 #[.int .i64 (wrap64 (rd l0 2)), .int .i64 (wrap64 (rd l0 1)), .int .u64 t385, .slice Ao46 x12_2.length co46] ?_; (with_reducible refine (medlarref17_Store.calls k2 (wrap64 (rd l0 2)) (wrap64 (rd l0 1)) t385 _ _ x12_2 t400 t401 _ ?side1 ?side2 A35.out).mono ?_); (case side1 => repeat (first | exact (Kd.R_reads' HO_12.out).2.2 | (with_reducible refine Kd.C_alloc ?_ _) | (with_reducible refine Kd.C_drewN ?_ _) | (with_reducible refine Kd.C_drew ?_))); (case side2 => exact (Kd.R_reads' HO_12.out).2.1); rintro e w47 ⟨v402, rfl, ho0, hb⟩; refine ⟨_, rfl, ?_⟩; replace HO_12 := ak_ (Kd.R_below (rl_ HO_12) hb); replace HO_53 := ak_ (Kd.R_below (rl_ HO_53) hb); have HO403 := ak_ (Kd.R_lower ho0 (bz_ (bl_ HB))); replace HB := ak_ (bt_ (bl_ HB) hb); (try clear hb); (try clear hk); (try clear ho0)))
               refine bodyPost_ret (results_list (rs := [.tmp 2, .tmp 3, .tmp 4, .tmp 5, .tmp 6]) rfl (by simp) (.tmp (.tmp (.tmp (.tmp (.tmp .nil)))))) rfl ?_
               exact ⟨_, by first | rfl | (simp <;> rfl) | (simp [*] <;> rfl), by first | exact Kd.R_nil _ _ _ _ _ | exact Kd.N_nil _ _ _ _ _ | exact Kd.V_nil _ _ _ _ _ | exact Kd.Q_nil _ _ _ _ _ | exact Kd.S_nil _ _ _ _ _, bl_ HB⟩
       ·rw [if_neg c7] at H
        exact absurd H (by simp)
      ·rw [if_neg c6] at H
       exact absurd H (by simp)
     ·rw [if_neg c5] at H
      exact absurd H (by simp)
    ·rw [if_neg c4] at H
     exact absurd H (by simp)
def medlarref14_Same.l0 : Nat → List (S65) → List (S65) → Int → Int → Option (Bool)
  | 0, _, _, _, _ => none
  | k + 1, x0, x1, x12, x13 => if x13 < x12 then (if 0 ≤ x13 then (if x13 < (x0.length : Int) then (if x13 < (x1.length : Int) then (if ((!(((rd_T65 x0 x13).f0.f0) == ((rd_T65 x1 x13).f0.f0)) || (!(((rd_T65 x0 x13).f0.f1) == ((rd_T65 x1 x13).f0.f1)))) || ((!(((rd_T65 x0 x13).f1.f0) == ((rd_T65 x1 x13).f1.f0)) || (!(((rd_T65 x0 x13).f1.f1) == ((rd_T65 x1 x13).f1.f1)) || ((!(((rd_T65 x0 x13).f1.f2.f0) == ((rd_T65 x1 x13).f1.f2.f0)) || (!(((rd_T65 x0 x13).f1.f2.f1) == ((rd_T65 x1 x13).f1.f2.f1)))) || (((!(((rd_T65 x0 x13).f1.f3.f0.f0) == ((rd_T65 x1 x13).f1.f3.f0.f0)) || (!(((rd_T65 x0 x13).f1.f3.f0.f1) == ((rd_T65 x1 x13).f1.f3.f0.f1)))) || ((!(((rd_T65 x0 x13).f1.f3.f1.f0) == ((rd_T65 x1 x13).f1.f3.f1.f0)) || (!(((rd_T65 x0 x13).f1.f3.f1.f1) == ((rd_T65 x1 x13).f1.f3.f1.f1)))))) || (!(((rd_T65 x0 x13).f1.f4) == ((rd_T65 x1 x13).f1.f4))))))))) = true then (some false) else (medlarref14_Same.l0 k x0 x1 x12 (wrap64 (x13 + 1)))) else (none)) else (none)) else (none)) else (some true)
def medlarref14_Same.f (k : Nat) (l0 : List (S65)) (l1 : List (S65)) : Option (Bool) := if (l0.length : Int) = (l1.length : Int) then (medlarref14_Same.l0 k l0 l1 (l0.length : Int) 0) else (some false)
theorem medlarref14_Same.mono_l : ∀ k, (∀ y0 y1 y2 y3, LeO (medlarref14_Same.l0 k y0 y1 y2 y3) (medlarref14_Same.l0 (k + 1) y0 y1 y2 y3))
  | 0 => fun _ _ _ _ r h => by simp [medlarref14_Same.l0] at h
  | k + 1 => by
   have ih0 := medlarref14_Same.mono_l k
   ·intro y0 y1 y2 y3
    unfold medlarref14_Same.l0
    repeat' first
    | (with_reducible exact ih0 _ _ _ _)
    | (with_reducible exact LeO.refl _)
    | (with_reducible exact LeO.none _)
    | (with_reducible refine LeO.ite ?_ ?_)
    | (with_reducible refine LeO.bind ?_ (fun _ => ?_))
    | exact ih0 _ _ _ _
    | exact LeO.none _
    | refine LeO.ite ?_ ?_
    | refine LeO.bind ?_ (fun _ => ?_)
theorem medlarref14_Same.mono : ∀ a0 a1 k, LeO (medlarref14_Same.f k a0 a1) (medlarref14_Same.f (k + 1) a0 a1) := by
  intro a0 a1 k
  have ih0 := medlarref14_Same.mono_l k
  unfold medlarref14_Same.f
  repeat' first
    | (with_reducible exact ih0 _ _ _ _)
    | (with_reducible exact LeO.refl _)
    | (with_reducible exact LeO.none _)
    | (with_reducible refine LeO.ite ?_ ?_)
    | (with_reducible refine LeO.bind ?_ (fun _ => ?_))
    | exact ih0 _ _ _ _
    | exact LeO.none _
    | refine LeO.ite ?_ ?_
    | refine LeO.bind ?_ (fun _ => ?_)
set_option maxHeartbeats 8000000 in
set_option maxRecDepth 100000 in
theorem medlarref14_Same.calls (k : Nat) (A0 : Option Addr) (c0 : Nat) (l0 : List (S65)) (A1 : Option Addr) (c1 : Nat) (l1 : List (S65)) (r : Bool) (w : World) (hr0 : Kd.C k65 w A0 l0.length l0) (hc0 : l0.length ≤ c0) (hr1 : Kd.C k65 w A1 l1.length l1) (hc1 : l1.length ≤ c1) (h : medlarref14_Same.f k l0 l1 = some r) :
   Calls Try.prog 37 #[.slice A0 l0.length c0, .slice A1 l1.length c1] w fun e w' => e = .returned (.bool r) ∧ Drawn0 w w' := by
  have hu65 := underlying65
  have HR0 := ak_ hr0
  have HC0 := ak_ hc0
  clear hr0 hc0
  have HR1 := ak_ hr1
  have HC1 := ak_ hc1
  clear hr1 hc1
  have H : (if (l0.length : Int) = (l1.length : Int) then (medlarref14_Same.l0 k l0 l1 (l0.length : Int) 0) else (some false)) = some r := h
  clear h
  by_cases c3 : (l0.length : Int) = (l1.length : Int)
  ·rw [if_pos c3] at H
   have c3b0 : ((l0.length : Int) == (l1.length : Int)) = true := beq_iff_eq.mpr c3
   have c3b1 : ((l0.length : Int) != (l1.length : Int)) = false := bne_eq_false_iff_eq.mpr c3
   have c3b2 : (l0.length == l1.length) = true := by first | simpa using c3 | (simp at c3 ⊢; omega)
   clear c3
   have H' := ak_ H
   clear H
   go_enter func37, ntmps37
   go_wp2
   repeat (go_quiet (fail); try go_wp2)
   go_loopg [13] k (fun kq v13 w' => ∃ (x13_1 : Int), v13 = .int .i64 x13_1 ∧ Aside0 (medlarref14_Same.l0 kq l0 l1 (l0.length : Int) x13_1 = some r) ∧ Aside0 (kq ≤ k) ∧ Drawn0 w w')
   case atStart => exact ⟨(0), rf_, H', ⟨Nat.le_refl _⟩, by repeat (first | exact Drawn0.refl _ | apply Drawn0.step)⟩
   case round =>
    clear H'
    try clear c1
    try clear p2
    try clear c3
    try clear c3b0
    try clear c3b1
    try clear c3b2
    obtain ⟨x13_1, rfl, HA, HK1, ⟨m1, rfl⟩⟩ := hrel
    cases gk with
    | zero => exact absurd HA.out (by simp [medlarref14_Same.l0])
    | succ k1 =>
     have H := HA.out
     clear HA
     simp only [medlarref14_Same.l0] at H
     by_cases c4 : x13_1 < (l0.length : Int)
     ·rw [if_pos c4] at H
      have c4b0 := decide_eq_true c4
      clear c4
      by_cases c5 : 0 ≤ x13_1
      ·rw [if_pos c5] at H
       have c5b0 := decide_eq_true c5
       clear c5
       by_cases c6 : x13_1 < (l0.length : Int)
       ·rw [if_pos c6] at H
        have c6b0 := decide_eq_true c6
        clear c6
        by_cases c7 : x13_1 < (l1.length : Int)
        ·rw [if_pos c7] at H
         have c7b0 := decide_eq_true c7
         clear c7
         by_cases c8 : ((!(((rd_T65 l0 x13_1).f0.f0) == ((rd_T65 l1 x13_1).f0.f0)) || (!(((rd_T65 l0 x13_1).f0.f1) == ((rd_T65 l1 x13_1).f0.f1)))) || ((!(((rd_T65 l0 x13_1).f1.f0) == ((rd_T65 l1 x13_1).f1.f0)) || (!(((rd_T65 l0 x13_1).f1.f1) == ((rd_T65 l1 x13_1).f1.f1)) || ((!(((rd_T65 l0 x13_1).f1.f2.f0) == ((rd_T65 l1 x13_1).f1.f2.f0)) || (!(((rd_T65 l0 x13_1).f1.f2.f1) == ((rd_T65 l1 x13_1).f1.f2.f1)))) || (((!(((rd_T65 l0 x13_1).f1.f3.f0.f0) == ((rd_T65 l1 x13_1).f1.f3.f0.f0)) || (!(((rd_T65 l0 x13_1).f1.f3.f0.f1) == ((rd_T65 l1 x13_1).f1.f3.f0.f1)))) || ((!(((rd_T65 l0 x13_1).f1.f3.f1.f0) == ((rd_T65 l1 x13_1).f1.f3.f1.f0)) || (!(((rd_T65 l0 x13_1).f1.f3.f1.f1) == ((rd_T65 l1 x13_1).f1.f3.f1.f1)))))) || (!(((rd_T65 l0 x13_1).f1.f4) == ((rd_T65 l1 x13_1).f1.f4))))))))) = true
         ·rw [if_pos c8] at H
          have c8b0 : ((!(((rd_T65 l0 x13_1).f0.f0) == ((rd_T65 l1 x13_1).f0.f0)) || (!(((rd_T65 l0 x13_1).f0.f1) == ((rd_T65 l1 x13_1).f0.f1)))) || ((!(((rd_T65 l0 x13_1).f1.f0) == ((rd_T65 l1 x13_1).f1.f0)) || (!(((rd_T65 l0 x13_1).f1.f1) == ((rd_T65 l1 x13_1).f1.f1)) || ((!(((rd_T65 l0 x13_1).f1.f2.f0) == ((rd_T65 l1 x13_1).f1.f2.f0)) || (!(((rd_T65 l0 x13_1).f1.f2.f1) == ((rd_T65 l1 x13_1).f1.f2.f1)))) || (((!(((rd_T65 l0 x13_1).f1.f3.f0.f0) == ((rd_T65 l1 x13_1).f1.f3.f0.f0)) || (!(((rd_T65 l0 x13_1).f1.f3.f0.f1) == ((rd_T65 l1 x13_1).f1.f3.f0.f1)))) || ((!(((rd_T65 l0 x13_1).f1.f3.f1.f0) == ((rd_T65 l1 x13_1).f1.f3.f1.f0)) || (!(((rd_T65 l0 x13_1).f1.f3.f1.f1) == ((rd_T65 l1 x13_1).f1.f3.f1.f1)))))) || (!(((rd_T65 l0 x13_1).f1.f4) == ((rd_T65 l1 x13_1).f1.f4))))))))) = true := c8
          clear c8
          obtain rfl := Option.some.inj H
          have p404 : 0 ≤ (x13_1 : Int) := od_ (by first | (with_reducible assumption) | assumption)
          have q404 : x13_1 < (l0.length : Int) := od_ (by first | (with_reducible assumption) | assumption)
          obtain ⟨ad404, e404, hx404_0, hx404_1, hx404_2, hx404_3, hx404_4, hx404_5, hx404_6, hx404_7, hx404_8, hx404_9, hx404_10⟩ := at_T65 HR0.out x13_1 p404 q404
          cases e404
          replace p404 := eq_true p404
          replace q404 := eq_true q404
          have p405 : 0 ≤ (x13_1 : Int) := od_ (by first | (with_reducible assumption) | assumption)
          have q405 : x13_1 < (l1.length : Int) := od_ (by first | (with_reducible assumption) | assumption)
          obtain ⟨ad405, e405, hx405_0, hx405_1, hx405_2, hx405_3, hx405_4, hx405_5, hx405_6, hx405_7, hx405_8, hx405_9, hx405_10⟩ := at_T65 HR1.out x13_1 p405 q405
          cases e405
          replace p405 := eq_true p405
          replace q405 := eq_true q405
          go_wp2
          repeat (go_quiet (fail); try go_wp2)
          go_ret
          exact ⟨by first | rfl | (simp; done) | (simp [*]; done), by repeat (first | exact Drawn0.refl _ | apply Drawn0.step)⟩
         ·rw [if_neg c8] at H
          have c8b0 : ((!(((rd_T65 l0 x13_1).f0.f0) == ((rd_T65 l1 x13_1).f0.f0)) || (!(((rd_T65 l0 x13_1).f0.f1) == ((rd_T65 l1 x13_1).f0.f1)))) || ((!(((rd_T65 l0 x13_1).f1.f0) == ((rd_T65 l1 x13_1).f1.f0)) || (!(((rd_T65 l0 x13_1).f1.f1) == ((rd_T65 l1 x13_1).f1.f1)) || ((!(((rd_T65 l0 x13_1).f1.f2.f0) == ((rd_T65 l1 x13_1).f1.f2.f0)) || (!(((rd_T65 l0 x13_1).f1.f2.f1) == ((rd_T65 l1 x13_1).f1.f2.f1)))) || (((!(((rd_T65 l0 x13_1).f1.f3.f0.f0) == ((rd_T65 l1 x13_1).f1.f3.f0.f0)) || (!(((rd_T65 l0 x13_1).f1.f3.f0.f1) == ((rd_T65 l1 x13_1).f1.f3.f0.f1)))) || ((!(((rd_T65 l0 x13_1).f1.f3.f1.f0) == ((rd_T65 l1 x13_1).f1.f3.f1.f0)) || (!(((rd_T65 l0 x13_1).f1.f3.f1.f1) == ((rd_T65 l1 x13_1).f1.f3.f1.f1)))))) || (!(((rd_T65 l0 x13_1).f1.f4) == ((rd_T65 l1 x13_1).f1.f4))))))))) = false := by simpa using c8
          clear c8
          have H' := ak_ H
          clear H
          have p404 : 0 ≤ (x13_1 : Int) := od_ (by first | (with_reducible assumption) | assumption)
          have q404 : x13_1 < (l0.length : Int) := od_ (by first | (with_reducible assumption) | assumption)
          obtain ⟨ad404, e404, hx404_0, hx404_1, hx404_2, hx404_3, hx404_4, hx404_5, hx404_6, hx404_7, hx404_8, hx404_9, hx404_10⟩ := at_T65 HR0.out x13_1 p404 q404
          cases e404
          replace p404 := eq_true p404
          replace q404 := eq_true q404
          have p405 : 0 ≤ (x13_1 : Int) := od_ (by first | (with_reducible assumption) | assumption)
          have q405 : x13_1 < (l1.length : Int) := od_ (by first | (with_reducible assumption) | assumption)
          obtain ⟨ad405, e405, hx405_0, hx405_1, hx405_2, hx405_3, hx405_4, hx405_5, hx405_6, hx405_7, hx405_8, hx405_9, hx405_10⟩ := at_T65 HR1.out x13_1 p405 q405
          cases e405
          replace p405 := eq_true p405
          replace q405 := eq_true q405
          go_wp2
          repeat (go_quiet (fail); try go_wp2)
          go_roundg k1
          case measure => have := HK1.out; omega
          case rel => exact ⟨(wrap64 (x13_1 + 1)), rf_, H', ⟨by have := HK1.out; omega⟩, by repeat (first | exact Drawn0.refl _ | apply Drawn0.step)⟩
        ·rw [if_neg c7] at H
         exact absurd H (by simp)
       ·rw [if_neg c6] at H
        exact absurd H (by simp)
      ·rw [if_neg c5] at H
       exact absurd H (by simp)
     ·rw [if_neg c4] at H
      have c4b0 := decide_eq_false c4
      clear c4
      obtain rfl := Option.some.inj H
      go_wp2
      repeat (go_quiet (fail); try go_wp2)
      go_ret
      exact ⟨by first | rfl | (simp; done) | (simp [*]; done), by repeat (first | exact Drawn0.refl _ | apply Drawn0.step)⟩
  ·rw [if_neg c3] at H
   have c3b0 : ((l0.length : Int) == (l1.length : Int)) = false := beq_eq_false_iff_ne.mpr c3
   have c3b1 : ((l0.length : Int) != (l1.length : Int)) = true := bne_iff_ne.mpr c3
   have c3b2 : (l0.length == l1.length) = false := by first | simpa using c3 | (simp at c3 ⊢; omega)
   obtain rfl := Option.some.inj H
   go_enter func37, ntmps37
   go_wp2
   repeat (go_quiet (fail); try go_wp2)
   go_ret
   exact ⟨by first | rfl | (simp; done) | (simp [*]; done), by repeat (first | exact Drawn0.refl _ | apply Drawn0.step)⟩
end Go.Proofs.Ytoljdfgkkkpnbaa.MP
