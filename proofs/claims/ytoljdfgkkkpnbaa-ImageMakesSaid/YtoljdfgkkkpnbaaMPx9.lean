-- written by a program of this session (wip/tools/mprint.sh) for this seat
import Derived.Test.YtoljdfgkkkpnbaaMPx0
import Derived.Test.YtoljdfgkkkpnbaaMPx2
import Derived.Test.YtoljdfgkkkpnbaaMPx4
import Derived.Test.YtoljdfgkkkpnbaaMPx5
import Derived.Test.YtoljdfgkkkpnbaaMPx8
namespace Go.Proofs.Ytoljdfgkkkpnbaa.MP
open Go.RowKit Go.Proofs.YtoljdfgkkkpnbaaW.PrintWords Go.Proofs.YtoljdfgkkkpnbaaW.PrintLast Go.Proofs.YtoljdfgkkkpnbaaW.PrintMore
open Option (bind_eq_some_iff some.injEq)
open _root_.Go.Proofs.Try
open List (setIfInBounds_toArray set_cons_zero set_cons_succ map_toArray map_cons map_nil length_drop length_take)
attribute [local go_sem] max2_int min2_int max_two min_two max_three min_three max_four min_four
set_option linter.unusedVariables false
set_option linter.unusedSimpArgs false
def medlarlaw17_ImageMakes.f (k : Nat) (a0_0 : Int) (a0_1 : Int) (a1 : Int) (a2 : Int) (a3 : Int) : Option (Bool) := (medlarlaw17_live.f k).bind fun t380 => (if a1 > 8 then (some t380) else ((store_Make.f k ([] : List (S75)) a1 a2 false false a0_0 a0_1 0 0 0 0 0 a3).bind fun bt381 => ((store_Many.f k a1 a2).bind fun bt388 => (if bt381.2.2 = 0 then ((image_Store.f k a1 a2 a3 bt381.1).bind fun bt390 => ((image_Read.f k bt390.1).bind fun bt394 => (if t380 = true then (if bt388.2 = 0 then (if bt390.2 = 0 then (if bt394.2.2.2.2 = 0 then (if (bt381.2.1.length : Int) = 0 then (if (bt390.1.length : Int) = (wrap64 (11 + (wrap64 (16 * bt388.1)))) then (if bt394.1 = a1 then (if bt394.2.1 = a2 then (if bt394.2.2.1 = a3 then ((store_Same.f k bt394.2.2.2.1 bt381.1).bind fun t401 => (some t401)) else (some false)) else (some false)) else (some false)) else (some false)) else (some false)) else (some false)) else (some false)) else (some false)) else (some false)))) else (some t380)))))
theorem medlarlaw17_ImageMakes.mono : ∀ a0 a1 a2 a3 a4 k, LeO (medlarlaw17_ImageMakes.f k a0 a1 a2 a3 a4) (medlarlaw17_ImageMakes.f (k + 1) a0 a1 a2 a3 a4) := by
  intro a0 a1 a2 a3 a4 k
  unfold medlarlaw17_ImageMakes.f
  repeat' first | (with_reducible first | exact image_Read.mono .. | exact image_Store.mono .. | exact medlarlaw17_live.mono .. | exact store_Make.mono .. | exact store_Many.mono .. | exact store_Same.mono .. | exact LeO.refl _ | exact LeO.none _ | refine LeO.ite ?_ ?_ | refine LeO.bind ?_ (fun _ => ?_)) | exact image_Read.mono .. | exact image_Store.mono .. | exact medlarlaw17_live.mono .. | exact store_Make.mono .. | exact store_Many.mono .. | exact store_Same.mono .. | refine LeO.ite ?_ ?_ | refine LeO.bind ?_ (fun _ => ?_)
set_option maxHeartbeats 8000000 in
set_option maxRecDepth 100000 in
theorem medlarlaw17_ImageMakes.calls (k : Nat) (a0_0 : Int) (a0_1 : Int) (a1 : Int) (a2 : Int) (a3 : Int) (r : Bool) (w : World) (h : medlarlaw17_ImageMakes.f k a0_0 a0_1 a1 a2 a3 = some r) (hT : Aside0 (r = true)) :
   Calls Try.prog 12 #[.agg #[.int .u64 a0_0, .int .u64 a0_1], .int .i64 a1, .int .i64 a2, .int .u64 a3] w fun e w' => e = .returned (.bool r) ∧ Below w.heap.size w w' := by
  have hu25 := underlying25
  have hu29 := underlying29
  have HB := ak_ (Below.refl w.heap.size w)
  have H : ((medlarlaw17_live.f k).bind fun t380 => (if a1 > 8 then (some t380) else ((store_Make.f k ([] : List (S75)) a1 a2 false false a0_0 a0_1 0 0 0 0 0 a3).bind fun bt381 => ((store_Many.f k a1 a2).bind fun bt388 => (if bt381.2.2 = 0 then ((image_Store.f k a1 a2 a3 bt381.1).bind fun bt390 => ((image_Read.f k bt390.1).bind fun bt394 => (if t380 = true then (if bt388.2 = 0 then (if bt390.2 = 0 then (if bt394.2.2.2.2 = 0 then (if (bt381.2.1.length : Int) = 0 then (if (bt390.1.length : Int) = (wrap64 (11 + (wrap64 (16 * bt388.1)))) then (if bt394.1 = a1 then (if bt394.2.1 = a2 then (if bt394.2.2.1 = a3 then ((store_Same.f k bt394.2.2.2.1 bt381.1).bind fun t401 => (some t401)) else (some false)) else (some false)) else (some false)) else (some false)) else (some false)) else (some false)) else (some false)) else (some false)) else (some false)))) else (some t380)))))) = some r := h
  clear h
  replace H := bind_eq_some_iff.mp H
  obtain ⟨t380, A50, H⟩ := H
  replace H : (if a1 > 8 then (some t380) else ((store_Make.f k ([] : List (S75)) a1 a2 false false a0_0 a0_1 0 0 0 0 0 a3).bind fun bt381 => ((store_Many.f k a1 a2).bind fun bt388 => (if bt381.2.2 = 0 then ((image_Store.f k a1 a2 a3 bt381.1).bind fun bt390 => ((image_Read.f k bt390.1).bind fun bt394 => (if t380 = true then (if bt388.2 = 0 then (if bt390.2 = 0 then (if bt394.2.2.2.2 = 0 then (if (bt381.2.1.length : Int) = 0 then (if (bt390.1.length : Int) = (wrap64 (11 + (wrap64 (16 * bt388.1)))) then (if bt394.1 = a1 then (if bt394.2.1 = a2 then (if bt394.2.2.1 = a3 then ((store_Same.f k bt394.2.2.2.1 bt381.1).bind fun t401 => (some t401)) else (some false)) else (some false)) else (some false)) else (some false)) else (some false)) else (some false)) else (some false)) else (some false)) else (some false)))) else (some t380))))) = some r := H
  have A5 := ak_ A50
  clear A50
  by_cases c6 : a1 > 8
  ·rw [if_pos c6] at H
   have c6b0 : decide (8 < a1) = true := decide_eq_true c6
   clear c6
   obtain rfl := Option.some.inj H
   go_enter func12, ntmps12
   go_wp2_with (first | ((with_reducible refine gate_dst (N := 4) rfl ?_); (try (refine gate_guard (by rfl) ?_; dsimp only)); refine bx_ 4 #[.int .u64 a0_0, .int .u64 a0_1] 25 ?_; intro gb379 hg w7 hbox hb; have BK379 := ak_ hbox; have GW379 := ak_ (gs_ hg HB); have GE379 := ak_ (gs_ hg HB); replace HB := ak_ (bt_ (bl_ HB) hb); clear hb hbox hg) | ((with_reducible refine gate_callee (f := 27) rfl ?_); refine gl_ (some 22) func27 #[] ?_; (with_reducible refine (medlarlaw17_live.calls k  t380 _ A5.out).mono ?_); rintro e w8 ⟨rfl, hb⟩; refine ⟨_, rfl, ?_⟩; replace BK379 := ak_ (kb_ (kl_ BK379) hb); replace HB := ak_ (bt_ (bw1_ HB GE379) hb); (try clear hb); (try clear hk)))
   go_ret
   exact ea_ (bw1_ HB GE379)
  ·rw [if_neg c6] at H
   have c6b0 : decide (8 < a1) = false := decide_eq_false c6
   clear c6
   replace H := bind_eq_some_iff.mp H
   obtain ⟨⟨t381, t384, t387⟩, A90, H⟩ := H
   replace H : ((store_Many.f k a1 a2).bind fun bt388 => (if t387 = 0 then ((image_Store.f k a1 a2 a3 t381).bind fun bt390 => ((image_Read.f k bt390.1).bind fun bt394 => (if t380 = true then (if bt388.2 = 0 then (if bt390.2 = 0 then (if bt394.2.2.2.2 = 0 then (if (t384.length : Int) = 0 then (if (bt390.1.length : Int) = (wrap64 (11 + (wrap64 (16 * bt388.1)))) then (if bt394.1 = a1 then (if bt394.2.1 = a2 then (if bt394.2.2.1 = a3 then ((store_Same.f k bt394.2.2.2.1 t381).bind fun t401 => (some t401)) else (some false)) else (some false)) else (some false)) else (some false)) else (some false)) else (some false)) else (some false)) else (some false)) else (some false)))) else (some t380))) = some r := H
   have A9 := ak_ A90
   clear A90
   replace H := bind_eq_some_iff.mp H
   obtain ⟨⟨t388, t389⟩, A100, H⟩ := H
   replace H : (if t387 = 0 then ((image_Store.f k a1 a2 a3 t381).bind fun bt390 => ((image_Read.f k bt390.1).bind fun bt394 => (if t380 = true then (if t389 = 0 then (if bt390.2 = 0 then (if bt394.2.2.2.2 = 0 then (if (t384.length : Int) = 0 then (if (bt390.1.length : Int) = (wrap64 (11 + (wrap64 (16 * t388)))) then (if bt394.1 = a1 then (if bt394.2.1 = a2 then (if bt394.2.2.1 = a3 then ((store_Same.f k bt394.2.2.2.1 t381).bind fun t401 => (some t401)) else (some false)) else (some false)) else (some false)) else (some false)) else (some false)) else (some false)) else (some false)) else (some false)) else (some false)))) else (some t380)) = some r := H
   have A10 := ak_ A100
   clear A100
   by_cases c11 : t387 = 0
   ·rw [if_pos c11] at H
    have c11b0 : (t387 == 0) = true := beq_iff_eq.mpr c11
    have c11b1 : (t387 != 0) = false := bne_eq_false_iff_eq.mpr c11
    clear c11
    replace H := bind_eq_some_iff.mp H
    obtain ⟨⟨t390, t391⟩, A120, H⟩ := H
    replace H : ((image_Read.f k t390).bind fun bt394 => (if t380 = true then (if t389 = 0 then (if t391 = 0 then (if bt394.2.2.2.2 = 0 then (if (t384.length : Int) = 0 then (if (t390.length : Int) = (wrap64 (11 + (wrap64 (16 * t388)))) then (if bt394.1 = a1 then (if bt394.2.1 = a2 then (if bt394.2.2.1 = a3 then ((store_Same.f k bt394.2.2.2.1 t381).bind fun t401 => (some t401)) else (some false)) else (some false)) else (some false)) else (some false)) else (some false)) else (some false)) else (some false)) else (some false)) else (some false))) = some r := H
    have A12 := ak_ A120
    clear A120
    replace H := bind_eq_some_iff.mp H
    obtain ⟨⟨t394, t395, t396, t397, t398⟩, A130, H⟩ := H
    replace H : (if t380 = true then (if t389 = 0 then (if t391 = 0 then (if t398 = 0 then (if (t384.length : Int) = 0 then (if (t390.length : Int) = (wrap64 (11 + (wrap64 (16 * t388)))) then (if t394 = a1 then (if t395 = a2 then (if t396 = a3 then ((store_Same.f k t397 t381).bind fun t401 => (some t401)) else (some false)) else (some false)) else (some false)) else (some false)) else (some false)) else (some false)) else (some false)) else (some false)) else (some false)) = some r := H
    have A13 := ak_ A130
    clear A130
    by_cases c14 : t380 = true
    ·subst c14
     have H1 : (if t389 = 0 then (if t391 = 0 then (if t398 = 0 then (if (t384.length : Int) = 0 then (if (t390.length : Int) = (wrap64 (11 + (wrap64 (16 * t388)))) then (if t394 = a1 then (if t395 = a2 then (if t396 = a3 then ((store_Same.f k t397 t381).bind fun t401 => (some t401)) else (some false)) else (some false)) else (some false)) else (some false)) else (some false)) else (some false)) else (some false)) else (some false)) = some r := by rw [if_pos rfl] at H; exact H
     clear H
     have H := H1
     clear H1
     by_cases c15 : t389 = 0
     ·rw [if_pos c15] at H
      have c15b0 : (t389 == 0) = true := beq_iff_eq.mpr c15
      have c15b1 : (t389 != 0) = false := bne_eq_false_iff_eq.mpr c15
      clear c15
      by_cases c16 : t391 = 0
      ·rw [if_pos c16] at H
       have c16b0 : (t391 == 0) = true := beq_iff_eq.mpr c16
       have c16b1 : (t391 != 0) = false := bne_eq_false_iff_eq.mpr c16
       clear c16
       by_cases c17 : t398 = 0
       ·rw [if_pos c17] at H
        have c17b0 : (t398 == 0) = true := beq_iff_eq.mpr c17
        have c17b1 : (t398 != 0) = false := bne_eq_false_iff_eq.mpr c17
        clear c17
        by_cases c18 : (t384.length : Int) = 0
        ·rw [if_pos c18] at H
         have c18b0 : ((t384.length : Int) == 0) = true := beq_iff_eq.mpr c18
         have c18b1 : ((t384.length : Int) != 0) = false := bne_eq_false_iff_eq.mpr c18
         clear c18
         by_cases c19 : (t390.length : Int) = (wrap64 (11 + (wrap64 (16 * t388))))
         ·rw [if_pos c19] at H
          have c19b0 : ((t390.length : Int) == (wrap64 (11 + (wrap64 (16 * t388))))) = true := beq_iff_eq.mpr c19
          have c19b1 : ((t390.length : Int) != (wrap64 (11 + (wrap64 (16 * t388))))) = false := bne_eq_false_iff_eq.mpr c19
          clear c19
          by_cases c20 : t394 = a1
          ·rw [if_pos c20] at H
           have c20b0 : (t394 == a1) = true := beq_iff_eq.mpr c20
           have c20b1 : (t394 != a1) = false := bne_eq_false_iff_eq.mpr c20
           clear c20
           by_cases c21 : t395 = a2
           ·rw [if_pos c21] at H
            have c21b0 : (t395 == a2) = true := beq_iff_eq.mpr c21
            have c21b1 : (t395 != a2) = false := bne_eq_false_iff_eq.mpr c21
            clear c21
            by_cases c22 : t396 = a3
            ·rw [if_pos c22] at H
             have c22b0 : (t396 == a3) = true := beq_iff_eq.mpr c22
             have c22b1 : (t396 != a3) = false := bne_eq_false_iff_eq.mpr c22
             clear c22
             replace H := bind_eq_some_iff.mp H
             obtain ⟨t401, A230, H⟩ := H
             replace H : (some t401) = some r := H
             have A23 := ak_ A230
             clear A230
             obtain rfl := Option.some.inj H
             go_enter func12, ntmps12
             go_wp2_with (first | ((with_reducible refine gate_dst (N := 4) rfl ?_); (try (refine gate_guard (by rfl) ?_; dsimp only)); refine bx_ 4 #[.int .u64 a0_0, .int .u64 a0_1] 25 ?_; intro gb379 hg w24 hbox hb; have BK379 := ak_ hbox; have GW379 := ak_ (gs_ hg HB); have GE379 := ak_ (gs_ hg HB); replace HB := ak_ (bt_ (bl_ HB) hb); clear hb hbox hg) | ((with_reducible refine gate_callee (f := 27) rfl ?_); refine gl_ (some 22) func27 #[] ?_; (with_reducible refine (medlarlaw17_live.calls k  true _ A5.out).mono ?_); rintro e w25 ⟨rfl, hb⟩; refine ⟨_, rfl, ?_⟩; replace BK379 := ak_ (kb_ (kl_ BK379) hb); replace HB := ak_ (bt_ (bw1_ HB GE379) hb); (try clear hb); (try clear hk); obtain ⟨hcz26_0, hcz26_1, hfz26_0, hfz26_1⟩ := kc2_ BK379.out) | ((with_reducible refine gate_callee (f := 39) rfl ?_); refine gl_ (some 32) func39 #[.slice none 0 0, .int .i64 a1, .int .i64 a2, .agg #[.bool false, .bool false, .int .u64 a0_0, .int .u64 a0_1, .int .u64 0, .int .u64 0, .int .u64 0, .int .u64 0, .int .i64 0], .int .u64 a3] ?_; (refine (store_Make.calls k _ _ ([] : List (S75)) a1 a2 false false a0_0 a0_1 0 0 0 0 0 a3 t381 t384 t387 _ ?side1 ?side2 A9.out).mono ?_); (case side1 => exact Kd.C_nil _ _); (case side2 => exact Nat.le_refl _); rintro e w27 ⟨v382, v385, rfl, ho0, ho1, hb⟩; refine ⟨_, rfl, ?_⟩; have HO383 := ak_ (Kd.R_lower ho0 (bz_ (bw1_ HB GE379))); have HO386 := ak_ (Kd.R_lower ho1 (bz_ (bw1_ HB GE379))); replace BK379 := ak_ (kb_ (kl_ BK379) hb); replace HB := ak_ (bt_ (bw1_ HB GE379) hb); (try clear hb); (try clear hk); (try clear ho0); (try clear ho1)) | ((with_reducible refine gate_callee (f := 40) rfl ?_); refine gl_ (some 39) func40 #[.int .i64 a1, .int .i64 a2] ?_; (with_reducible refine (store_Many.calls k a1 a2 t388 t389 _ A10.out).mono ?_); rintro e w28 ⟨rfl, hb⟩; refine ⟨_, rfl, ?_⟩; replace HO383 := ak_ (Kd.R_below (rl_ HO383) hb); replace HO386 := ak_ (Kd.R_below (rl_ HO386) hb); replace BK379 := ak_ (kb_ (kl_ BK379) hb); replace HB := ak_ (bt_ (bw1_ HB GE379) hb); (try clear hb); (try clear hk); obtain ⟨Ao29, co29, eo29⟩ := Kd.R_slice HO383.out; subst eo29) | ((with_reducible refine gate_callee (f := 33) rfl ?_); refine gl_ (some 50) func33 #[.int .i64 a1, .int .i64 a2, .int .u64 a3, .slice Ao29 t381.length co29] ?_; (with_reducible refine (image_Store.calls k a1 a2 a3 _ _ t381 t390 t391 _ ?side1 ?side2 A12.out).mono ?_); (case side1 => repeat (first | exact (Kd.R_reads' HO383.out).2.2 | (with_reducible refine Kd.C_alloc ?_ _) | (with_reducible refine Kd.C_drewN ?_ _) | (with_reducible refine Kd.C_drew ?_))); (case side2 => exact (Kd.R_reads' HO383.out).2.1); rintro e w30 ⟨v392, rfl, ho0, hb⟩; refine ⟨_, rfl, ?_⟩; replace HO383 := ak_ (Kd.R_below (rl_ HO383) hb); replace HO386 := ak_ (Kd.R_below (rl_ HO386) hb); have HO393 := ak_ (Kd.R_lower ho0 (bz_ (bw1_ HB GE379))); replace BK379 := ak_ (kb_ (kl_ BK379) hb); replace HB := ak_ (bt_ (bw1_ HB GE379) hb); (try clear hb); (try clear hk); (try clear ho0); obtain ⟨Ao31, co31, eo31⟩ := Kd.R_slice HO393.out; subst eo31) | ((with_reducible refine gate_callee (f := 35) rfl ?_); refine gl_ (some 55) func35 #[.slice Ao31 t390.length co31] ?_; (with_reducible refine (image_Read.calls k _ _ t390 t394 t395 t396 t397 t398 _ ?side1 ?side2 A13.out).mono ?_); (case side1 => repeat (first | exact (Kd.R_reads' HO393.out).2.2 | (with_reducible refine Kd.C_alloc ?_ _) | (with_reducible refine Kd.C_drewN ?_ _) | (with_reducible refine Kd.C_drew ?_))); (case side2 => exact (Kd.R_reads' HO393.out).2.1); rintro e w32 ⟨v399, rfl, ho0, hb⟩; refine ⟨_, rfl, ?_⟩; replace HO386 := ak_ (Kd.R_below (rl_ HO386) hb); replace HO393 := ak_ (Kd.R_below (rl_ HO393) hb); have HO400 := ak_ (Kd.R_lower (Kd.R_new' ho0 (Kd.R_lt (rl_ HO383))) (bz_ (bw1_ HB GE379))); replace HO383 := ak_ (Kd.R_elder' (rl_ HO383) (Kd.R_base ho0) hb); replace BK379 := ak_ (kb_ (kl_ BK379) hb); replace HB := ak_ (bt_ (bw1_ HB GE379) hb); (try clear hb); (try clear hk); (try clear ho0); obtain ⟨Ao33, co33, eo33⟩ := Kd.R_slice HO386.out; subst eo33; obtain ⟨Ao34, co34, eo34⟩ := Kd.R_slice HO400.out; subst eo34) | (go_at_call 38; (with_reducible refine (store_Same.calls k _ _ t397 _ _ t381 t401 _ ?side1 ?side2 ?side3 ?side4 A23.out).mono ?_); (case side1 => repeat (first | exact (Kd.R_reads' HO400.out).2.2 | (with_reducible refine Kd.C_alloc ?_ _) | (with_reducible refine Kd.C_drewN ?_ _) | (with_reducible refine Kd.C_drew ?_))); (case side2 => exact (Kd.R_reads' HO400.out).2.1); (case side3 => repeat (first | exact (Kd.R_reads' HO383.out).2.2 | (with_reducible refine Kd.C_alloc ?_ _) | (with_reducible refine Kd.C_drewN ?_ _) | (with_reducible refine Kd.C_drew ?_))); (case side4 => exact (Kd.R_reads' HO383.out).2.1); rintro e w' ⟨rfl, ⟨nd, rfl⟩⟩))
             go_ret
             exact ea_ (bw1_ HB GE379)
            ·rw [if_neg c22] at H
             have c22b0 : (t396 == a3) = false := beq_eq_false_iff_ne.mpr c22
             have c22b1 : (t396 != a3) = true := bne_iff_ne.mpr c22
             exact absurd ((Option.some.inj H).trans hT.out) Bool.false_ne_true
           ·rw [if_neg c21] at H
            have c21b0 : (t395 == a2) = false := beq_eq_false_iff_ne.mpr c21
            have c21b1 : (t395 != a2) = true := bne_iff_ne.mpr c21
            exact absurd ((Option.some.inj H).trans hT.out) Bool.false_ne_true
          ·rw [if_neg c20] at H
           have c20b0 : (t394 == a1) = false := beq_eq_false_iff_ne.mpr c20
           have c20b1 : (t394 != a1) = true := bne_iff_ne.mpr c20
           exact absurd ((Option.some.inj H).trans hT.out) Bool.false_ne_true
         ·rw [if_neg c19] at H
          have c19b0 : ((t390.length : Int) == (wrap64 (11 + (wrap64 (16 * t388))))) = false := beq_eq_false_iff_ne.mpr c19
          have c19b1 : ((t390.length : Int) != (wrap64 (11 + (wrap64 (16 * t388))))) = true := bne_iff_ne.mpr c19
          exact absurd ((Option.some.inj H).trans hT.out) Bool.false_ne_true
        ·rw [if_neg c18] at H
         have c18b0 : ((t384.length : Int) == 0) = false := beq_eq_false_iff_ne.mpr c18
         have c18b1 : ((t384.length : Int) != 0) = true := bne_iff_ne.mpr c18
         have c18b2 : ¬ (t384 = []) := fun h_ => c18 (by rw [h_]; rfl)
         exact absurd ((Option.some.inj H).trans hT.out) Bool.false_ne_true
       ·rw [if_neg c17] at H
        have c17b0 : (t398 == 0) = false := beq_eq_false_iff_ne.mpr c17
        have c17b1 : (t398 != 0) = true := bne_iff_ne.mpr c17
        exact absurd ((Option.some.inj H).trans hT.out) Bool.false_ne_true
      ·rw [if_neg c16] at H
       have c16b0 : (t391 == 0) = false := beq_eq_false_iff_ne.mpr c16
       have c16b1 : (t391 != 0) = true := bne_iff_ne.mpr c16
       exact absurd ((Option.some.inj H).trans hT.out) Bool.false_ne_true
     ·rw [if_neg c15] at H
      have c15b0 : (t389 == 0) = false := beq_eq_false_iff_ne.mpr c15
      have c15b1 : (t389 != 0) = true := bne_iff_ne.mpr c15
      exact absurd ((Option.some.inj H).trans hT.out) Bool.false_ne_true
    ·replace c14 := Bool.eq_false_iff.mpr c14
     subst c14
     have H1 : (some false) = some r := by rw [if_neg (show ¬ (false = true) by decide)] at H; exact H
     clear H
     have H := H1
     clear H1
     exact absurd ((Option.some.inj H).trans hT.out) Bool.false_ne_true
   ·rw [if_neg c11] at H
    have c11b0 : (t387 == 0) = false := beq_eq_false_iff_ne.mpr c11
    have c11b1 : (t387 != 0) = true := bne_iff_ne.mpr c11
    obtain rfl := Option.some.inj H
    go_enter func12, ntmps12
    go_wp2_with (first | ((with_reducible refine gate_dst (N := 4) rfl ?_); (try (refine gate_guard (by rfl) ?_; dsimp only)); refine bx_ 4 #[.int .u64 a0_0, .int .u64 a0_1] 25 ?_; intro gb379 hg w35 hbox hb; have BK379 := ak_ hbox; have GW379 := ak_ (gs_ hg HB); have GE379 := ak_ (gs_ hg HB); replace HB := ak_ (bt_ (bl_ HB) hb); clear hb hbox hg) | ((with_reducible refine gate_callee (f := 27) rfl ?_); refine gl_ (some 22) func27 #[] ?_; (with_reducible refine (medlarlaw17_live.calls k  t380 _ A5.out).mono ?_); rintro e w36 ⟨rfl, hb⟩; refine ⟨_, rfl, ?_⟩; replace BK379 := ak_ (kb_ (kl_ BK379) hb); replace HB := ak_ (bt_ (bw1_ HB GE379) hb); (try clear hb); (try clear hk); obtain ⟨hcz37_0, hcz37_1, hfz37_0, hfz37_1⟩ := kc2_ BK379.out) | ((with_reducible refine gate_callee (f := 39) rfl ?_); refine gl_ (some 32) func39 #[.slice none 0 0, .int .i64 a1, .int .i64 a2, .agg #[.bool false, .bool false, .int .u64 a0_0, .int .u64 a0_1, .int .u64 0, .int .u64 0, .int .u64 0, .int .u64 0, .int .i64 0], .int .u64 a3] ?_; (refine (store_Make.calls k _ _ ([] : List (S75)) a1 a2 false false a0_0 a0_1 0 0 0 0 0 a3 t381 t384 t387 _ ?side1 ?side2 A9.out).mono ?_); (case side1 => exact Kd.C_nil _ _); (case side2 => exact Nat.le_refl _); rintro e w38 ⟨v382, v385, rfl, ho0, ho1, hb⟩; refine ⟨_, rfl, ?_⟩; have HO383 := ak_ (Kd.R_lower ho0 (bz_ (bw1_ HB GE379))); have HO386 := ak_ (Kd.R_lower ho1 (bz_ (bw1_ HB GE379))); replace BK379 := ak_ (kb_ (kl_ BK379) hb); replace HB := ak_ (bt_ (bw1_ HB GE379) hb); (try clear hb); (try clear hk); (try clear ho0); (try clear ho1)) | ((with_reducible refine gate_callee (f := 40) rfl ?_); refine gl_ (some 39) func40 #[.int .i64 a1, .int .i64 a2] ?_; (with_reducible refine (store_Many.calls k a1 a2 t388 t389 _ A10.out).mono ?_); rintro e w39 ⟨rfl, hb⟩; refine ⟨_, rfl, ?_⟩; replace HO383 := ak_ (Kd.R_below (rl_ HO383) hb); replace HO386 := ak_ (Kd.R_below (rl_ HO386) hb); replace BK379 := ak_ (kb_ (kl_ BK379) hb); replace HB := ak_ (bt_ (bw1_ HB GE379) hb); (try clear hb); (try clear hk)))
    go_ret
    exact ea_ (bw1_ HB GE379)
def medlarlaw17_ImageMakes.Pure : Prop := ∀ (a0_0 : Int) (a0_1 : Int) (a1 : Int) (a2 : Int) (a3 : Int), (Lit.int .u64 a0_0).wf = true → (Lit.int .u64 a0_1).wf = true → (Lit.int .i64 a1).wf = true → (Lit.int .i64 a2).wf = true → (Lit.int .u64 a3).wf = true → ∃ k, medlarlaw17_ImageMakes.f k a0_0 a0_1 a1 a2 a3 = some true
theorem medlarlaw17_ImageMakes.walk (P : medlarlaw17_ImageMakes.Pure) (a0_0 : Int) (a0_1 : Int) (a1 : Int) (a2 : Int) (a3 : Int) (w : World) (w0_0 : (Lit.int .u64 a0_0).wf = true) (w0_1 : (Lit.int .u64 a0_1).wf = true) (w1 : (Lit.int .i64 a1).wf = true) (w2 : (Lit.int .i64 a2).wf = true) (w3 : (Lit.int .u64 a3).wf = true) :
   Calls Try.prog 12 #[.agg #[.int .u64 a0_0, .int .u64 a0_1], .int .i64 a1, .int .i64 a2, .int .u64 a3] w fun e w' => e = .returned (.bool true) ∧ Below w.heap.size w w' := by
  obtain ⟨k, h⟩ := P a0_0 a0_1 a1 a2 a3 w0_0 w0_1 w1 w2 w3
  refine (medlarlaw17_ImageMakes.calls k a0_0 a0_1 a1 a2 a3 true w h ⟨rfl⟩).mono ?_
  rintro e w' ⟨rfl, hd⟩
  exact ⟨rfl, hd⟩
end Go.Proofs.Ytoljdfgkkkpnbaa.MP
