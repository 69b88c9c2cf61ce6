-- written by a program of this session (wip/tools/mprint.sh) for this seat
import Derived.Test.YtoikjfcdpiikbaaMPx0
import Derived.Test.YtoikjfcdpiikbaaMPx2
import Derived.Test.YtoikjfcdpiikbaaMPx11
import Derived.Test.YtoikjfcdpiikbaaMPx22
namespace Go.Proofs.Ytoikjfcdpiikbaa.MP
open Go.RowKit Go.Proofs.YtoikjfcdpiikbaaW.PrintWords Go.Proofs.YtoikjfcdpiikbaaW.PrintLast Go.Proofs.YtoikjfcdpiikbaaW.PrintMore
attribute [local go_sem] max2_int min2_int max_two min_two max_three min_three max_four min_four   -- for this text's walks alone
set_option linter.unusedVariables false
set_option linter.unusedSimpArgs false

/-! ### node_Meet: function 64 -/
def node_Meet.f (k : Nat) (a0 : Int) (a1 : Int) (a2 : Int) : Option (Int × Int) := (node_both.f k a0 a1 a2).bind fun t408 => (if t408 = 0 then ((node_depth.f k a1).bind fun t409 => ((node_depth.f k a2).bind fun t410 => ((node_depth.f k a1).bind fun t411 => (if 0 ≤ (wrap64 (t411 - (mn t409 t410))) then ((node_depth.f k a2).bind fun t412 => (if 0 ≤ (wrap64 (t412 - (mn t409 t410))) then ((bits_Len64.f k (Go.bits .xor .u64 (shr .u64 a1 (wrap64 (t411 - (mn t409 t410)))) (shr .u64 a2 (wrap64 (t412 - (mn t409 t410)))))).bind fun t413 => (if 0 ≤ t413 then (some (shr .u64 (shr .u64 a1 (wrap64 (t411 - (mn t409 t410)))) t413, 0)) else (none))) else (none))) else (none))))) else (some (0, t408)))
theorem node_Meet.mono : ∀ a0 a1 a2 k, LeO (node_Meet.f k a0 a1 a2) (node_Meet.f (k + 1) a0 a1 a2) := by
  intro a0 a1 a2 k
  unfold node_Meet.f
  repeat' first
      | (with_reducible exact bits_Len64.mono _ _)
      | (with_reducible exact node_both.mono _ _ _ _)
      | (with_reducible exact node_depth.mono _ _)
      | (with_reducible exact LeO.refl _)
      | (with_reducible exact LeO.none _)
      | (with_reducible refine LeO.ite ?_ ?_)
      | (with_reducible refine LeO.bind ?_ (fun _ => ?_))
      | exact bits_Len64.mono _ _
      | exact node_both.mono _ _ _ _
      | exact node_depth.mono _ _
      | exact LeO.none _
      | refine LeO.ite ?_ ?_
      | refine LeO.bind ?_ (fun _ => ?_)
set_option maxHeartbeats 8000000 in
set_option maxRecDepth 100000 in
theorem node_Meet.calls (k : Nat) (a0 : Int) (a1 : Int) (a2 : Int) (r1 : Int) (r2 : Int) (w : World) (h : node_Meet.f k a0 a1 a2 = some (r1, r2)) :
    Calls Try.prog 64 #[.int .i64 a0, .int .u64 a1, .int .u64 a2] w fun e w' => e = .returned (.tuple #[.int .u64 r1, .int .i64 r2]) ∧ Below w.heap.size w w' := by
  have HB := Aside0.mk (Below.refl w.heap.size w)
  have H : ((node_both.f k a0 a1 a2).bind fun t408 => (if t408 = 0 then ((node_depth.f k a1).bind fun t409 => ((node_depth.f k a2).bind fun t410 => ((node_depth.f k a1).bind fun t411 => (if 0 ≤ (wrap64 (t411 - (mn t409 t410))) then ((node_depth.f k a2).bind fun t412 => (if 0 ≤ (wrap64 (t412 - (mn t409 t410))) then ((bits_Len64.f k (Go.bits .xor .u64 (shr .u64 a1 (wrap64 (t411 - (mn t409 t410)))) (shr .u64 a2 (wrap64 (t412 - (mn t409 t410)))))).bind fun t413 => (if 0 ≤ t413 then (some (shr .u64 (shr .u64 a1 (wrap64 (t411 - (mn t409 t410)))) t413, 0)) else (none))) else (none))) else (none))))) else (some (0, t408)))) = some (r1, r2) := h
  clear h
  replace H := Option.bind_eq_some_iff.mp H
  obtain ⟨t408, A40, H⟩ := H
  replace H : (if t408 = 0 then ((node_depth.f k a1).bind fun t409 => ((node_depth.f k a2).bind fun t410 => ((node_depth.f k a1).bind fun t411 => (if 0 ≤ (wrap64 (t411 - (mn t409 t410))) then ((node_depth.f k a2).bind fun t412 => (if 0 ≤ (wrap64 (t412 - (mn t409 t410))) then ((bits_Len64.f k (Go.bits .xor .u64 (shr .u64 a1 (wrap64 (t411 - (mn t409 t410)))) (shr .u64 a2 (wrap64 (t412 - (mn t409 t410)))))).bind fun t413 => (if 0 ≤ t413 then (some (shr .u64 (shr .u64 a1 (wrap64 (t411 - (mn t409 t410)))) t413, 0)) else (none))) else (none))) else (none))))) else (some (0, t408))) = some (r1, r2) := H
  have A4 := Aside0.mk A40
  clear A40
  by_cases c5 : t408 = 0
  · rw [if_pos c5] at H
    have c5b0 : (t408 == 0) = true := beq_iff_eq.mpr c5
    have c5b1 : (t408 != 0) = false := bne_eq_false_iff_eq.mpr c5
    clear c5
    replace H := Option.bind_eq_some_iff.mp H
    obtain ⟨t409, A60, H⟩ := H
    replace H : ((node_depth.f k a2).bind fun t410 => ((node_depth.f k a1).bind fun t411 => (if 0 ≤ (wrap64 (t411 - (mn t409 t410))) then ((node_depth.f k a2).bind fun t412 => (if 0 ≤ (wrap64 (t412 - (mn t409 t410))) then ((bits_Len64.f k (Go.bits .xor .u64 (shr .u64 a1 (wrap64 (t411 - (mn t409 t410)))) (shr .u64 a2 (wrap64 (t412 - (mn t409 t410)))))).bind fun t413 => (if 0 ≤ t413 then (some (shr .u64 (shr .u64 a1 (wrap64 (t411 - (mn t409 t410)))) t413, 0)) else (none))) else (none))) else (none)))) = some (r1, r2) := H
    have A6 := Aside0.mk A60
    clear A60
    replace H := Option.bind_eq_some_iff.mp H
    obtain ⟨t410, A70, H⟩ := H
    replace H : ((node_depth.f k a1).bind fun t411 => (if 0 ≤ (wrap64 (t411 - (mn t409 t410))) then ((node_depth.f k a2).bind fun t412 => (if 0 ≤ (wrap64 (t412 - (mn t409 t410))) then ((bits_Len64.f k (Go.bits .xor .u64 (shr .u64 a1 (wrap64 (t411 - (mn t409 t410)))) (shr .u64 a2 (wrap64 (t412 - (mn t409 t410)))))).bind fun t413 => (if 0 ≤ t413 then (some (shr .u64 (shr .u64 a1 (wrap64 (t411 - (mn t409 t410)))) t413, 0)) else (none))) else (none))) else (none))) = some (r1, r2) := H
    have A7 := Aside0.mk A70
    clear A70
    obtain ⟨ji8, hji8⟩ : ∃ j_ : Int, (mn t409 t410) = j_ := ⟨_, rfl⟩
    replace H : ((node_depth.f k a1).bind fun t411 => (if 0 ≤ (wrap64 (t411 - (ji8))) then ((node_depth.f k a2).bind fun t412 => (if 0 ≤ (wrap64 (t412 - (ji8))) then ((bits_Len64.f k (Go.bits .xor .u64 (shr .u64 a1 (wrap64 (t411 - (ji8)))) (shr .u64 a2 (wrap64 (t412 - (ji8)))))).bind fun t413 => (if 0 ≤ t413 then (some (shr .u64 (shr .u64 a1 (wrap64 (t411 - (ji8)))) t413, 0)) else (none))) else (none))) else (none))) = some (r1, r2) := by first | (rw [hji8] at H; exact H) | (simp only [hji8] at H ⊢; exact H)
    (try rw [hji8] at A4)
    (try rw [hji8] at A6)
    (try rw [hji8] at A7)
    have hji8_ : (if t410 < t409 then t410 else t409) = ji8 := hji8
    replace H := Option.bind_eq_some_iff.mp H
    obtain ⟨t411, A90, H⟩ := H
    replace H : (if 0 ≤ (wrap64 (t411 - (ji8))) then ((node_depth.f k a2).bind fun t412 => (if 0 ≤ (wrap64 (t412 - (ji8))) then ((bits_Len64.f k (Go.bits .xor .u64 (shr .u64 a1 (wrap64 (t411 - (ji8)))) (shr .u64 a2 (wrap64 (t412 - (ji8)))))).bind fun t413 => (if 0 ≤ t413 then (some (shr .u64 (shr .u64 a1 (wrap64 (t411 - (ji8)))) t413, 0)) else (none))) else (none))) else (none)) = some (r1, r2) := H
    have A9 := Aside0.mk A90
    clear A90
    obtain ⟨ji10, hji10⟩ : ∃ j_ : Int, (wrap64 (t411 - (ji8))) = j_ := ⟨_, rfl⟩
    replace H : (if 0 ≤ (ji10) then ((node_depth.f k a2).bind fun t412 => (if 0 ≤ (wrap64 (t412 - (ji8))) then ((bits_Len64.f k (Go.bits .xor .u64 (shr .u64 a1 (ji10)) (shr .u64 a2 (wrap64 (t412 - (ji8)))))).bind fun t413 => (if 0 ≤ t413 then (some (shr .u64 (shr .u64 a1 (ji10)) t413, 0)) else (none))) else (none))) else (none)) = some (r1, r2) := by first | (rw [hji10] at H; exact H) | (simp only [hji10] at H ⊢; exact H)
    (try rw [hji10] at A4)
    (try rw [hji10] at A6)
    (try rw [hji10] at A7)
    (try rw [hji10] at A9)
    have hji10w : (IntKind.i64.wrap (t411 - (ji8))) = ji10 := (i64_w _).trans hji10
    by_cases c11 : 0 ≤ (ji10)
    · rw [if_pos c11] at H
      have c11b0 := eq_true c11
      have c11b1 : decide (0 ≤ (ji10)) = true := decide_eq_true c11
      clear c11
      obtain ⟨ji12, hji12⟩ : ∃ j_ : Int, (shr .u64 a1 (ji10)) = j_ := ⟨_, rfl⟩
      replace H : ((node_depth.f k a2).bind fun t412 => (if 0 ≤ (wrap64 (t412 - (ji8))) then ((bits_Len64.f k (Go.bits .xor .u64 (ji12) (shr .u64 a2 (wrap64 (t412 - (ji8)))))).bind fun t413 => (if 0 ≤ t413 then (some (shr .u64 (ji12) t413, 0)) else (none))) else (none))) = some (r1, r2) := by first | (rw [hji12] at H; exact H) | (simp only [hji12] at H ⊢; exact H)
      (try rw [hji12] at A4)
      (try rw [hji12] at A6)
      (try rw [hji12] at A7)
      (try rw [hji12] at A9)
      have hji12_ : (a1 / 2 ^ min (ji10).toNat 64) = ji12 := hji12
      have hji12z : (ji10) ≤ 64 → (a1 / 2 ^ (ji10).toNat) = ji12 := shr_small hji12
      replace H := Option.bind_eq_some_iff.mp H
      obtain ⟨t412, A130, H⟩ := H
      replace H : (if 0 ≤ (wrap64 (t412 - (ji8))) then ((bits_Len64.f k (Go.bits .xor .u64 (ji12) (shr .u64 a2 (wrap64 (t412 - (ji8)))))).bind fun t413 => (if 0 ≤ t413 then (some (shr .u64 (ji12) t413, 0)) else (none))) else (none)) = some (r1, r2) := H
      have A13 := Aside0.mk A130
      clear A130
      obtain ⟨ji14, hji14⟩ : ∃ j_ : Int, (wrap64 (t412 - (ji8))) = j_ := ⟨_, rfl⟩
      replace H : (if 0 ≤ (ji14) then ((bits_Len64.f k (Go.bits .xor .u64 (ji12) (shr .u64 a2 (ji14)))).bind fun t413 => (if 0 ≤ t413 then (some (shr .u64 (ji12) t413, 0)) else (none))) else (none)) = some (r1, r2) := by first | (rw [hji14] at H; exact H) | (simp only [hji14] at H ⊢; exact H)
      (try rw [hji14] at A4)
      (try rw [hji14] at A6)
      (try rw [hji14] at A7)
      (try rw [hji14] at A9)
      (try rw [hji14] at A13)
      have hji14w : (IntKind.i64.wrap (t412 - (ji8))) = ji14 := (i64_w _).trans hji14
      by_cases c15 : 0 ≤ (ji14)
      · rw [if_pos c15] at H
        have c15b0 := eq_true c15
        have c15b1 : decide (0 ≤ (ji14)) = true := decide_eq_true c15
        clear c15
        obtain ⟨ji16, hji16⟩ : ∃ j_ : Int, (shr .u64 a2 (ji14)) = j_ := ⟨_, rfl⟩
        replace H : ((bits_Len64.f k (Go.bits .xor .u64 (ji12) (ji16))).bind fun t413 => (if 0 ≤ t413 then (some (shr .u64 (ji12) t413, 0)) else (none))) = some (r1, r2) := by first | (rw [hji16] at H; exact H) | (simp only [hji16] at H ⊢; exact H)
        (try rw [hji16] at A4)
        (try rw [hji16] at A6)
        (try rw [hji16] at A7)
        (try rw [hji16] at A9)
        (try rw [hji16] at A13)
        have hji16_ : (a2 / 2 ^ min (ji14).toNat 64) = ji16 := hji16
        have hji16z : (ji14) ≤ 64 → (a2 / 2 ^ (ji14).toNat) = ji16 := shr_small hji16
        replace H := Option.bind_eq_some_iff.mp H
        obtain ⟨t413, A170, H⟩ := H
        replace H : (if 0 ≤ t413 then (some (shr .u64 (ji12) t413, 0)) else (none)) = some (r1, r2) := H
        have A17 := Aside0.mk A170
        clear A170
        by_cases c18 : 0 ≤ t413
        · rw [if_pos c18] at H
          have c18b0 := eq_true c18
          have c18b1 : decide (0 ≤ t413) = true := decide_eq_true c18
          clear c18
          obtain ⟨ji19, hji19⟩ : ∃ j_ : Int, (shr .u64 (ji12) t413) = j_ := ⟨_, rfl⟩
          replace H : (some (ji19, 0)) = some (r1, r2) := by first | (rw [hji19] at H; exact H) | (simp only [hji19] at H ⊢; exact H)
          (try rw [hji19] at A4)
          (try rw [hji19] at A6)
          (try rw [hji19] at A7)
          (try rw [hji19] at A9)
          (try rw [hji19] at A13)
          (try rw [hji19] at A17)
          have hji19_ : ((ji12) / 2 ^ min t413.toNat 64) = ji19 := hji19
          have hji19z : t413 ≤ 64 → ((ji12) / 2 ^ t413.toNat) = ji19 := shr_small hji19
          simp only [Option.some.injEq, Prod.mk.injEq] at H
          obtain ⟨rfl, rfl⟩ := H
          obtain rfl : t409 = t411 := Option.some.inj (A6.out.symm.trans A9.out)
          obtain rfl : t410 = t412 := Option.some.inj (A7.out.symm.trans A13.out)
          clear A9 A13
          go_enter Try.func64, Try.ntmps64
          go_wp2_with (first | (go_at_call 59; (with_reducible refine (node_both.calls k a0 a1 a2 t408 _ A4.out).mono ?_); rintro e w' ⟨rfl, ⟨nd, rfl⟩⟩; (try first | exact ⟨rfl, _, World.drewN_drewN _ _ _⟩ | exact ⟨rfl, _, Eq.trans (World.drewN_drewN _ _ _) (congrArg (World.drewN _) (Nat.add_assoc _ _ _))⟩)) | (go_at_call 52; (with_reducible refine (node_depth.calls k a1 t409 _ A6.out).mono ?_); rintro e w' ⟨rfl, ⟨nd, rfl⟩⟩; (try first | exact ⟨rfl, _, World.drewN_drewN _ _ _⟩ | exact ⟨rfl, _, Eq.trans (World.drewN_drewN _ _ _) (congrArg (World.drewN _) (Nat.add_assoc _ _ _))⟩)) | (go_at_call 52; (with_reducible refine (node_depth.calls k a2 t410 _ A7.out).mono ?_); rintro e w' ⟨rfl, ⟨nd, rfl⟩⟩; (try first | exact ⟨rfl, _, World.drewN_drewN _ _ _⟩ | exact ⟨rfl, _, Eq.trans (World.drewN_drewN _ _ _) (congrArg (World.drewN _) (Nat.add_assoc _ _ _))⟩)) | (go_at_call 52; (with_reducible refine (node_depth.calls k a1 t411 _ A9.out).mono ?_); rintro e w' ⟨rfl, ⟨nd, rfl⟩⟩; (try first | exact ⟨rfl, _, World.drewN_drewN _ _ _⟩ | exact ⟨rfl, _, Eq.trans (World.drewN_drewN _ _ _) (congrArg (World.drewN _) (Nat.add_assoc _ _ _))⟩)) | (go_at_call 52; (with_reducible refine (node_depth.calls k a2 t412 _ A13.out).mono ?_); rintro e w' ⟨rfl, ⟨nd, rfl⟩⟩; (try first | exact ⟨rfl, _, World.drewN_drewN _ _ _⟩ | exact ⟨rfl, _, Eq.trans (World.drewN_drewN _ _ _) (congrArg (World.drewN _) (Nat.add_assoc _ _ _))⟩)) | (go_at_call 78; (with_reducible refine (bits_Len64.calls k (Go.bits .xor .u64 (ji12) (ji16)) t413 _ A17.out).mono ?_); rintro e w' ⟨rfl, ⟨nd, rfl⟩⟩; (try first | exact ⟨rfl, _, World.drewN_drewN _ _ _⟩ | exact ⟨rfl, _, Eq.trans (World.drewN_drewN _ _ _) (congrArg (World.drewN _) (Nat.add_assoc _ _ _))⟩)))
          repeat (go_quiet (first | (go_at_call 59; (with_reducible refine (node_both.calls k a0 a1 a2 t408 _ A4.out).mono ?_); rintro e w' ⟨rfl, ⟨nd, rfl⟩⟩; (try first | exact ⟨rfl, _, World.drewN_drewN _ _ _⟩ | exact ⟨rfl, _, Eq.trans (World.drewN_drewN _ _ _) (congrArg (World.drewN _) (Nat.add_assoc _ _ _))⟩)) | (go_at_call 52; (with_reducible refine (node_depth.calls k a1 t409 _ A6.out).mono ?_); rintro e w' ⟨rfl, ⟨nd, rfl⟩⟩; (try first | exact ⟨rfl, _, World.drewN_drewN _ _ _⟩ | exact ⟨rfl, _, Eq.trans (World.drewN_drewN _ _ _) (congrArg (World.drewN _) (Nat.add_assoc _ _ _))⟩)) | (go_at_call 52; (with_reducible refine (node_depth.calls k a2 t410 _ A7.out).mono ?_); rintro e w' ⟨rfl, ⟨nd, rfl⟩⟩; (try first | exact ⟨rfl, _, World.drewN_drewN _ _ _⟩ | exact ⟨rfl, _, Eq.trans (World.drewN_drewN _ _ _) (congrArg (World.drewN _) (Nat.add_assoc _ _ _))⟩)) | (go_at_call 52; (with_reducible refine (node_depth.calls k a1 t411 _ A9.out).mono ?_); rintro e w' ⟨rfl, ⟨nd, rfl⟩⟩; (try first | exact ⟨rfl, _, World.drewN_drewN _ _ _⟩ | exact ⟨rfl, _, Eq.trans (World.drewN_drewN _ _ _) (congrArg (World.drewN _) (Nat.add_assoc _ _ _))⟩)) | (go_at_call 52; (with_reducible refine (node_depth.calls k a2 t412 _ A13.out).mono ?_); rintro e w' ⟨rfl, ⟨nd, rfl⟩⟩; (try first | exact ⟨rfl, _, World.drewN_drewN _ _ _⟩ | exact ⟨rfl, _, Eq.trans (World.drewN_drewN _ _ _) (congrArg (World.drewN _) (Nat.add_assoc _ _ _))⟩)) | (go_at_call 78; (with_reducible refine (bits_Len64.calls k (Go.bits .xor .u64 (ji12) (ji16)) t413 _ A17.out).mono ?_); rintro e w' ⟨rfl, ⟨nd, rfl⟩⟩; (try first | exact ⟨rfl, _, World.drewN_drewN _ _ _⟩ | exact ⟨rfl, _, Eq.trans (World.drewN_drewN _ _ _) (congrArg (World.drewN _) (Nat.add_assoc _ _ _))⟩))); try go_wp2_with (first | (go_at_call 59; (with_reducible refine (node_both.calls k a0 a1 a2 t408 _ A4.out).mono ?_); rintro e w' ⟨rfl, ⟨nd, rfl⟩⟩; (try first | exact ⟨rfl, _, World.drewN_drewN _ _ _⟩ | exact ⟨rfl, _, Eq.trans (World.drewN_drewN _ _ _) (congrArg (World.drewN _) (Nat.add_assoc _ _ _))⟩)) | (go_at_call 52; (with_reducible refine (node_depth.calls k a1 t409 _ A6.out).mono ?_); rintro e w' ⟨rfl, ⟨nd, rfl⟩⟩; (try first | exact ⟨rfl, _, World.drewN_drewN _ _ _⟩ | exact ⟨rfl, _, Eq.trans (World.drewN_drewN _ _ _) (congrArg (World.drewN _) (Nat.add_assoc _ _ _))⟩)) | (go_at_call 52; (with_reducible refine (node_depth.calls k a2 t410 _ A7.out).mono ?_); rintro e w' ⟨rfl, ⟨nd, rfl⟩⟩; (try first | exact ⟨rfl, _, World.drewN_drewN _ _ _⟩ | exact ⟨rfl, _, Eq.trans (World.drewN_drewN _ _ _) (congrArg (World.drewN _) (Nat.add_assoc _ _ _))⟩)) | (go_at_call 52; (with_reducible refine (node_depth.calls k a1 t411 _ A9.out).mono ?_); rintro e w' ⟨rfl, ⟨nd, rfl⟩⟩; (try first | exact ⟨rfl, _, World.drewN_drewN _ _ _⟩ | exact ⟨rfl, _, Eq.trans (World.drewN_drewN _ _ _) (congrArg (World.drewN _) (Nat.add_assoc _ _ _))⟩)) | (go_at_call 52; (with_reducible refine (node_depth.calls k a2 t412 _ A13.out).mono ?_); rintro e w' ⟨rfl, ⟨nd, rfl⟩⟩; (try first | exact ⟨rfl, _, World.drewN_drewN _ _ _⟩ | exact ⟨rfl, _, Eq.trans (World.drewN_drewN _ _ _) (congrArg (World.drewN _) (Nat.add_assoc _ _ _))⟩)) | (go_at_call 78; (with_reducible refine (bits_Len64.calls k (Go.bits .xor .u64 (ji12) (ji16)) t413 _ A17.out).mono ?_); rintro e w' ⟨rfl, ⟨nd, rfl⟩⟩; (try first | exact ⟨rfl, _, World.drewN_drewN _ _ _⟩ | exact ⟨rfl, _, Eq.trans (World.drewN_drewN _ _ _) (congrArg (World.drewN _) (Nat.add_assoc _ _ _))⟩))))
          go_ret2
          exact ⟨by first | rfl | (simp [errW_none, errW_some] <;> rfl) | (simp only [← hji8, ← hji10, ← hji12, ← hji14, ← hji16, ← hji19]; first | rfl | (simp [errW_none, errW_some] <;> rfl)) | (simp [*, errW_none, errW_some] <;> rfl), by repeat (first | (with_reducible first | exact HB.out | apply below_alloc | apply pw_below_drewN | apply below_drew1) | exact HB.out)⟩
        · rw [if_neg c18] at H
          exact absurd H (by simp)
      · rw [if_neg c15] at H
        exact absurd H (by simp)
    · rw [if_neg c11] at H
      exact absurd H (by simp)
  · rw [if_neg c5] at H
    have c5b0 : (t408 == 0) = false := beq_eq_false_iff_ne.mpr c5
    have c5b1 : (t408 != 0) = true := bne_iff_ne.mpr c5
    simp only [Option.some.injEq, Prod.mk.injEq] at H
    obtain ⟨rfl, rfl⟩ := H
    go_enter Try.func64, Try.ntmps64
    go_wp2_with (first | (go_at_call 59; (with_reducible refine (node_both.calls k a0 a1 a2 t408 _ A4.out).mono ?_); rintro e w' ⟨rfl, ⟨nd, rfl⟩⟩; (try first | exact ⟨rfl, _, World.drewN_drewN _ _ _⟩ | exact ⟨rfl, _, Eq.trans (World.drewN_drewN _ _ _) (congrArg (World.drewN _) (Nat.add_assoc _ _ _))⟩)))
    repeat (go_quiet (first | (go_at_call 59; (with_reducible refine (node_both.calls k a0 a1 a2 t408 _ A4.out).mono ?_); rintro e w' ⟨rfl, ⟨nd, rfl⟩⟩; (try first | exact ⟨rfl, _, World.drewN_drewN _ _ _⟩ | exact ⟨rfl, _, Eq.trans (World.drewN_drewN _ _ _) (congrArg (World.drewN _) (Nat.add_assoc _ _ _))⟩))); try go_wp2_with (first | (go_at_call 59; (with_reducible refine (node_both.calls k a0 a1 a2 t408 _ A4.out).mono ?_); rintro e w' ⟨rfl, ⟨nd, rfl⟩⟩; (try first | exact ⟨rfl, _, World.drewN_drewN _ _ _⟩ | exact ⟨rfl, _, Eq.trans (World.drewN_drewN _ _ _) (congrArg (World.drewN _) (Nat.add_assoc _ _ _))⟩))))
    go_ret2
    exact ⟨by first | rfl | (simp [errW_none, errW_some] <;> rfl) | (simp [*, errW_none, errW_some] <;> rfl), by repeat (first | (with_reducible first | exact HB.out | apply below_alloc | apply pw_below_drewN | apply below_drew1) | exact HB.out)⟩

/-! ### steiner_Down: function 31 -/
def steiner_Down.f (k : Nat) (a0 : Int) (l1 : List Int) (a2 : Int) : Option (Int × Int) := (leaf_Below.f k a0 l1 a2).bind fun bt414 => (if bt414.2 = 0 then (if (bt414.1.length : Int) = 0 then (some (0, 4)) else (if 0 < (bt414.1.length : Int) then ((node_Leaf.f a0 (rd bt414.1 0)).bind fun bt419 => (if 0 ≤ (wrap64 ((bt414.1.length : Int) - 1)) then (if (wrap64 ((bt414.1.length : Int) - 1)) < (bt414.1.length : Int) then ((node_Leaf.f a0 (rd bt414.1 (wrap64 ((bt414.1.length : Int) - 1)))).bind fun bt422 => (if bt419.2 = 0 then (if bt422.2 = 0 then ((node_Meet.f k a0 bt419.1 bt422.1).bind fun bt424 => (some (bt424.1, bt424.2))) else (some (0, 1))) else (some (0, 1)))) else (none)) else (none))) else (none))) else (some (0, bt414.2)))
theorem steiner_Down.mono : ∀ a0 a1 a2 k, LeO (steiner_Down.f k a0 a1 a2) (steiner_Down.f (k + 1) a0 a1 a2) := by
  intro a0 a1 a2 k
  unfold steiner_Down.f
  repeat' first
      | (with_reducible exact leaf_Below.mono _ _ _ _)
      | (with_reducible exact node_Meet.mono _ _ _ _)
      | (with_reducible exact LeO.refl _)
      | (with_reducible exact LeO.none _)
      | (with_reducible refine LeO.ite ?_ ?_)
      | (with_reducible refine LeO.bind ?_ (fun _ => ?_))
      | exact leaf_Below.mono _ _ _ _
      | exact node_Meet.mono _ _ _ _
      | exact LeO.none _
      | refine LeO.ite ?_ ?_
      | refine LeO.bind ?_ (fun _ => ?_)
set_option maxHeartbeats 8000000 in
set_option maxRecDepth 100000 in
theorem steiner_Down.calls (k : Nat) (a0 : Int) (A1 : Option Addr) (c1 : Nat) (l1 : List Int) (a2 : Int) (r1 : Int) (r2 : Int) (w : World) (hr1 : Kd.C (Kd.int .u64) w A1 l1.length l1) (hc1 : l1.length ≤ c1) (h : steiner_Down.f k a0 l1 a2 = some (r1, r2)) :
    Calls Try.prog 31 #[.int .i64 a0, .slice A1 l1.length c1, .int .u64 a2] w fun e w' => e = .returned (.tuple #[.int .u64 r1, .int .i64 r2]) ∧ Below w.heap.size w w' := by
  have HR1 := Aside0.mk hr1
  have HC1 := Aside0.mk hc1
  clear hr1 hc1
  have HB := Aside0.mk (Below.refl w.heap.size w)
  have H : ((leaf_Below.f k a0 l1 a2).bind fun bt414 => (if bt414.2 = 0 then (if (bt414.1.length : Int) = 0 then (some (0, 4)) else (if 0 < (bt414.1.length : Int) then ((node_Leaf.f a0 (rd bt414.1 0)).bind fun bt419 => (if 0 ≤ (wrap64 ((bt414.1.length : Int) - 1)) then (if (wrap64 ((bt414.1.length : Int) - 1)) < (bt414.1.length : Int) then ((node_Leaf.f a0 (rd bt414.1 (wrap64 ((bt414.1.length : Int) - 1)))).bind fun bt422 => (if bt419.2 = 0 then (if bt422.2 = 0 then ((node_Meet.f k a0 bt419.1 bt422.1).bind fun bt424 => (some (bt424.1, bt424.2))) else (some (0, 1))) else (some (0, 1)))) else (none)) else (none))) else (none))) else (some (0, bt414.2)))) = some (r1, r2) := h
  clear h
  replace H := Option.bind_eq_some_iff.mp H
  obtain ⟨⟨t414, t415⟩, A40, H⟩ := H
  replace H : (if t415 = 0 then (if (t414.length : Int) = 0 then (some (0, 4)) else (if 0 < (t414.length : Int) then ((node_Leaf.f a0 (rd t414 0)).bind fun bt419 => (if 0 ≤ (wrap64 ((t414.length : Int) - 1)) then (if (wrap64 ((t414.length : Int) - 1)) < (t414.length : Int) then ((node_Leaf.f a0 (rd t414 (wrap64 ((t414.length : Int) - 1)))).bind fun bt422 => (if bt419.2 = 0 then (if bt422.2 = 0 then ((node_Meet.f k a0 bt419.1 bt422.1).bind fun bt424 => (some (bt424.1, bt424.2))) else (some (0, 1))) else (some (0, 1)))) else (none)) else (none))) else (none))) else (some (0, t415))) = some (r1, r2) := H
  have A4 := Aside0.mk A40
  clear A40
  by_cases c5 : t415 = 0
  · rw [if_pos c5] at H
    have c5b0 : (t415 == 0) = true := beq_iff_eq.mpr c5
    have c5b1 : (t415 != 0) = false := bne_eq_false_iff_eq.mpr c5
    clear c5
    by_cases c6 : (t414.length : Int) = 0
    · rw [if_pos c6] at H
      have c6b0 : ((t414.length : Int) == 0) = true := beq_iff_eq.mpr c6
      have c6b1 : ((t414.length : Int) != 0) = false := bne_eq_false_iff_eq.mpr c6
      clear c6
      simp only [Option.some.injEq, Prod.mk.injEq] at H
      obtain ⟨rfl, rfl⟩ := H
      go_enter Try.func31, Try.ntmps31
      go_wp2_with (first | ((with_reducible refine gate_callee (f := 20) rfl ?_); refine goesL_ (some 17) rfl rfl Try.func20 (by kernel_rfl) rfl #[.int .i64 a0, .slice A1 l1.length c1, .int .u64 a2] rfl (by (try simp only [List.map_toArray, List.map_cons, List.map_nil]); first | done | rfl | (simp only [List.length_drop, List.length_take]; rfl)) ?_; (with_reducible refine (leaf_Below.calls k a0 _ _ l1 a2 t414 t415 _ ?side1 ?side2 A4.out).mono ?_); (case side1 => repeat (first | exact HR1.out | (with_reducible refine Kd.C_alloc ?_ _) | (with_reducible refine Kd.C_drewN ?_ _) | (with_reducible refine Kd.C_drew ?_))); (case side2 => exact HC1.out); rintro e w7 ⟨v416, rfl, ho0, hb⟩; refine ⟨_, rfl, ?_⟩; have n0_ := Aside0.mk (Kd.R_lower ho0 (below_size (by repeat (first | (with_reducible first | exact HB.out | apply below_alloc | apply pw_below_drewN | apply below_drew1) | exact HB.out)))); have n1_ := Aside0.mk (below_step (by repeat (first | (with_reducible first | exact HB.out | apply below_alloc | apply pw_below_drewN | apply below_drew1) | exact HB.out)) hb); clear HB; have HO417 := n0_; have HB := n1_; clear n0_ n1_; (try clear hb); (try clear hb2); (try clear hk); (try clear hi); (try clear ho0); obtain ⟨Ao8, co8, eo8⟩ := Kd.R_slice HO417.out; subst eo8))
      go_ret2
      exact ⟨by first | rfl | (simp [errW_none, errW_some] <;> rfl) | (simp [*, errW_none, errW_some] <;> rfl), by repeat (first | (with_reducible first | exact HB.out | apply below_alloc | apply pw_below_drewN | apply below_drew1) | exact HB.out)⟩
    · rw [if_neg c6] at H
      have c6b0 : ((t414.length : Int) == 0) = false := beq_eq_false_iff_ne.mpr c6
      have c6b1 : ((t414.length : Int) != 0) = true := bne_iff_ne.mpr c6
      have c6b2 : ¬ (t414 = []) := fun h_ => c6 (by rw [h_]; rfl)
      by_cases c9 : 0 < (t414.length : Int)
      · rw [if_pos c9] at H
        have c9b0 : decide (0 < (t414.length : Int)) = true := decide_eq_true c9
        have c9b1 : decide (0 < t414.length) = true := decide_eq_true (by omega)
        clear c9
        replace H := Option.bind_eq_some_iff.mp H
        obtain ⟨⟨t419, t420⟩, A100, H⟩ := H
        replace H : (if 0 ≤ (wrap64 ((t414.length : Int) - 1)) then (if (wrap64 ((t414.length : Int) - 1)) < (t414.length : Int) then ((node_Leaf.f a0 (rd t414 (wrap64 ((t414.length : Int) - 1)))).bind fun bt422 => (if t420 = 0 then (if bt422.2 = 0 then ((node_Meet.f k a0 t419 bt422.1).bind fun bt424 => (some (bt424.1, bt424.2))) else (some (0, 1))) else (some (0, 1)))) else (none)) else (none)) = some (r1, r2) := H
        have A10 := Aside0.mk A100
        clear A100
        obtain ⟨ji11, hji11⟩ : ∃ j_ : Int, (wrap64 ((t414.length : Int) - 1)) = j_ := ⟨_, rfl⟩
        replace H : (if 0 ≤ (ji11) then (if (ji11) < (t414.length : Int) then ((node_Leaf.f a0 (rd t414 (ji11))).bind fun bt422 => (if t420 = 0 then (if bt422.2 = 0 then ((node_Meet.f k a0 t419 bt422.1).bind fun bt424 => (some (bt424.1, bt424.2))) else (some (0, 1))) else (some (0, 1)))) else (none)) else (none)) = some (r1, r2) := by first | (rw [hji11] at H; exact H) | (simp only [hji11] at H ⊢; exact H)
        (try rw [hji11] at A4)
        (try rw [hji11] at A10)
        have hji11w : (IntKind.i64.wrap ((t414.length : Int) - 1)) = ji11 := (i64_w _).trans hji11
        by_cases c12 : 0 ≤ (ji11)
        · rw [if_pos c12] at H
          have c12b0 : decide (0 ≤ (ji11)) = true := decide_eq_true c12
          clear c12
          by_cases c13 : (ji11) < (t414.length : Int)
          · rw [if_pos c13] at H
            have c13b0 : decide ((ji11) < (t414.length : Int)) = true := decide_eq_true c13
            clear c13
            replace H := Option.bind_eq_some_iff.mp H
            obtain ⟨⟨t422, t423⟩, A140, H⟩ := H
            replace H : (if t420 = 0 then (if t423 = 0 then ((node_Meet.f k a0 t419 t422).bind fun bt424 => (some (bt424.1, bt424.2))) else (some (0, 1))) else (some (0, 1))) = some (r1, r2) := H
            have A14 := Aside0.mk A140
            clear A140
            by_cases c15 : t420 = 0
            · rw [if_pos c15] at H
              have c15b0 : (t420 == 0) = true := beq_iff_eq.mpr c15
              have c15b1 : (t420 != 0) = false := bne_eq_false_iff_eq.mpr c15
              clear c15
              by_cases c16 : t423 = 0
              · rw [if_pos c16] at H
                have c16b0 : (t423 == 0) = true := beq_iff_eq.mpr c16
                have c16b1 : (t423 != 0) = false := bne_eq_false_iff_eq.mpr c16
                clear c16
                replace H := Option.bind_eq_some_iff.mp H
                obtain ⟨⟨t424, t425⟩, A170, H⟩ := H
                replace H : (some (t424, t425)) = some (r1, r2) := H
                have A17 := Aside0.mk A170
                clear A170
                simp only [Option.some.injEq, Prod.mk.injEq] at H
                obtain ⟨rfl, rfl⟩ := H
                go_enter Try.func31, Try.ntmps31
                go_wp2_with (first | ((with_reducible refine gate_callee (f := 20) rfl ?_); refine goesL_ (some 17) rfl rfl Try.func20 (by kernel_rfl) rfl #[.int .i64 a0, .slice A1 l1.length c1, .int .u64 a2] rfl (by (try simp only [List.map_toArray, List.map_cons, List.map_nil]); first | done | rfl | (simp only [List.length_drop, List.length_take]; rfl)) ?_; (with_reducible refine (leaf_Below.calls k a0 _ _ l1 a2 t414 t415 _ ?side1 ?side2 A4.out).mono ?_); (case side1 => repeat (first | exact HR1.out | (with_reducible refine Kd.C_alloc ?_ _) | (with_reducible refine Kd.C_drewN ?_ _) | (with_reducible refine Kd.C_drew ?_))); (case side2 => exact HC1.out); rintro e w18 ⟨v416, rfl, ho0, hb⟩; refine ⟨_, rfl, ?_⟩; have n0_ := Aside0.mk (Kd.R_lower ho0 (below_size (by repeat (first | (with_reducible first | exact HB.out | apply below_alloc | apply pw_below_drewN | apply below_drew1) | exact HB.out)))); have n1_ := Aside0.mk (below_step (by repeat (first | (with_reducible first | exact HB.out | apply below_alloc | apply pw_below_drewN | apply below_drew1) | exact HB.out)) hb); clear HB; have HO417 := n0_; have HB := n1_; clear n0_ n1_; (try clear hb); (try clear hb2); (try clear hk); (try clear hi); (try clear ho0); obtain ⟨Ao19, co19, eo19⟩ := Kd.R_slice HO417.out; subst eo19; have p418 : 0 ≤ (0 : Int) := (by omega); have q418 : 0 < (t414.length : Int) := of_decide_eq_true (by first | (with_reducible assumption) | assumption); obtain ⟨ad418, e418, hx418_0⟩ := Kd.at_int (Kd.R_reads' HO417.out).2.2 0 p418 q418; cases e418; have qi418 : (0 < t414.length) = True := eq_true (by omega); (try rw [show ((0 : Int)).toNat = 0 from rfl] at hx418_0); (try rw [Addr.add_zero'] at hx418_0); replace p418 := eq_true p418; replace q418 := eq_true q418) | ((with_reducible refine gate_callee (f := 63) rfl ?_); refine goesL_ (some 33) rfl rfl Try.func63 (by kernel_rfl) rfl #[.int .i64 a0, .int .u64 (rd t414 0)] rfl (by (try simp only [List.map_toArray, List.map_cons, List.map_nil]); first | done | rfl | (simp only [List.length_drop, List.length_take]; rfl)) ?_; (with_reducible refine (node_Leaf.calls a0 (rd t414 0) t419 t420 _ A10.out).mono ?_); rintro e w' ⟨rfl, ⟨nd, rfl⟩⟩; refine ⟨_, rfl, ?_⟩; have p421 : 0 ≤ ((ji11) : Int) := of_decide_eq_true (by first | (with_reducible assumption) | assumption); have q421 : (ji11) < (t414.length : Int) := of_decide_eq_true (by first | (with_reducible assumption) | assumption); obtain ⟨ad421, e421, hx421_0⟩ := Kd.at_int (Kd.R_reads' HO417.out).2.2 (ji11) p421 q421; obtain rfl : ad418 = ad421 := (by injection e421); replace p421 := eq_true p421; replace q421 := eq_true q421) | ((with_reducible refine gate_callee (f := 63) rfl ?_); refine goesL_ (some 44) rfl rfl Try.func63 (by kernel_rfl) rfl #[.int .i64 a0, .int .u64 (rd t414 (ji11))] rfl (by (try simp only [List.map_toArray, List.map_cons, List.map_nil]); first | done | (simp only [hji11]; rfl) | rfl | (simp only [List.length_drop, List.length_take]; rfl)) ?_; (with_reducible refine (node_Leaf.calls a0 (rd t414 (ji11)) t422 t423 _ A14.out).mono ?_); rintro e w' ⟨rfl, ⟨nd, rfl⟩⟩; refine ⟨_, rfl, ?_⟩) | ((with_reducible refine gate_callee (f := 64) rfl ?_); refine goesL_ (some 56) rfl rfl Try.func64 (by kernel_rfl) rfl #[.int .i64 a0, .int .u64 t419, .int .u64 t422] rfl (by (try simp only [List.map_toArray, List.map_cons, List.map_nil]); first | done | rfl | (simp only [List.length_drop, List.length_take]; rfl)) ?_; (with_reducible refine (node_Meet.calls k a0 t419 t422 t424 t425 _ A17.out).mono ?_); rintro e w20 ⟨rfl, hb⟩; refine ⟨_, rfl, ?_⟩; have n0_ := Aside0.mk (Kd.R_below (by (with_reducible repeat (first | apply Kd.R_alloc | apply Kd.R_drewN | apply Kd.R_drew)); exact HO417.out) hb); have n1_ := Aside0.mk (below_step (by repeat (first | (with_reducible first | exact HB.out | apply below_alloc | apply pw_below_drewN | apply below_drew1) | exact HB.out)) hb); clear HO417; clear HB; have HO417 := n0_; have HB := n1_; clear n0_ n1_; (try clear hb); (try clear hb2); (try clear hk); (try clear hi)))
                go_ret2
                exact ⟨by first | rfl | (simp [errW_none, errW_some] <;> rfl) | (simp only [← hji11]; first | rfl | (simp [errW_none, errW_some] <;> rfl)) | (simp [*, errW_none, errW_some] <;> rfl), by repeat (first | (with_reducible first | exact HB.out | apply below_alloc | apply pw_below_drewN | apply below_drew1) | exact HB.out)⟩
              · rw [if_neg c16] at H
                have c16b0 : (t423 == 0) = false := beq_eq_false_iff_ne.mpr c16
                have c16b1 : (t423 != 0) = true := bne_iff_ne.mpr c16
                simp only [Option.some.injEq, Prod.mk.injEq] at H
                obtain ⟨rfl, rfl⟩ := H
                go_enter Try.func31, Try.ntmps31
                go_wp2_with (first | ((with_reducible refine gate_callee (f := 20) rfl ?_); refine goesL_ (some 17) rfl rfl Try.func20 (by kernel_rfl) rfl #[.int .i64 a0, .slice A1 l1.length c1, .int .u64 a2] rfl (by (try simp only [List.map_toArray, List.map_cons, List.map_nil]); first | done | rfl | (simp only [List.length_drop, List.length_take]; rfl)) ?_; (with_reducible refine (leaf_Below.calls k a0 _ _ l1 a2 t414 t415 _ ?side1 ?side2 A4.out).mono ?_); (case side1 => repeat (first | exact HR1.out | (with_reducible refine Kd.C_alloc ?_ _) | (with_reducible refine Kd.C_drewN ?_ _) | (with_reducible refine Kd.C_drew ?_))); (case side2 => exact HC1.out); rintro e w21 ⟨v416, rfl, ho0, hb⟩; refine ⟨_, rfl, ?_⟩; have n0_ := Aside0.mk (Kd.R_lower ho0 (below_size (by repeat (first | (with_reducible first | exact HB.out | apply below_alloc | apply pw_below_drewN | apply below_drew1) | exact HB.out)))); have n1_ := Aside0.mk (below_step (by repeat (first | (with_reducible first | exact HB.out | apply below_alloc | apply pw_below_drewN | apply below_drew1) | exact HB.out)) hb); clear HB; have HO417 := n0_; have HB := n1_; clear n0_ n1_; (try clear hb); (try clear hb2); (try clear hk); (try clear hi); (try clear ho0); obtain ⟨Ao22, co22, eo22⟩ := Kd.R_slice HO417.out; subst eo22; have p418 : 0 ≤ (0 : Int) := (by omega); have q418 : 0 < (t414.length : Int) := of_decide_eq_true (by first | (with_reducible assumption) | assumption); obtain ⟨ad418, e418, hx418_0⟩ := Kd.at_int (Kd.R_reads' HO417.out).2.2 0 p418 q418; cases e418; have qi418 : (0 < t414.length) = True := eq_true (by omega); (try rw [show ((0 : Int)).toNat = 0 from rfl] at hx418_0); (try rw [Addr.add_zero'] at hx418_0); replace p418 := eq_true p418; replace q418 := eq_true q418) | ((with_reducible refine gate_callee (f := 63) rfl ?_); refine goesL_ (some 33) rfl rfl Try.func63 (by kernel_rfl) rfl #[.int .i64 a0, .int .u64 (rd t414 0)] rfl (by (try simp only [List.map_toArray, List.map_cons, List.map_nil]); first | done | rfl | (simp only [List.length_drop, List.length_take]; rfl)) ?_; (with_reducible refine (node_Leaf.calls a0 (rd t414 0) t419 t420 _ A10.out).mono ?_); rintro e w' ⟨rfl, ⟨nd, rfl⟩⟩; refine ⟨_, rfl, ?_⟩; have p421 : 0 ≤ ((ji11) : Int) := of_decide_eq_true (by first | (with_reducible assumption) | assumption); have q421 : (ji11) < (t414.length : Int) := of_decide_eq_true (by first | (with_reducible assumption) | assumption); obtain ⟨ad421, e421, hx421_0⟩ := Kd.at_int (Kd.R_reads' HO417.out).2.2 (ji11) p421 q421; obtain rfl : ad418 = ad421 := (by injection e421); replace p421 := eq_true p421; replace q421 := eq_true q421) | ((with_reducible refine gate_callee (f := 63) rfl ?_); refine goesL_ (some 44) rfl rfl Try.func63 (by kernel_rfl) rfl #[.int .i64 a0, .int .u64 (rd t414 (ji11))] rfl (by (try simp only [List.map_toArray, List.map_cons, List.map_nil]); first | done | (simp only [hji11]; rfl) | rfl | (simp only [List.length_drop, List.length_take]; rfl)) ?_; (with_reducible refine (node_Leaf.calls a0 (rd t414 (ji11)) t422 t423 _ A14.out).mono ?_); rintro e w' ⟨rfl, ⟨nd, rfl⟩⟩; refine ⟨_, rfl, ?_⟩))
                go_ret2
                exact ⟨by first | rfl | (simp [errW_none, errW_some] <;> rfl) | (simp only [← hji11]; first | rfl | (simp [errW_none, errW_some] <;> rfl)) | (simp [*, errW_none, errW_some] <;> rfl), by repeat (first | (with_reducible first | exact HB.out | apply below_alloc | apply pw_below_drewN | apply below_drew1) | exact HB.out)⟩
            · rw [if_neg c15] at H
              have c15b0 : (t420 == 0) = false := beq_eq_false_iff_ne.mpr c15
              have c15b1 : (t420 != 0) = true := bne_iff_ne.mpr c15
              simp only [Option.some.injEq, Prod.mk.injEq] at H
              obtain ⟨rfl, rfl⟩ := H
              go_enter Try.func31, Try.ntmps31
              go_wp2_with (first | ((with_reducible refine gate_callee (f := 20) rfl ?_); refine goesL_ (some 17) rfl rfl Try.func20 (by kernel_rfl) rfl #[.int .i64 a0, .slice A1 l1.length c1, .int .u64 a2] rfl (by (try simp only [List.map_toArray, List.map_cons, List.map_nil]); first | done | rfl | (simp only [List.length_drop, List.length_take]; rfl)) ?_; (with_reducible refine (leaf_Below.calls k a0 _ _ l1 a2 t414 t415 _ ?side1 ?side2 A4.out).mono ?_); (case side1 => repeat (first | exact HR1.out | (with_reducible refine Kd.C_alloc ?_ _) | (with_reducible refine Kd.C_drewN ?_ _) | (with_reducible refine Kd.C_drew ?_))); (case side2 => exact HC1.out); rintro e w23 ⟨v416, rfl, ho0, hb⟩; refine ⟨_, rfl, ?_⟩; have n0_ := Aside0.mk (Kd.R_lower ho0 (below_size (by repeat (first | (with_reducible first | exact HB.out | apply below_alloc | apply pw_below_drewN | apply below_drew1) | exact HB.out)))); have n1_ := Aside0.mk (below_step (by repeat (first | (with_reducible first | exact HB.out | apply below_alloc | apply pw_below_drewN | apply below_drew1) | exact HB.out)) hb); clear HB; have HO417 := n0_; have HB := n1_; clear n0_ n1_; (try clear hb); (try clear hb2); (try clear hk); (try clear hi); (try clear ho0); obtain ⟨Ao24, co24, eo24⟩ := Kd.R_slice HO417.out; subst eo24; have p418 : 0 ≤ (0 : Int) := (by omega); have q418 : 0 < (t414.length : Int) := of_decide_eq_true (by first | (with_reducible assumption) | assumption); obtain ⟨ad418, e418, hx418_0⟩ := Kd.at_int (Kd.R_reads' HO417.out).2.2 0 p418 q418; cases e418; have qi418 : (0 < t414.length) = True := eq_true (by omega); (try rw [show ((0 : Int)).toNat = 0 from rfl] at hx418_0); (try rw [Addr.add_zero'] at hx418_0); replace p418 := eq_true p418; replace q418 := eq_true q418) | ((with_reducible refine gate_callee (f := 63) rfl ?_); refine goesL_ (some 33) rfl rfl Try.func63 (by kernel_rfl) rfl #[.int .i64 a0, .int .u64 (rd t414 0)] rfl (by (try simp only [List.map_toArray, List.map_cons, List.map_nil]); first | done | rfl | (simp only [List.length_drop, List.length_take]; rfl)) ?_; (with_reducible refine (node_Leaf.calls a0 (rd t414 0) t419 t420 _ A10.out).mono ?_); rintro e w' ⟨rfl, ⟨nd, rfl⟩⟩; refine ⟨_, rfl, ?_⟩; have p421 : 0 ≤ ((ji11) : Int) := of_decide_eq_true (by first | (with_reducible assumption) | assumption); have q421 : (ji11) < (t414.length : Int) := of_decide_eq_true (by first | (with_reducible assumption) | assumption); obtain ⟨ad421, e421, hx421_0⟩ := Kd.at_int (Kd.R_reads' HO417.out).2.2 (ji11) p421 q421; obtain rfl : ad418 = ad421 := (by injection e421); replace p421 := eq_true p421; replace q421 := eq_true q421) | ((with_reducible refine gate_callee (f := 63) rfl ?_); refine goesL_ (some 44) rfl rfl Try.func63 (by kernel_rfl) rfl #[.int .i64 a0, .int .u64 (rd t414 (ji11))] rfl (by (try simp only [List.map_toArray, List.map_cons, List.map_nil]); first | done | (simp only [hji11]; rfl) | rfl | (simp only [List.length_drop, List.length_take]; rfl)) ?_; (with_reducible refine (node_Leaf.calls a0 (rd t414 (ji11)) t422 t423 _ A14.out).mono ?_); rintro e w' ⟨rfl, ⟨nd, rfl⟩⟩; refine ⟨_, rfl, ?_⟩))
              go_ret2
              exact ⟨by first | rfl | (simp [errW_none, errW_some] <;> rfl) | (simp only [← hji11]; first | rfl | (simp [errW_none, errW_some] <;> rfl)) | (simp [*, errW_none, errW_some] <;> rfl), by repeat (first | (with_reducible first | exact HB.out | apply below_alloc | apply pw_below_drewN | apply below_drew1) | exact HB.out)⟩
          · rw [if_neg c13] at H
            exact absurd H (by simp)
        · rw [if_neg c12] at H
          exact absurd H (by simp)
      · rw [if_neg c9] at H
        exact absurd H (by simp)
  · rw [if_neg c5] at H
    have c5b0 : (t415 == 0) = false := beq_eq_false_iff_ne.mpr c5
    have c5b1 : (t415 != 0) = true := bne_iff_ne.mpr c5
    simp only [Option.some.injEq, Prod.mk.injEq] at H
    obtain ⟨rfl, rfl⟩ := H
    go_enter Try.func31, Try.ntmps31
    go_wp2_with (first | ((with_reducible refine gate_callee (f := 20) rfl ?_); refine goesL_ (some 17) rfl rfl Try.func20 (by kernel_rfl) rfl #[.int .i64 a0, .slice A1 l1.length c1, .int .u64 a2] rfl (by (try simp only [List.map_toArray, List.map_cons, List.map_nil]); first | done | rfl | (simp only [List.length_drop, List.length_take]; rfl)) ?_; (with_reducible refine (leaf_Below.calls k a0 _ _ l1 a2 t414 t415 _ ?side1 ?side2 A4.out).mono ?_); (case side1 => repeat (first | exact HR1.out | (with_reducible refine Kd.C_alloc ?_ _) | (with_reducible refine Kd.C_drewN ?_ _) | (with_reducible refine Kd.C_drew ?_))); (case side2 => exact HC1.out); rintro e w25 ⟨v416, rfl, ho0, hb⟩; refine ⟨_, rfl, ?_⟩; have n0_ := Aside0.mk (Kd.R_lower ho0 (below_size (by repeat (first | (with_reducible first | exact HB.out | apply below_alloc | apply pw_below_drewN | apply below_drew1) | exact HB.out)))); have n1_ := Aside0.mk (below_step (by repeat (first | (with_reducible first | exact HB.out | apply below_alloc | apply pw_below_drewN | apply below_drew1) | exact HB.out)) hb); clear HB; have HO417 := n0_; have HB := n1_; clear n0_ n1_; (try clear hb); (try clear hb2); (try clear hk); (try clear hi); (try clear ho0)))
    go_ret2
    exact ⟨by first | rfl | (simp [errW_none, errW_some] <;> rfl) | (simp [*, errW_none, errW_some] <;> rfl), by repeat (first | (with_reducible first | exact HB.out | apply below_alloc | apply pw_below_drewN | apply below_drew1) | exact HB.out)⟩

end Go.Proofs.Ytoikjfcdpiikbaa.MP
