-- written by a program of this session (wip/tools/mprint.sh) for this seat
import Derived.Test.YtmffkfakcbopcaaGreatMPx0
import Derived.Test.YtmffkfakcbopcaaGreatMPx2
import Derived.Deep.RegionHeld3
import Derived.Shelf.SlSortCmp.NoneTotal
import Derived.Shelf.Lay
import Derived.Ground.SlsfProg
namespace Go.Proofs.YtmffkfakcbopcaaGreat.MP
open Go.RowKit Go.Proofs.YtmffkfakcbopcaaGreatW.PrintWords Go.Proofs.YtmffkfakcbopcaaGreatW.PrintLast Go.Proofs.YtmffkfakcbopcaaGreatW.PrintMore
open Option (bind_eq_some_iff some.injEq)
open _root_.Go.Proofs.Tryz
open List (setIfInBounds_toArray set_cons_zero set_cons_succ map_toArray map_cons map_nil length_drop length_take)
attribute [local go_sem] max2_int min2_int max_two min_two max_three min_three max_four min_four
set_option linter.unusedVariables false
set_option linter.unusedSimpArgs false
def node_Meet.f (k : Nat) (a0 : Int) (a1 : Int) (a2 : Int) : Option (Int × Int) := (node_both.f k a0 a1 a2).bind fun t200 => (if t200 = 0 then ((node_depth.f k a1).bind fun t201 => ((node_depth.f k a2).bind fun t202 => ((node_depth.f k a1).bind fun t203 => (if 0 ≤ (wrap64 (t203 - (mn t201 t202))) then ((node_depth.f k a2).bind fun t204 => (if 0 ≤ (wrap64 (t204 - (mn t201 t202))) then ((bits_Len64.f k (Go.bits .xor .u64 (shr .u64 a1 (wrap64 (t203 - (mn t201 t202)))) (shr .u64 a2 (wrap64 (t204 - (mn t201 t202)))))).bind fun t205 => (if 0 ≤ t205 then (some (shr .u64 (shr .u64 a1 (wrap64 (t203 - (mn t201 t202)))) t205, 0)) else (none))) else (none))) else (none))))) else (some (0, t200)))
set_option maxHeartbeats 8000000 in
set_option maxRecDepth 100000 in
theorem node_Meet.calls (k : Nat) (a0 : Int) (a1 : Int) (a2 : Int) (r1 : Int) (r2 : Int) (w : World) (h : node_Meet.f k a0 a1 a2 = some (r1, r2)) :
   Calls Tryz.prog 93 #[.int .i64 a0, .int .u64 a1, .int .u64 a2] w fun e w' => e = .returned (.tuple #[.int .u64 r1, .int .i64 r2]) ∧ Below w.heap.size w w' := by
  have HB := ak_ (Below.refl w.heap.size w)
  have H : ((node_both.f k a0 a1 a2).bind fun t200 => (if t200 = 0 then ((node_depth.f k a1).bind fun t201 => ((node_depth.f k a2).bind fun t202 => ((node_depth.f k a1).bind fun t203 => (if 0 ≤ (wrap64 (t203 - (mn t201 t202))) then ((node_depth.f k a2).bind fun t204 => (if 0 ≤ (wrap64 (t204 - (mn t201 t202))) then ((bits_Len64.f k (Go.bits .xor .u64 (shr .u64 a1 (wrap64 (t203 - (mn t201 t202)))) (shr .u64 a2 (wrap64 (t204 - (mn t201 t202)))))).bind fun t205 => (if 0 ≤ t205 then (some (shr .u64 (shr .u64 a1 (wrap64 (t203 - (mn t201 t202)))) t205, 0)) else (none))) else (none))) else (none))))) else (some (0, t200)))) = some (r1, r2) := h
  clear h
  replace H := bind_eq_some_iff.mp H
  obtain ⟨t200, A40, H⟩ := H
  replace H : (if t200 = 0 then ((node_depth.f k a1).bind fun t201 => ((node_depth.f k a2).bind fun t202 => ((node_depth.f k a1).bind fun t203 => (if 0 ≤ (wrap64 (t203 - (mn t201 t202))) then ((node_depth.f k a2).bind fun t204 => (if 0 ≤ (wrap64 (t204 - (mn t201 t202))) then ((bits_Len64.f k (Go.bits .xor .u64 (shr .u64 a1 (wrap64 (t203 - (mn t201 t202)))) (shr .u64 a2 (wrap64 (t204 - (mn t201 t202)))))).bind fun t205 => (if 0 ≤ t205 then (some (shr .u64 (shr .u64 a1 (wrap64 (t203 - (mn t201 t202)))) t205, 0)) else (none))) else (none))) else (none))))) else (some (0, t200))) = some (r1, r2) := H
  have A4 := ak_ A40
  clear A40
  by_cases c5 : t200 = 0
  ·rw [if_pos c5] at H
   have c5b0 : (t200 == 0) = true := beq_iff_eq.mpr c5
   have c5b1 : (t200 != 0) = false := bne_eq_false_iff_eq.mpr c5
   clear c5
   replace H := bind_eq_some_iff.mp H
   obtain ⟨t201, A60, H⟩ := H
   replace H : ((node_depth.f k a2).bind fun t202 => ((node_depth.f k a1).bind fun t203 => (if 0 ≤ (wrap64 (t203 - (mn t201 t202))) then ((node_depth.f k a2).bind fun t204 => (if 0 ≤ (wrap64 (t204 - (mn t201 t202))) then ((bits_Len64.f k (Go.bits .xor .u64 (shr .u64 a1 (wrap64 (t203 - (mn t201 t202)))) (shr .u64 a2 (wrap64 (t204 - (mn t201 t202)))))).bind fun t205 => (if 0 ≤ t205 then (some (shr .u64 (shr .u64 a1 (wrap64 (t203 - (mn t201 t202)))) t205, 0)) else (none))) else (none))) else (none)))) = some (r1, r2) := H
   have A6 := ak_ A60
   clear A60
   replace H := bind_eq_some_iff.mp H
   obtain ⟨t202, A70, H⟩ := H
   replace H : ((node_depth.f k a1).bind fun t203 => (if 0 ≤ (wrap64 (t203 - (mn t201 t202))) then ((node_depth.f k a2).bind fun t204 => (if 0 ≤ (wrap64 (t204 - (mn t201 t202))) then ((bits_Len64.f k (Go.bits .xor .u64 (shr .u64 a1 (wrap64 (t203 - (mn t201 t202)))) (shr .u64 a2 (wrap64 (t204 - (mn t201 t202)))))).bind fun t205 => (if 0 ≤ t205 then (some (shr .u64 (shr .u64 a1 (wrap64 (t203 - (mn t201 t202)))) t205, 0)) else (none))) else (none))) else (none))) = some (r1, r2) := H
   have A7 := ak_ A70
   clear A70
   obtain ⟨ji8, hji8⟩ : ∃ j_ : Int, (mn t201 t202) = j_ := ⟨_, rfl⟩
   replace H : ((node_depth.f k a1).bind fun t203 => (if 0 ≤ (wrap64 (t203 - (ji8))) then ((node_depth.f k a2).bind fun t204 => (if 0 ≤ (wrap64 (t204 - (ji8))) then ((bits_Len64.f k (Go.bits .xor .u64 (shr .u64 a1 (wrap64 (t203 - (ji8)))) (shr .u64 a2 (wrap64 (t204 - (ji8)))))).bind fun t205 => (if 0 ≤ t205 then (some (shr .u64 (shr .u64 a1 (wrap64 (t203 - (ji8)))) t205, 0)) else (none))) else (none))) else (none))) = some (r1, r2) := by first | (rw [hji8] at H; exact H) | (simp only [hji8] at H ⊢; exact H)
   (try rw [hji8] at A4)
   (try rw [hji8] at A6)
   (try rw [hji8] at A7)
   have hji8_ : (if t202 < t201 then t202 else t201) = ji8 := hji8
   replace H := bind_eq_some_iff.mp H
   obtain ⟨t203, A90, H⟩ := H
   replace H : (if 0 ≤ (wrap64 (t203 - (ji8))) then ((node_depth.f k a2).bind fun t204 => (if 0 ≤ (wrap64 (t204 - (ji8))) then ((bits_Len64.f k (Go.bits .xor .u64 (shr .u64 a1 (wrap64 (t203 - (ji8)))) (shr .u64 a2 (wrap64 (t204 - (ji8)))))).bind fun t205 => (if 0 ≤ t205 then (some (shr .u64 (shr .u64 a1 (wrap64 (t203 - (ji8)))) t205, 0)) else (none))) else (none))) else (none)) = some (r1, r2) := H
   have A9 := ak_ A90
   clear A90
   obtain ⟨ji10, hji10⟩ : ∃ j_ : Int, (wrap64 (t203 - (ji8))) = j_ := ⟨_, rfl⟩
   replace H : (if 0 ≤ (ji10) then ((node_depth.f k a2).bind fun t204 => (if 0 ≤ (wrap64 (t204 - (ji8))) then ((bits_Len64.f k (Go.bits .xor .u64 (shr .u64 a1 (ji10)) (shr .u64 a2 (wrap64 (t204 - (ji8)))))).bind fun t205 => (if 0 ≤ t205 then (some (shr .u64 (shr .u64 a1 (ji10)) t205, 0)) else (none))) else (none))) else (none)) = some (r1, r2) := by first | (rw [hji10] at H; exact H) | (simp only [hji10] at H ⊢; exact H)
   (try rw [hji10] at A4)
   (try rw [hji10] at A6)
   (try rw [hji10] at A7)
   (try rw [hji10] at A9)
   have hji10w : (IntKind.i64.wrap (t203 - (ji8))) = ji10 := (i64_w _).trans hji10
   by_cases c11 : 0 ≤ (ji10)
   ·rw [if_pos c11] at H
    have c11b0 := eq_true c11
    have c11b1 := decide_eq_true c11
    clear c11
    obtain ⟨ji12, hji12⟩ : ∃ j_ : Int, (shr .u64 a1 (ji10)) = j_ := ⟨_, rfl⟩
    replace H : ((node_depth.f k a2).bind fun t204 => (if 0 ≤ (wrap64 (t204 - (ji8))) then ((bits_Len64.f k (Go.bits .xor .u64 (ji12) (shr .u64 a2 (wrap64 (t204 - (ji8)))))).bind fun t205 => (if 0 ≤ t205 then (some (shr .u64 (ji12) t205, 0)) else (none))) else (none))) = some (r1, r2) := by first | (rw [hji12] at H; exact H) | (simp only [hji12] at H ⊢; exact H)
    (try rw [hji12] at A4)
    (try rw [hji12] at A6)
    (try rw [hji12] at A7)
    (try rw [hji12] at A9)
    have hji12_ : (a1 / 2 ^ min (ji10).toNat 64) = ji12 := hji12
    have hji12z : (ji10) ≤ 64 → (a1 / 2 ^ (ji10).toNat) = ji12 := shr_small hji12
    replace H := bind_eq_some_iff.mp H
    obtain ⟨t204, A130, H⟩ := H
    replace H : (if 0 ≤ (wrap64 (t204 - (ji8))) then ((bits_Len64.f k (Go.bits .xor .u64 (ji12) (shr .u64 a2 (wrap64 (t204 - (ji8)))))).bind fun t205 => (if 0 ≤ t205 then (some (shr .u64 (ji12) t205, 0)) else (none))) else (none)) = some (r1, r2) := H
    have A13 := ak_ A130
    clear A130
    obtain ⟨ji14, hji14⟩ : ∃ j_ : Int, (wrap64 (t204 - (ji8))) = j_ := ⟨_, rfl⟩
    replace H : (if 0 ≤ (ji14) then ((bits_Len64.f k (Go.bits .xor .u64 (ji12) (shr .u64 a2 (ji14)))).bind fun t205 => (if 0 ≤ t205 then (some (shr .u64 (ji12) t205, 0)) else (none))) else (none)) = some (r1, r2) := by first | (rw [hji14] at H; exact H) | (simp only [hji14] at H ⊢; exact H)
    (try rw [hji14] at A4)
    (try rw [hji14] at A6)
    (try rw [hji14] at A7)
    (try rw [hji14] at A9)
    (try rw [hji14] at A13)
    have hji14w : (IntKind.i64.wrap (t204 - (ji8))) = ji14 := (i64_w _).trans hji14
    by_cases c15 : 0 ≤ (ji14)
    ·rw [if_pos c15] at H
     have c15b0 := eq_true c15
     have c15b1 := decide_eq_true c15
     clear c15
     obtain ⟨ji16, hji16⟩ : ∃ j_ : Int, (shr .u64 a2 (ji14)) = j_ := ⟨_, rfl⟩
     replace H : ((bits_Len64.f k (Go.bits .xor .u64 (ji12) (ji16))).bind fun t205 => (if 0 ≤ t205 then (some (shr .u64 (ji12) t205, 0)) else (none))) = some (r1, r2) := by first | (rw [hji16] at H; exact H) | (simp only [hji16] at H ⊢; exact H)
     (try rw [hji16] at A4)
     (try rw [hji16] at A6)
     (try rw [hji16] at A7)
     (try rw [hji16] at A9)
     (try rw [hji16] at A13)
     have hji16_ : (a2 / 2 ^ min (ji14).toNat 64) = ji16 := hji16
     have hji16z : (ji14) ≤ 64 → (a2 / 2 ^ (ji14).toNat) = ji16 := shr_small hji16
     replace H := bind_eq_some_iff.mp H
     obtain ⟨t205, A170, H⟩ := H
     replace H : (if 0 ≤ t205 then (some (shr .u64 (ji12) t205, 0)) else (none)) = some (r1, r2) := H
     have A17 := ak_ A170
     clear A170
     by_cases c18 : 0 ≤ t205
     ·rw [if_pos c18] at H
      have c18b0 := eq_true c18
      have c18b1 := decide_eq_true c18
      clear c18
      obtain ⟨ji19, hji19⟩ : ∃ j_ : Int, (shr .u64 (ji12) t205) = j_ := ⟨_, rfl⟩
      replace H : (some (ji19, 0)) = some (r1, r2) := by first | (rw [hji19] at H; exact H) | (simp only [hji19] at H ⊢; exact H)
      (try rw [hji19] at A4)
      (try rw [hji19] at A6)
      (try rw [hji19] at A7)
      (try rw [hji19] at A9)
      (try rw [hji19] at A13)
      (try rw [hji19] at A17)
      have hji19_ : ((ji12) / 2 ^ min t205.toNat 64) = ji19 := hji19
      have hji19z : t205 ≤ 64 → ((ji12) / 2 ^ t205.toNat) = ji19 := shr_small hji19
      simp only [some.injEq, Prod.mk.injEq] at H
      obtain ⟨rfl, rfl⟩ := H
      obtain rfl : t201 = t203 := Option.some.inj (A6.out.symm.trans A9.out)
      obtain rfl : t202 = t204 := Option.some.inj (A7.out.symm.trans A13.out)
      clear A9 A13
      go_enter func93, ntmps93
      go_wp2_with (first | (go_at_call 85; (with_reducible refine (node_both.calls k a0 a1 a2 t200 _ A4.out).mono ?_); rintro e w' ⟨rfl, ⟨nd, rfl⟩⟩; (try first | exact ⟨rfl, _, World.drewN_drewN _ _ _⟩ | exact ⟨rfl, _, Eq.trans (World.drewN_drewN _ _ _) (congrArg (World.drewN _) (Nat.add_assoc _ _ _))⟩)) | (go_at_call 66; (with_reducible refine (node_depth.calls k a1 t201 _ A6.out).mono ?_); rintro e w' ⟨rfl, ⟨nd, rfl⟩⟩; (try first | exact ⟨rfl, _, World.drewN_drewN _ _ _⟩ | exact ⟨rfl, _, Eq.trans (World.drewN_drewN _ _ _) (congrArg (World.drewN _) (Nat.add_assoc _ _ _))⟩)) | (go_at_call 66; (with_reducible refine (node_depth.calls k a2 t202 _ A7.out).mono ?_); rintro e w' ⟨rfl, ⟨nd, rfl⟩⟩; (try first | exact ⟨rfl, _, World.drewN_drewN _ _ _⟩ | exact ⟨rfl, _, Eq.trans (World.drewN_drewN _ _ _) (congrArg (World.drewN _) (Nat.add_assoc _ _ _))⟩)) | (go_at_call 66; (with_reducible refine (node_depth.calls k a1 t203 _ A9.out).mono ?_); rintro e w' ⟨rfl, ⟨nd, rfl⟩⟩; (try first | exact ⟨rfl, _, World.drewN_drewN _ _ _⟩ | exact ⟨rfl, _, Eq.trans (World.drewN_drewN _ _ _) (congrArg (World.drewN _) (Nat.add_assoc _ _ _))⟩)) | (go_at_call 66; (with_reducible refine (node_depth.calls k a2 t204 _ A13.out).mono ?_); rintro e w' ⟨rfl, ⟨nd, rfl⟩⟩; (try first | exact ⟨rfl, _, World.drewN_drewN _ _ _⟩ | exact ⟨rfl, _, Eq.trans (World.drewN_drewN _ _ _) (congrArg (World.drewN _) (Nat.add_assoc _ _ _))⟩)) | (go_at_call 83; (with_reducible refine (bits_Len64.calls k (Go.bits .xor .u64 (ji12) (ji16)) t205 _ A17.out).mono ?_); rintro e w' ⟨rfl, ⟨nd, rfl⟩⟩; (try first | exact ⟨rfl, _, World.drewN_drewN _ _ _⟩ | exact ⟨rfl, _, Eq.trans (World.drewN_drewN _ _ _) (congrArg (World.drewN _) (Nat.add_assoc _ _ _))⟩)))
      repeat (go_quiet (first | (go_at_call 85; (with_reducible refine (node_both.calls k a0 a1 a2 t200 _ A4.out).mono ?_); rintro e w' ⟨rfl, ⟨nd, rfl⟩⟩; (try first | exact ⟨rfl, _, World.drewN_drewN _ _ _⟩ | exact ⟨rfl, _, Eq.trans (World.drewN_drewN _ _ _) (congrArg (World.drewN _) (Nat.add_assoc _ _ _))⟩)) | (go_at_call 66; (with_reducible refine (node_depth.calls k a1 t201 _ A6.out).mono ?_); rintro e w' ⟨rfl, ⟨nd, rfl⟩⟩; (try first | exact ⟨rfl, _, World.drewN_drewN _ _ _⟩ | exact ⟨rfl, _, Eq.trans (World.drewN_drewN _ _ _) (congrArg (World.drewN _) (Nat.add_assoc _ _ _))⟩)) | (go_at_call 66; (with_reducible refine (node_depth.calls k a2 t202 _ A7.out).mono ?_); rintro e w' ⟨rfl, ⟨nd, rfl⟩⟩; (try first | exact ⟨rfl, _, World.drewN_drewN _ _ _⟩ | exact ⟨rfl, _, Eq.trans (World.drewN_drewN _ _ _) (congrArg (World.drewN _) (Nat.add_assoc _ _ _))⟩)) | (go_at_call 66; (with_reducible refine (node_depth.calls k a1 t203 _ A9.out).mono ?_); rintro e w' ⟨rfl, ⟨nd, rfl⟩⟩; (try first | exact ⟨rfl, _, World.drewN_drewN _ _ _⟩ | exact ⟨rfl, _, Eq.trans (World.drewN_drewN _ _ _) (congrArg (World.drewN _) (Nat.add_assoc _ _ _))⟩)) | (go_at_call 66; (with_reducible refine (node_depth.calls k a2 t204 _ A13.out).mono ?_); rintro e w' ⟨rfl, ⟨nd, rfl⟩⟩; (try first | exact ⟨rfl, _, World.drewN_drewN _ _ _⟩ | exact ⟨rfl, _, Eq.trans (World.drewN_drewN _ _ _) (congrArg (World.drewN _) (Nat.add_assoc _ _ _))⟩)) | (go_at_call 83; (with_reducible refine (bits_Len64.calls k (Go.bits .xor .u64 (ji12) (ji16)) t205 _ A17.out).mono ?_); rintro e w' ⟨rfl, ⟨nd, rfl⟩⟩; (try first | exact ⟨rfl, _, World.drewN_drewN _ _ _⟩ | exact ⟨rfl, _, Eq.trans (World.drewN_drewN _ _ _) (congrArg (World.drewN _) (Nat.add_assoc _ _ _))⟩))); try go_wp2_with (first | (go_at_call 85; (with_reducible refine (node_both.calls k a0 a1 a2 t200 _ A4.out).mono ?_); rintro e w' ⟨rfl, ⟨nd, rfl⟩⟩; (try first | exact ⟨rfl, _, World.drewN_drewN _ _ _⟩ | exact ⟨rfl, _, Eq.trans (World.drewN_drewN _ _ _) (congrArg (World.drewN _) (Nat.add_assoc _ _ _))⟩)) | (go_at_call 66; (with_reducible refine (node_depth.calls k a1 t201 _ A6.out).mono ?_); rintro e w' ⟨rfl, ⟨nd, rfl⟩⟩; (try first | exact ⟨rfl, _, World.drewN_drewN _ _ _⟩ | exact ⟨rfl, _, Eq.trans (World.drewN_drewN _ _ _) (congrArg (World.drewN _) (Nat.add_assoc _ _ _))⟩)) | (go_at_call 66; (with_reducible refine (node_depth.calls k a2 t202 _ A7.out).mono ?_); rintro e w' ⟨rfl, ⟨nd, rfl⟩⟩; (try first | exact ⟨rfl, _, World.drewN_drewN _ _ _⟩ | exact ⟨rfl, _, Eq.trans (World.drewN_drewN _ _ _) (congrArg (World.drewN _) (Nat.add_assoc _ _ _))⟩)) | (go_at_call 66; (with_reducible refine (node_depth.calls k a1 t203 _ A9.out).mono ?_); rintro e w' ⟨rfl, ⟨nd, rfl⟩⟩; (try first | exact ⟨rfl, _, World.drewN_drewN _ _ _⟩ | exact ⟨rfl, _, Eq.trans (World.drewN_drewN _ _ _) (congrArg (World.drewN _) (Nat.add_assoc _ _ _))⟩)) | (go_at_call 66; (with_reducible refine (node_depth.calls k a2 t204 _ A13.out).mono ?_); rintro e w' ⟨rfl, ⟨nd, rfl⟩⟩; (try first | exact ⟨rfl, _, World.drewN_drewN _ _ _⟩ | exact ⟨rfl, _, Eq.trans (World.drewN_drewN _ _ _) (congrArg (World.drewN _) (Nat.add_assoc _ _ _))⟩)) | (go_at_call 83; (with_reducible refine (bits_Len64.calls k (Go.bits .xor .u64 (ji12) (ji16)) t205 _ A17.out).mono ?_); rintro e w' ⟨rfl, ⟨nd, rfl⟩⟩; (try first | exact ⟨rfl, _, World.drewN_drewN _ _ _⟩ | exact ⟨rfl, _, Eq.trans (World.drewN_drewN _ _ _) (congrArg (World.drewN _) (Nat.add_assoc _ _ _))⟩))))
      go_ret2
      exact ⟨by first | rfl | (simp <;> rfl) | (simp only [← hji8, ← hji10, ← hji12, ← hji14, ← hji16, ← hji19]; first | rfl | (simp <;> rfl)) | (simp [*] <;> rfl), bl_ HB⟩
     ·rw [if_neg c18] at H
      exact absurd H (by simp)
    ·rw [if_neg c15] at H
     exact absurd H (by simp)
   ·rw [if_neg c11] at H
    exact absurd H (by simp)
  ·rw [if_neg c5] at H
   have c5b0 : (t200 == 0) = false := beq_eq_false_iff_ne.mpr c5
   have c5b1 : (t200 != 0) = true := bne_iff_ne.mpr c5
   simp only [some.injEq, Prod.mk.injEq] at H
   obtain ⟨rfl, rfl⟩ := H
   go_enter func93, ntmps93
   go_wp2_with (first | (go_at_call 85; (with_reducible refine (node_both.calls k a0 a1 a2 t200 _ A4.out).mono ?_); rintro e w' ⟨rfl, ⟨nd, rfl⟩⟩; (try first | exact ⟨rfl, _, World.drewN_drewN _ _ _⟩ | exact ⟨rfl, _, Eq.trans (World.drewN_drewN _ _ _) (congrArg (World.drewN _) (Nat.add_assoc _ _ _))⟩)))
   repeat (go_quiet (first | (go_at_call 85; (with_reducible refine (node_both.calls k a0 a1 a2 t200 _ A4.out).mono ?_); rintro e w' ⟨rfl, ⟨nd, rfl⟩⟩; (try first | exact ⟨rfl, _, World.drewN_drewN _ _ _⟩ | exact ⟨rfl, _, Eq.trans (World.drewN_drewN _ _ _) (congrArg (World.drewN _) (Nat.add_assoc _ _ _))⟩))); try go_wp2_with (first | (go_at_call 85; (with_reducible refine (node_both.calls k a0 a1 a2 t200 _ A4.out).mono ?_); rintro e w' ⟨rfl, ⟨nd, rfl⟩⟩; (try first | exact ⟨rfl, _, World.drewN_drewN _ _ _⟩ | exact ⟨rfl, _, Eq.trans (World.drewN_drewN _ _ _) (congrArg (World.drewN _) (Nat.add_assoc _ _ _))⟩))))
   go_ret2
   exact ⟨by first | rfl | (simp <;> rfl) | (simp [*] <;> rfl), bl_ HB⟩
def steiner_Down.f (k : Nat) (a0 : Int) (l1 : List Int) (a2 : Int) : Option (Int × Int) := (leaf_Below.f k a0 l1 a2).bind fun bt206 => (if bt206.2 = 0 then (if (bt206.1.length : Int) = 0 then (some (0, 4)) else (if 0 < (bt206.1.length : Int) then ((node_Leaf.f a0 (rd bt206.1 0)).bind fun bt211 => (if 0 ≤ (wrap64 ((bt206.1.length : Int) - 1)) then (if (wrap64 ((bt206.1.length : Int) - 1)) < (bt206.1.length : Int) then ((node_Leaf.f a0 (rd bt206.1 (wrap64 ((bt206.1.length : Int) - 1)))).bind fun bt214 => (if bt211.2 = 0 then (if bt214.2 = 0 then ((node_Meet.f k a0 bt211.1 bt214.1).bind fun bt216 => (some (bt216.1, bt216.2))) else (some (0, 1))) else (some (0, 1)))) else (none)) else (none))) else (none))) else (some (0, bt206.2)))
set_option maxHeartbeats 8000000 in
set_option maxRecDepth 100000 in
theorem steiner_Down.calls (k : Nat) (a0 : Int) (A1 : Option Addr) (c1 : Nat) (l1 : List Int) (a2 : Int) (r1 : Int) (r2 : Int) (w : World) (hr1 : Kd.C (Kd.int .u64) w A1 l1.length l1) (hc1 : l1.length ≤ c1) (h : steiner_Down.f k a0 l1 a2 = some (r1, r2)) :
   Calls Tryz.prog 71 #[.int .i64 a0, .slice A1 l1.length c1, .int .u64 a2] w fun e w' => e = .returned (.tuple #[.int .u64 r1, .int .i64 r2]) ∧ Below w.heap.size w w' := by
  have HR1 := ak_ hr1
  have HC1 := ak_ hc1
  clear hr1 hc1
  have HB := ak_ (Below.refl w.heap.size w)
  have H : ((leaf_Below.f k a0 l1 a2).bind fun bt206 => (if bt206.2 = 0 then (if (bt206.1.length : Int) = 0 then (some (0, 4)) else (if 0 < (bt206.1.length : Int) then ((node_Leaf.f a0 (rd bt206.1 0)).bind fun bt211 => (if 0 ≤ (wrap64 ((bt206.1.length : Int) - 1)) then (if (wrap64 ((bt206.1.length : Int) - 1)) < (bt206.1.length : Int) then ((node_Leaf.f a0 (rd bt206.1 (wrap64 ((bt206.1.length : Int) - 1)))).bind fun bt214 => (if bt211.2 = 0 then (if bt214.2 = 0 then ((node_Meet.f k a0 bt211.1 bt214.1).bind fun bt216 => (some (bt216.1, bt216.2))) else (some (0, 1))) else (some (0, 1)))) else (none)) else (none))) else (none))) else (some (0, bt206.2)))) = some (r1, r2) := h
  clear h
  replace H := bind_eq_some_iff.mp H
  obtain ⟨⟨t206, t207⟩, A40, H⟩ := H
  replace H : (if t207 = 0 then (if (t206.length : Int) = 0 then (some (0, 4)) else (if 0 < (t206.length : Int) then ((node_Leaf.f a0 (rd t206 0)).bind fun bt211 => (if 0 ≤ (wrap64 ((t206.length : Int) - 1)) then (if (wrap64 ((t206.length : Int) - 1)) < (t206.length : Int) then ((node_Leaf.f a0 (rd t206 (wrap64 ((t206.length : Int) - 1)))).bind fun bt214 => (if bt211.2 = 0 then (if bt214.2 = 0 then ((node_Meet.f k a0 bt211.1 bt214.1).bind fun bt216 => (some (bt216.1, bt216.2))) else (some (0, 1))) else (some (0, 1)))) else (none)) else (none))) else (none))) else (some (0, t207))) = some (r1, r2) := H
  have A4 := ak_ A40
  clear A40
  by_cases c5 : t207 = 0
  ·rw [if_pos c5] at H
   have c5b0 : (t207 == 0) = true := beq_iff_eq.mpr c5
   have c5b1 : (t207 != 0) = false := bne_eq_false_iff_eq.mpr c5
   clear c5
   by_cases c6 : (t206.length : Int) = 0
   ·rw [if_pos c6] at H
    have c6b0 : ((t206.length : Int) == 0) = true := beq_iff_eq.mpr c6
    have c6b1 : ((t206.length : Int) != 0) = false := bne_eq_false_iff_eq.mpr c6
    clear c6
    simp only [some.injEq, Prod.mk.injEq] at H
    obtain ⟨rfl, rfl⟩ := H
    go_enter func71, ntmps71
    go_wp2_with (first | ((with_reducible refine gate_callee (f := 70) rfl ?_); refine goesL_ (some 17) rfl rfl func70 (by kernel_rfl) rfl #[.int .i64 a0, .slice A1 l1.length c1, .int .u64 a2] rfl (by (try simp only [map_toArray, map_cons, map_nil]); first | done | rfl) ?_; (with_reducible refine (leaf_Below.calls k a0 _ _ l1 a2 t206 t207 _ ?side1 ?side2 A4.out).mono ?_); (case side1 => repeat (first | exact HR1.out | (with_reducible refine Kd.C_alloc ?_ _) | (with_reducible refine Kd.C_drewN ?_ _) | (with_reducible refine Kd.C_drew ?_))); (case side2 => exact HC1.out); rintro e w7 ⟨v208, rfl, ho0, hb⟩; refine ⟨_, rfl, ?_⟩; have n0_ := ak_ (Kd.R_lower ho0 (bz_ (bl_ HB))); have n1_ := ak_ (bt_ (bl_ HB) hb); clear HB; have HO209 := n0_; have HB := n1_; clear n0_ n1_; (try clear hb); (try clear hk); (try clear ho0); obtain ⟨Ao8, co8, eo8⟩ := Kd.R_slice HO209.out; subst eo8))
    go_ret2
    exact ⟨by first | rfl | (simp <;> rfl) | (simp [*] <;> rfl), bl_ HB⟩
   ·rw [if_neg c6] at H
    have c6b0 : ((t206.length : Int) == 0) = false := beq_eq_false_iff_ne.mpr c6
    have c6b1 : ((t206.length : Int) != 0) = true := bne_iff_ne.mpr c6
    have c6b2 : ¬ (t206 = []) := fun h_ => c6 (by rw [h_]; rfl)
    by_cases c9 : 0 < (t206.length : Int)
    ·rw [if_pos c9] at H
     have c9b0 := decide_eq_true c9
     have c9b1 : decide (0 < t206.length) = true := decide_eq_true (by omega)
     clear c9
     replace H := bind_eq_some_iff.mp H
     obtain ⟨⟨t211, t212⟩, A100, H⟩ := H
     replace H : (if 0 ≤ (wrap64 ((t206.length : Int) - 1)) then (if (wrap64 ((t206.length : Int) - 1)) < (t206.length : Int) then ((node_Leaf.f a0 (rd t206 (wrap64 ((t206.length : Int) - 1)))).bind fun bt214 => (if t212 = 0 then (if bt214.2 = 0 then ((node_Meet.f k a0 t211 bt214.1).bind fun bt216 => (some (bt216.1, bt216.2))) else (some (0, 1))) else (some (0, 1)))) else (none)) else (none)) = some (r1, r2) := H
     have A10 := ak_ A100
     clear A100
     obtain ⟨ji11, hji11⟩ : ∃ j_ : Int, (wrap64 ((t206.length : Int) - 1)) = j_ := ⟨_, rfl⟩
     replace H : (if 0 ≤ (ji11) then (if (ji11) < (t206.length : Int) then ((node_Leaf.f a0 (rd t206 (ji11))).bind fun bt214 => (if t212 = 0 then (if bt214.2 = 0 then ((node_Meet.f k a0 t211 bt214.1).bind fun bt216 => (some (bt216.1, bt216.2))) else (some (0, 1))) else (some (0, 1)))) else (none)) else (none)) = some (r1, r2) := by first | (rw [hji11] at H; exact H) | (simp only [hji11] at H ⊢; exact H)
     (try rw [hji11] at A4)
     (try rw [hji11] at A10)
     have hji11w : (IntKind.i64.wrap ((t206.length : Int) - 1)) = ji11 := (i64_w _).trans hji11
     by_cases c12 : 0 ≤ (ji11)
     ·rw [if_pos c12] at H
      have c12b0 := decide_eq_true c12
      clear c12
      by_cases c13 : (ji11) < (t206.length : Int)
      ·rw [if_pos c13] at H
       have c13b0 := decide_eq_true c13
       clear c13
       replace H := bind_eq_some_iff.mp H
       obtain ⟨⟨t214, t215⟩, A140, H⟩ := H
       replace H : (if t212 = 0 then (if t215 = 0 then ((node_Meet.f k a0 t211 t214).bind fun bt216 => (some (bt216.1, bt216.2))) else (some (0, 1))) else (some (0, 1))) = some (r1, r2) := H
       have A14 := ak_ A140
       clear A140
       by_cases c15 : t212 = 0
       ·rw [if_pos c15] at H
        have c15b0 : (t212 == 0) = true := beq_iff_eq.mpr c15
        have c15b1 : (t212 != 0) = false := bne_eq_false_iff_eq.mpr c15
        clear c15
        by_cases c16 : t215 = 0
        ·rw [if_pos c16] at H
         have c16b0 : (t215 == 0) = true := beq_iff_eq.mpr c16
         have c16b1 : (t215 != 0) = false := bne_eq_false_iff_eq.mpr c16
         clear c16
         replace H := bind_eq_some_iff.mp H
         obtain ⟨⟨t216, t217⟩, A170, H⟩ := H
         replace H : (some (t216, t217)) = some (r1, r2) := H
         have A17 := ak_ A170
         clear A170
         simp only [some.injEq, Prod.mk.injEq] at H
         obtain ⟨rfl, rfl⟩ := H
         go_enter func71, ntmps71
         go_wp2_with (first | ((with_reducible refine gate_callee (f := 70) rfl ?_); refine goesL_ (some 17) rfl rfl func70 (by kernel_rfl) rfl #[.int .i64 a0, .slice A1 l1.length c1, .int .u64 a2] rfl (by (try simp only [map_toArray, map_cons, map_nil]); first | done | rfl) ?_; (with_reducible refine (leaf_Below.calls k a0 _ _ l1 a2 t206 t207 _ ?side1 ?side2 A4.out).mono ?_); (case side1 => repeat (first | exact HR1.out | (with_reducible refine Kd.C_alloc ?_ _) | (with_reducible refine Kd.C_drewN ?_ _) | (with_reducible refine Kd.C_drew ?_))); (case side2 => exact HC1.out); rintro e w18 ⟨v208, rfl, ho0, hb⟩; refine ⟨_, rfl, ?_⟩; have n0_ := ak_ (Kd.R_lower ho0 (bz_ (bl_ HB))); have n1_ := ak_ (bt_ (bl_ HB) hb); clear HB; have HO209 := n0_; have HB := n1_; clear n0_ n1_; (try clear hb); (try clear hk); (try clear ho0); obtain ⟨Ao19, co19, eo19⟩ := Kd.R_slice HO209.out; subst eo19; have p210 : 0 ≤ (0 : Int) := (by omega); have q210 : 0 < (t206.length : Int) := od_ (by first | (with_reducible assumption) | assumption); obtain ⟨ad210, e210, hx210_0⟩ := Kd.at_int (Kd.R_reads' HO209.out).2.2 0 p210 q210; cases e210; have qi210 : (0 < t206.length) = True := eq_true (by omega); (try rw [show ((0 : Int)).toNat = 0 from rfl] at hx210_0); (try rw [Addr.add_zero'] at hx210_0); replace p210 := eq_true p210; replace q210 := eq_true q210) | ((with_reducible refine gate_callee (f := 92) rfl ?_); refine goesL_ (some 33) rfl rfl func92 (by kernel_rfl) rfl #[.int .i64 a0, .int .u64 (rd t206 0)] rfl (by (try simp only [map_toArray, map_cons, map_nil]); first | done | rfl) ?_; (with_reducible refine (node_Leaf.calls a0 (rd t206 0) t211 t212 _ A10.out).mono ?_); rintro e w' ⟨rfl, ⟨nd, rfl⟩⟩; refine ⟨_, rfl, ?_⟩; have p213 : 0 ≤ ((ji11) : Int) := od_ (by first | (with_reducible assumption) | assumption); have q213 : (ji11) < (t206.length : Int) := od_ (by first | (with_reducible assumption) | assumption); obtain ⟨ad213, e213, hx213_0⟩ := Kd.at_int (Kd.R_reads' HO209.out).2.2 (ji11) p213 q213; obtain rfl : ad210 = ad213 := (by injection e213); replace p213 := eq_true p213; replace q213 := eq_true q213) | ((with_reducible refine gate_callee (f := 92) rfl ?_); refine goesL_ (some 44) rfl rfl func92 (by kernel_rfl) rfl #[.int .i64 a0, .int .u64 (rd t206 (ji11))] rfl (by (try simp only [map_toArray, map_cons, map_nil]); first | done | (simp only [hji11]; rfl) | rfl | (simp only [length_drop, length_take]; rfl)) ?_; (with_reducible refine (node_Leaf.calls a0 (rd t206 (ji11)) t214 t215 _ A14.out).mono ?_); rintro e w' ⟨rfl, ⟨nd, rfl⟩⟩; refine ⟨_, rfl, ?_⟩) | ((with_reducible refine gate_callee (f := 93) rfl ?_); refine goesL_ (some 56) rfl rfl func93 (by kernel_rfl) rfl #[.int .i64 a0, .int .u64 t211, .int .u64 t214] rfl (by (try simp only [map_toArray, map_cons, map_nil]); first | done | rfl) ?_; (with_reducible refine (node_Meet.calls k a0 t211 t214 t216 t217 _ A17.out).mono ?_); rintro e w20 ⟨rfl, hb⟩; refine ⟨_, rfl, ?_⟩; have n0_ := ak_ (Kd.R_below (rl_ HO209) hb); have n1_ := ak_ (bt_ (bl_ HB) hb); clear HO209; clear HB; have HO209 := n0_; have HB := n1_; clear n0_ n1_; (try clear hb); (try clear hk)))
         go_ret2
         exact ⟨by first | rfl | (simp <;> rfl) | (simp only [← hji11]; first | rfl | (simp <;> rfl)) | (simp [*] <;> rfl), bl_ HB⟩
        ·rw [if_neg c16] at H
         have c16b0 : (t215 == 0) = false := beq_eq_false_iff_ne.mpr c16
         have c16b1 : (t215 != 0) = true := bne_iff_ne.mpr c16
         simp only [some.injEq, Prod.mk.injEq] at H
         obtain ⟨rfl, rfl⟩ := H
         go_enter func71, ntmps71
         go_wp2_with (first | ((with_reducible refine gate_callee (f := 70) rfl ?_); refine goesL_ (some 17) rfl rfl func70 (by kernel_rfl) rfl #[.int .i64 a0, .slice A1 l1.length c1, .int .u64 a2] rfl (by (try simp only [map_toArray, map_cons, map_nil]); first | done | rfl) ?_; (with_reducible refine (leaf_Below.calls k a0 _ _ l1 a2 t206 t207 _ ?side1 ?side2 A4.out).mono ?_); (case side1 => repeat (first | exact HR1.out | (with_reducible refine Kd.C_alloc ?_ _) | (with_reducible refine Kd.C_drewN ?_ _) | (with_reducible refine Kd.C_drew ?_))); (case side2 => exact HC1.out); rintro e w21 ⟨v208, rfl, ho0, hb⟩; refine ⟨_, rfl, ?_⟩; have n0_ := ak_ (Kd.R_lower ho0 (bz_ (bl_ HB))); have n1_ := ak_ (bt_ (bl_ HB) hb); clear HB; have HO209 := n0_; have HB := n1_; clear n0_ n1_; (try clear hb); (try clear hk); (try clear ho0); obtain ⟨Ao22, co22, eo22⟩ := Kd.R_slice HO209.out; subst eo22; have p210 : 0 ≤ (0 : Int) := (by omega); have q210 : 0 < (t206.length : Int) := od_ (by first | (with_reducible assumption) | assumption); obtain ⟨ad210, e210, hx210_0⟩ := Kd.at_int (Kd.R_reads' HO209.out).2.2 0 p210 q210; cases e210; have qi210 : (0 < t206.length) = True := eq_true (by omega); (try rw [show ((0 : Int)).toNat = 0 from rfl] at hx210_0); (try rw [Addr.add_zero'] at hx210_0); replace p210 := eq_true p210; replace q210 := eq_true q210) | ((with_reducible refine gate_callee (f := 92) rfl ?_); refine goesL_ (some 33) rfl rfl func92 (by kernel_rfl) rfl #[.int .i64 a0, .int .u64 (rd t206 0)] rfl (by (try simp only [map_toArray, map_cons, map_nil]); first | done | rfl) ?_; (with_reducible refine (node_Leaf.calls a0 (rd t206 0) t211 t212 _ A10.out).mono ?_); rintro e w' ⟨rfl, ⟨nd, rfl⟩⟩; refine ⟨_, rfl, ?_⟩; have p213 : 0 ≤ ((ji11) : Int) := od_ (by first | (with_reducible assumption) | assumption); have q213 : (ji11) < (t206.length : Int) := od_ (by first | (with_reducible assumption) | assumption); obtain ⟨ad213, e213, hx213_0⟩ := Kd.at_int (Kd.R_reads' HO209.out).2.2 (ji11) p213 q213; obtain rfl : ad210 = ad213 := (by injection e213); replace p213 := eq_true p213; replace q213 := eq_true q213) | ((with_reducible refine gate_callee (f := 92) rfl ?_); refine goesL_ (some 44) rfl rfl func92 (by kernel_rfl) rfl #[.int .i64 a0, .int .u64 (rd t206 (ji11))] rfl (by (try simp only [map_toArray, map_cons, map_nil]); first | done | (simp only [hji11]; rfl) | rfl | (simp only [length_drop, length_take]; rfl)) ?_; (with_reducible refine (node_Leaf.calls a0 (rd t206 (ji11)) t214 t215 _ A14.out).mono ?_); rintro e w' ⟨rfl, ⟨nd, rfl⟩⟩; refine ⟨_, rfl, ?_⟩))
         go_ret2
         exact ⟨by first | rfl | (simp <;> rfl) | (simp only [← hji11]; first | rfl | (simp <;> rfl)) | (simp [*] <;> rfl), bl_ HB⟩
       ·rw [if_neg c15] at H
        have c15b0 : (t212 == 0) = false := beq_eq_false_iff_ne.mpr c15
        have c15b1 : (t212 != 0) = true := bne_iff_ne.mpr c15
        simp only [some.injEq, Prod.mk.injEq] at H
        obtain ⟨rfl, rfl⟩ := H
        go_enter func71, ntmps71
        go_wp2_with (first | ((with_reducible refine gate_callee (f := 70) rfl ?_); refine goesL_ (some 17) rfl rfl func70 (by kernel_rfl) rfl #[.int .i64 a0, .slice A1 l1.length c1, .int .u64 a2] rfl (by (try simp only [map_toArray, map_cons, map_nil]); first | done | rfl) ?_; (with_reducible refine (leaf_Below.calls k a0 _ _ l1 a2 t206 t207 _ ?side1 ?side2 A4.out).mono ?_); (case side1 => repeat (first | exact HR1.out | (with_reducible refine Kd.C_alloc ?_ _) | (with_reducible refine Kd.C_drewN ?_ _) | (with_reducible refine Kd.C_drew ?_))); (case side2 => exact HC1.out); rintro e w23 ⟨v208, rfl, ho0, hb⟩; refine ⟨_, rfl, ?_⟩; have n0_ := ak_ (Kd.R_lower ho0 (bz_ (bl_ HB))); have n1_ := ak_ (bt_ (bl_ HB) hb); clear HB; have HO209 := n0_; have HB := n1_; clear n0_ n1_; (try clear hb); (try clear hk); (try clear ho0); obtain ⟨Ao24, co24, eo24⟩ := Kd.R_slice HO209.out; subst eo24; have p210 : 0 ≤ (0 : Int) := (by omega); have q210 : 0 < (t206.length : Int) := od_ (by first | (with_reducible assumption) | assumption); obtain ⟨ad210, e210, hx210_0⟩ := Kd.at_int (Kd.R_reads' HO209.out).2.2 0 p210 q210; cases e210; have qi210 : (0 < t206.length) = True := eq_true (by omega); (try rw [show ((0 : Int)).toNat = 0 from rfl] at hx210_0); (try rw [Addr.add_zero'] at hx210_0); replace p210 := eq_true p210; replace q210 := eq_true q210) | ((with_reducible refine gate_callee (f := 92) rfl ?_); refine goesL_ (some 33) rfl rfl func92 (by kernel_rfl) rfl #[.int .i64 a0, .int .u64 (rd t206 0)] rfl (by (try simp only [map_toArray, map_cons, map_nil]); first | done | rfl) ?_; (with_reducible refine (node_Leaf.calls a0 (rd t206 0) t211 t212 _ A10.out).mono ?_); rintro e w' ⟨rfl, ⟨nd, rfl⟩⟩; refine ⟨_, rfl, ?_⟩; have p213 : 0 ≤ ((ji11) : Int) := od_ (by first | (with_reducible assumption) | assumption); have q213 : (ji11) < (t206.length : Int) := od_ (by first | (with_reducible assumption) | assumption); obtain ⟨ad213, e213, hx213_0⟩ := Kd.at_int (Kd.R_reads' HO209.out).2.2 (ji11) p213 q213; obtain rfl : ad210 = ad213 := (by injection e213); replace p213 := eq_true p213; replace q213 := eq_true q213) | ((with_reducible refine gate_callee (f := 92) rfl ?_); refine goesL_ (some 44) rfl rfl func92 (by kernel_rfl) rfl #[.int .i64 a0, .int .u64 (rd t206 (ji11))] rfl (by (try simp only [map_toArray, map_cons, map_nil]); first | done | (simp only [hji11]; rfl) | rfl | (simp only [length_drop, length_take]; rfl)) ?_; (with_reducible refine (node_Leaf.calls a0 (rd t206 (ji11)) t214 t215 _ A14.out).mono ?_); rintro e w' ⟨rfl, ⟨nd, rfl⟩⟩; refine ⟨_, rfl, ?_⟩))
        go_ret2
        exact ⟨by first | rfl | (simp <;> rfl) | (simp only [← hji11]; first | rfl | (simp <;> rfl)) | (simp [*] <;> rfl), bl_ HB⟩
      ·rw [if_neg c13] at H
       exact absurd H (by simp)
     ·rw [if_neg c12] at H
      exact absurd H (by simp)
    ·rw [if_neg c9] at H
     exact absurd H (by simp)
  ·rw [if_neg c5] at H
   have c5b0 : (t207 == 0) = false := beq_eq_false_iff_ne.mpr c5
   have c5b1 : (t207 != 0) = true := bne_iff_ne.mpr c5
   simp only [some.injEq, Prod.mk.injEq] at H
   obtain ⟨rfl, rfl⟩ := H
   go_enter func71, ntmps71
   go_wp2_with (first | ((with_reducible refine gate_callee (f := 70) rfl ?_); refine goesL_ (some 17) rfl rfl func70 (by kernel_rfl) rfl #[.int .i64 a0, .slice A1 l1.length c1, .int .u64 a2] rfl (by (try simp only [map_toArray, map_cons, map_nil]); first | done | rfl) ?_; (with_reducible refine (leaf_Below.calls k a0 _ _ l1 a2 t206 t207 _ ?side1 ?side2 A4.out).mono ?_); (case side1 => repeat (first | exact HR1.out | (with_reducible refine Kd.C_alloc ?_ _) | (with_reducible refine Kd.C_drewN ?_ _) | (with_reducible refine Kd.C_drew ?_))); (case side2 => exact HC1.out); rintro e w25 ⟨v208, rfl, ho0, hb⟩; refine ⟨_, rfl, ?_⟩; have n0_ := ak_ (Kd.R_lower ho0 (bz_ (bl_ HB))); have n1_ := ak_ (bt_ (bl_ HB) hb); clear HB; have HO209 := n0_; have HB := n1_; clear n0_ n1_; (try clear hb); (try clear hk); (try clear ho0)))
   go_ret2
   exact ⟨by first | rfl | (simp <;> rfl) | (simp [*] <;> rfl), bl_ HB⟩
def bits_Len.f (k : Nat) (a0 : Int) : Option (Int) := (bits_Len64.f k a0).bind fun t220 => (some t220)
set_option maxHeartbeats 8000000 in
set_option maxRecDepth 100000 in
theorem bits_Len.calls (k : Nat) (a0 : Int) (r : Int) (w : World) (h : bits_Len.f k a0 = some r) :
   Calls Tryz.prog 59 #[.int .u64 a0] w fun e w' => e = .returned (.int .i64 r) ∧ Drawn0 w w' := by
  have H : ((bits_Len64.f k a0).bind fun t220 => (some t220)) = some r := h
  clear h
  replace H := bind_eq_some_iff.mp H
  obtain ⟨t220, A20, H⟩ := H
  replace H : (some t220) = some r := H
  have A2 := ak_ A20
  clear A20
  obtain rfl := Option.some.inj H
  go_enter func59, ntmps59
  go_wp2_with (first | ((with_reducible refine gate_callee (f := 83) rfl ?_); refine goesL_ (some 7) rfl rfl func83 (by kernel_rfl) rfl #[.int .u64 a0] rfl (by (try simp only [map_toArray, map_cons, map_nil]); first | done | rfl) ?_; (with_reducible refine (bits_Len64.calls k a0 t220 _ A2.out).mono ?_); rintro e w' ⟨rfl, ⟨nd, rfl⟩⟩; refine ⟨_, rfl, ?_⟩))
  go_ret
  exact ⟨by first | rfl | (simp; done) | (simp [*]; done), by repeat (first | exact Drawn0.refl _ | apply Drawn0.step)⟩
def cmp_Or_int.l0 : Nat → Int → List Int → Int → Int → Option (Int)
  | 0, _, _, _, _ => none
  | k + 1, x3, x6, x7, x8 => if x8 < x7 then (if 0 ≤ x8 then (if x8 < (x6.length : Int) then (if (rd x6 x8) = x3 then (cmp_Or_int.l0 k x3 x6 x7 (wrap64 (x8 + 1))) else (some (rd x6 x8))) else (none)) else (none)) else (some x3)
def cmp_Or_int.f (k : Nat) (l0 : List Int) : Option (Int) := cmp_Or_int.l0 k 0 l0 (l0.length : Int) 0
set_option maxHeartbeats 8000000 in
set_option maxRecDepth 100000 in
theorem cmp_Or_int.calls (k : Nat) (A0 : Option Addr) (c0 : Nat) (l0 : List Int) (r : Int) (w : World) (hr0 : Kd.C (Kd.int .i64) w A0 l0.length l0) (hc0 : l0.length ≤ c0) (h : cmp_Or_int.f k l0 = some r) :
   Calls Tryz.prog 48 #[.slice A0 l0.length c0] w fun e w' => e = .returned (.int .i64 r) ∧ Drawn0 w w' := by
  have HR0 := ak_ hr0
  have HC0 := ak_ hc0
  clear hr0 hc0
  have H : (cmp_Or_int.l0 k 0 l0 (l0.length : Int) 0) = some r := h
  clear h
  have H' := ak_ H
  clear H
  go_enter func48, ntmps48
  go_wp2
  go_loopg [8] k (fun kq v8 w' => ∃ (x8_1 : Int), v8 = .int .i64 x8_1 ∧ Aside0 (cmp_Or_int.l0 kq 0 l0 (l0.length : Int) x8_1 = some r) ∧ Aside0 (kq ≤ k) ∧ Drawn0 w w')
  case atStart => exact ⟨(0), (by first | rfl | (simp; done) | (simp [*]; done)), H', ⟨Nat.le_refl _⟩, by repeat (first | exact Drawn0.refl _ | apply Drawn0.step)⟩
  case round =>
   clear H'
   obtain ⟨x8_1, rfl, HA, HK1, ⟨m1, rfl⟩⟩ := hrel
   cases gk with
   | zero => exact absurd HA.out (by simp [cmp_Or_int.l0])
   | succ k1 =>
    have H := HA.out
    clear HA
    simp only [cmp_Or_int.l0] at H
    by_cases c2 : x8_1 < (l0.length : Int)
    ·rw [if_pos c2] at H
     have c2b0 := decide_eq_true c2
     clear c2
     by_cases c3 : 0 ≤ x8_1
     ·rw [if_pos c3] at H
      have c3b0 := decide_eq_true c3
      clear c3
      by_cases c4 : x8_1 < (l0.length : Int)
      ·rw [if_pos c4] at H
       have c4b0 := decide_eq_true c4
       clear c4
       by_cases c5 : (rd l0 x8_1) = 0
       ·rw [if_pos c5] at H
        have c5b0 : ((rd l0 x8_1) == 0) = true := beq_iff_eq.mpr c5
        have c5b1 : ((rd l0 x8_1) != 0) = false := bne_eq_false_iff_eq.mpr c5
        clear c5
        have H' := ak_ H
        clear H
        have p222 : 0 ≤ (x8_1 : Int) := od_ (by first | (with_reducible assumption) | assumption)
        have q222 : x8_1 < (l0.length : Int) := od_ (by first | (with_reducible assumption) | assumption)
        obtain ⟨ad222, e222, hx222_0⟩ := Kd.at_int HR0.out x8_1 p222 q222
        cases e222
        replace p222 := eq_true p222
        replace q222 := eq_true q222
        go_wp2
        go_roundg k1
        case measure => have := HK1.out; omega
        case rel => exact ⟨(wrap64 (x8_1 + 1)), (by first | rfl | (simp; done) | (simp [*]; done)), H', ⟨by have := HK1.out; omega⟩, by repeat (first | exact Drawn0.refl _ | apply Drawn0.step)⟩
       ·rw [if_neg c5] at H
        have c5b0 : ((rd l0 x8_1) == 0) = false := beq_eq_false_iff_ne.mpr c5
        have c5b1 : ((rd l0 x8_1) != 0) = true := bne_iff_ne.mpr c5
        obtain rfl := Option.some.inj H
        have p222 : 0 ≤ (x8_1 : Int) := od_ (by first | (with_reducible assumption) | assumption)
        have q222 : x8_1 < (l0.length : Int) := od_ (by first | (with_reducible assumption) | assumption)
        obtain ⟨ad222, e222, hx222_0⟩ := Kd.at_int HR0.out x8_1 p222 q222
        cases e222
        replace p222 := eq_true p222
        replace q222 := eq_true q222
        go_wp2
        go_ret
        exact ⟨by first | rfl | (simp; done) | (simp [*]; done), by repeat (first | exact Drawn0.refl _ | apply Drawn0.step)⟩
      ·rw [if_neg c4] at H
       exact absurd H (by simp)
     ·rw [if_neg c3] at H
      exact absurd H (by simp)
    ·rw [if_neg c2] at H
     have c2b0 := decide_eq_false c2
     clear c2
     obtain rfl := Option.some.inj H
     go_wp2
     go_ret
     exact ⟨by first | rfl | (simp; done) | (simp [*]; done), by repeat (first | exact Drawn0.refl _ | apply Drawn0.step)⟩
def cmp_Compare_uint64.f (a0 : Int) (a1 : Int) : Option (Int) := (cmp_isNaN_uint64.f a0).bind fun t223 => ((cmp_isNaN_uint64.f a1).bind fun t224 => (if t223 = true then (if t224 = true then (some 0) else (some (-1))) else (if t224 = true then (some 1) else (if a0 < a1 then (some (-1)) else (if a0 > a1 then (some 1) else (some 0))))))
set_option maxHeartbeats 8000000 in
set_option maxRecDepth 100000 in
theorem cmp_Compare_uint64.calls (a0 : Int) (a1 : Int) (r : Int) (w : World) (h : cmp_Compare_uint64.f a0 a1 = some r) :
   Calls Tryz.prog 49 #[.int .u64 a0, .int .u64 a1] w fun e w' => e = .returned (.int .i64 r) ∧ Drawn0 w w' := by
  have H : ((cmp_isNaN_uint64.f a0).bind fun t223 => ((cmp_isNaN_uint64.f a1).bind fun t224 => (if t223 = true then (if t224 = true then (some 0) else (some (-1))) else (if t224 = true then (some 1) else (if a0 < a1 then (some (-1)) else (if a0 > a1 then (some 1) else (some 0))))))) = some r := h
  clear h
  replace H := bind_eq_some_iff.mp H
  obtain ⟨t223, A30, H⟩ := H
  replace H : ((cmp_isNaN_uint64.f a1).bind fun t224 => (if t223 = true then (if t224 = true then (some 0) else (some (-1))) else (if t224 = true then (some 1) else (if a0 < a1 then (some (-1)) else (if a0 > a1 then (some 1) else (some 0)))))) = some r := H
  have A3 := ak_ A30
  clear A30
  replace H := bind_eq_some_iff.mp H
  obtain ⟨t224, A40, H⟩ := H
  replace H : (if t223 = true then (if t224 = true then (some 0) else (some (-1))) else (if t224 = true then (some 1) else (if a0 < a1 then (some (-1)) else (if a0 > a1 then (some 1) else (some 0))))) = some r := H
  have A4 := ak_ A40
  clear A40
  by_cases c5 : t223 = true
  ·subst c5
   have H1 : (if t224 = true then (some 0) else (some (-1))) = some r := by rw [if_pos rfl] at H; exact H
   clear H
   have H := H1
   clear H1
   by_cases c6 : t224 = true
   ·subst c6
    have H1 : (some 0) = some r := by rw [if_pos rfl] at H; exact H
    clear H
    have H := H1
    clear H1
    obtain rfl := Option.some.inj H
    go_enter func49, ntmps49
    go_wp2_with (first | ((with_reducible refine gate_callee (f := 77) rfl ?_); refine goesL_ (some 8) rfl rfl func77 (by kernel_rfl) rfl #[.int .u64 a0] rfl (by (try simp only [map_toArray, map_cons, map_nil]); first | done | rfl) ?_; (with_reducible refine (cmp_isNaN_uint64.calls a0 true _ A3.out).mono ?_); rintro e w' ⟨rfl, ⟨nd, rfl⟩⟩; refine ⟨_, rfl, ?_⟩) | ((with_reducible refine gate_callee (f := 77) rfl ?_); refine goesL_ (some 10) rfl rfl func77 (by kernel_rfl) rfl #[.int .u64 a1] rfl (by (try simp only [map_toArray, map_cons, map_nil]); first | done | rfl) ?_; (with_reducible refine (cmp_isNaN_uint64.calls a1 true _ A4.out).mono ?_); rintro e w' ⟨rfl, ⟨nd, rfl⟩⟩; refine ⟨_, rfl, ?_⟩))
    go_ret
    exact ⟨by first | rfl | (simp; done) | (simp [*]; done), by repeat (first | exact Drawn0.refl _ | apply Drawn0.step)⟩
   ·replace c6 := Bool.eq_false_iff.mpr c6
    subst c6
    have H1 : (some (-1)) = some r := by rw [if_neg (show ¬ (false = true) by decide)] at H; exact H
    clear H
    have H := H1
    clear H1
    obtain rfl := Option.some.inj H
    go_enter func49, ntmps49
    go_wp2_with (first | ((with_reducible refine gate_callee (f := 77) rfl ?_); refine goesL_ (some 8) rfl rfl func77 (by kernel_rfl) rfl #[.int .u64 a0] rfl (by (try simp only [map_toArray, map_cons, map_nil]); first | done | rfl) ?_; (with_reducible refine (cmp_isNaN_uint64.calls a0 true _ A3.out).mono ?_); rintro e w' ⟨rfl, ⟨nd, rfl⟩⟩; refine ⟨_, rfl, ?_⟩) | ((with_reducible refine gate_callee (f := 77) rfl ?_); refine goesL_ (some 10) rfl rfl func77 (by kernel_rfl) rfl #[.int .u64 a1] rfl (by (try simp only [map_toArray, map_cons, map_nil]); first | done | rfl) ?_; (with_reducible refine (cmp_isNaN_uint64.calls a1 false _ A4.out).mono ?_); rintro e w' ⟨rfl, ⟨nd, rfl⟩⟩; refine ⟨_, rfl, ?_⟩))
    go_ret
    exact ⟨by first | rfl | (simp; done) | (simp [*]; done), by repeat (first | exact Drawn0.refl _ | apply Drawn0.step)⟩
  ·replace c5 := Bool.eq_false_iff.mpr c5
   subst c5
   have H1 : (if t224 = true then (some 1) else (if a0 < a1 then (some (-1)) else (if a0 > a1 then (some 1) else (some 0)))) = some r := by rw [if_neg (show ¬ (false = true) by decide)] at H; exact H
   clear H
   have H := H1
   clear H1
   by_cases c7 : t224 = true
   ·subst c7
    have H1 : (some 1) = some r := by rw [if_pos rfl] at H; exact H
    clear H
    have H := H1
    clear H1
    obtain rfl := Option.some.inj H
    go_enter func49, ntmps49
    go_wp2_with (first | ((with_reducible refine gate_callee (f := 77) rfl ?_); refine goesL_ (some 8) rfl rfl func77 (by kernel_rfl) rfl #[.int .u64 a0] rfl (by (try simp only [map_toArray, map_cons, map_nil]); first | done | rfl) ?_; (with_reducible refine (cmp_isNaN_uint64.calls a0 false _ A3.out).mono ?_); rintro e w' ⟨rfl, ⟨nd, rfl⟩⟩; refine ⟨_, rfl, ?_⟩) | ((with_reducible refine gate_callee (f := 77) rfl ?_); refine goesL_ (some 10) rfl rfl func77 (by kernel_rfl) rfl #[.int .u64 a1] rfl (by (try simp only [map_toArray, map_cons, map_nil]); first | done | rfl) ?_; (with_reducible refine (cmp_isNaN_uint64.calls a1 true _ A4.out).mono ?_); rintro e w' ⟨rfl, ⟨nd, rfl⟩⟩; refine ⟨_, rfl, ?_⟩))
    go_ret
    exact ⟨by first | rfl | (simp; done) | (simp [*]; done), by repeat (first | exact Drawn0.refl _ | apply Drawn0.step)⟩
   ·replace c7 := Bool.eq_false_iff.mpr c7
    subst c7
    have H1 : (if a0 < a1 then (some (-1)) else (if a0 > a1 then (some 1) else (some 0))) = some r := by rw [if_neg (show ¬ (false = true) by decide)] at H; exact H
    clear H
    have H := H1
    clear H1
    by_cases c8 : a0 < a1
    ·rw [if_pos c8] at H
     have c8b0 := decide_eq_true c8
     clear c8
     obtain rfl := Option.some.inj H
     go_enter func49, ntmps49
     go_wp2_with (first | ((with_reducible refine gate_callee (f := 77) rfl ?_); refine goesL_ (some 8) rfl rfl func77 (by kernel_rfl) rfl #[.int .u64 a0] rfl (by (try simp only [map_toArray, map_cons, map_nil]); first | done | rfl) ?_; (with_reducible refine (cmp_isNaN_uint64.calls a0 false _ A3.out).mono ?_); rintro e w' ⟨rfl, ⟨nd, rfl⟩⟩; refine ⟨_, rfl, ?_⟩) | ((with_reducible refine gate_callee (f := 77) rfl ?_); refine goesL_ (some 10) rfl rfl func77 (by kernel_rfl) rfl #[.int .u64 a1] rfl (by (try simp only [map_toArray, map_cons, map_nil]); first | done | rfl) ?_; (with_reducible refine (cmp_isNaN_uint64.calls a1 false _ A4.out).mono ?_); rintro e w' ⟨rfl, ⟨nd, rfl⟩⟩; refine ⟨_, rfl, ?_⟩))
     go_ret
     exact ⟨by first | rfl | (simp; done) | (simp [*]; done), by repeat (first | exact Drawn0.refl _ | apply Drawn0.step)⟩
    ·rw [if_neg c8] at H
     have c8b0 := decide_eq_false c8
     clear c8
     by_cases c9 : a0 > a1
     ·rw [if_pos c9] at H
      have c9b0 : decide (a1 < a0) = true := decide_eq_true c9
      clear c9
      obtain rfl := Option.some.inj H
      go_enter func49, ntmps49
      go_wp2_with (first | ((with_reducible refine gate_callee (f := 77) rfl ?_); refine goesL_ (some 8) rfl rfl func77 (by kernel_rfl) rfl #[.int .u64 a0] rfl (by (try simp only [map_toArray, map_cons, map_nil]); first | done | rfl) ?_; (with_reducible refine (cmp_isNaN_uint64.calls a0 false _ A3.out).mono ?_); rintro e w' ⟨rfl, ⟨nd, rfl⟩⟩; refine ⟨_, rfl, ?_⟩) | ((with_reducible refine gate_callee (f := 77) rfl ?_); refine goesL_ (some 10) rfl rfl func77 (by kernel_rfl) rfl #[.int .u64 a1] rfl (by (try simp only [map_toArray, map_cons, map_nil]); first | done | rfl) ?_; (with_reducible refine (cmp_isNaN_uint64.calls a1 false _ A4.out).mono ?_); rintro e w' ⟨rfl, ⟨nd, rfl⟩⟩; refine ⟨_, rfl, ?_⟩))
      go_ret
      exact ⟨by first | rfl | (simp; done) | (simp [*]; done), by repeat (first | exact Drawn0.refl _ | apply Drawn0.step)⟩
     ·rw [if_neg c9] at H
      have c9b0 : decide (a1 < a0) = false := decide_eq_false c9
      clear c9
      obtain rfl := Option.some.inj H
      go_enter func49, ntmps49
      go_wp2_with (first | ((with_reducible refine gate_callee (f := 77) rfl ?_); refine goesL_ (some 8) rfl rfl func77 (by kernel_rfl) rfl #[.int .u64 a0] rfl (by (try simp only [map_toArray, map_cons, map_nil]); first | done | rfl) ?_; (with_reducible refine (cmp_isNaN_uint64.calls a0 false _ A3.out).mono ?_); rintro e w' ⟨rfl, ⟨nd, rfl⟩⟩; refine ⟨_, rfl, ?_⟩) | ((with_reducible refine gate_callee (f := 77) rfl ?_); refine goesL_ (some 10) rfl rfl func77 (by kernel_rfl) rfl #[.int .u64 a1] rfl (by (try simp only [map_toArray, map_cons, map_nil]); first | done | rfl) ?_; (with_reducible refine (cmp_isNaN_uint64.calls a1 false _ A4.out).mono ?_); rintro e w' ⟨rfl, ⟨nd, rfl⟩⟩; refine ⟨_, rfl, ?_⟩))
      go_ret
      exact ⟨by first | rfl | (simp; done) | (simp [*]; done), by repeat (first | exact Drawn0.refl _ | apply Drawn0.step)⟩
mutual
def diff_cut.f : Nat → Int → List Int → Int → List S25 → Option (List S25 × Int)
  | 0, _, _, _, _ => none
  | k + 1, h, l, top, out => (steiner_Down.f k h l top).bind fun d => if d.2 = 0 then (if d.1 = top then diff_cut.g k h l d.1 0 out else if out.length < 8796093022207 then diff_cut.g k h l d.1 0 (out ++ [⟨top, d.1⟩]) else none) else some (out, d.2)
def diff_cut.g : Nat → Int → List Int → Int → Int → List S25 → Option (List S25 × Int)
  | 0, _, _, _, _, _ => none
  | k + 1, h, l, d, t, out => if t < 2 then ((node_Child.f k h d t).bind fun n => if n.2 = 4 then some (out, 0) else if n.2 = 0 then ((diff_cut.f k h l n.1 out).bind fun r => if r.2 = 0 then diff_cut.g k h l d (wrap64 (t + 1)) r.1 else some r) else some (out, n.2)) else some (out, 0)
end
theorem cu_cells {W : World} {b T : Nat} {x y z : Value} (h : W.heap[b]? = some (.cells #[x, y, z] T (0, 0))) : W.cell? ⟨b, 0, none⟩ = some x ∧ W.cell? ⟨b, 1, none⟩ = some y ∧ W.cell? ⟨b, 2, none⟩ = some z ∧ W.frozen? ⟨b, 2, none⟩ = false := by
  simp [World.cell?, World.frozen?, h]
theorem cu_grown {W w1 : World} {g : Nat} {o : Obj} {row : Option Nat} (h : W.heap[g]? = some o) (hg : W.grownBy w1 row) (hne : some g ≠ row) : w1.heap[g]? = some o := (hg.5 g (blk_lt h) (by first | exact hne | exact fun e => hne e.symm)).trans h
theorem cu_set {W : World} {b T : Nat} {x y z : Value} (h : W.heap[b]? = some (.cells #[x, y, z] T (0, 0))) (u : Value) : (W.setCell ⟨b, 2, none⟩ u).heap[b]? = some (.cells #[x, y, u] T (0, 0)) := by
  simp [World.setCell, Array.getElem?_modify, h]
theorem cu_R {W : World} {e base b T : Nat} {ok : Nat → Prop} {v u : Value} {xs : List S25} {cs : Array Value} (h : Kd.R k25 e W base ok v xs) (hx : W.heap[b]? = some (.cells cs T (0, 0))) (hT : e ≠ T) : Kd.R k25 e (W.setCell ⟨b, 2, none⟩ u) base ok v xs := by
  refine Kd.R_mono (Kd.R_move (Kd.R_bound h) ?_) (fun k_ hk => hk.1)
  rintro k_ ⟨_, _, _, q, hq, cells, hc⟩
  refine Below.heap_setCell W _ u k_ ?_
  rintro rfl
  rw [hx] at hc
  simp only [some.injEq, Obj.cells.injEq] at hc
  simp [k25, Kd.iso, Kd.pair, Kd.int, Kd.scalar] at hq
  exact hT (hq.symm.trans hc.2.1.symm)
set_option maxHeartbeats 8000000 in
set_option maxRecDepth 100000 in
theorem diff_cut.calls (k : Nat) : ∀ (a0 : Int) (A : Option Addr) (c : Nat) (l : List Int) (out : List S25) (top r : Int) (out' : List S25) (w W : World) (v : Value) (hr : Kd.C (Kd.int .u64) w A l.length l) (hc : l.length ≤ c) (hB : Below w.heap.size w W) (hx : W.heap[w.heap.size]? = some (.cells #[.int .i64 a0, .slice A l.length c, v] 57 (0, 0))) (hv : Kd.R k25 25 W w.heap.size (fun _ => True) v out) (h : diff_cut.f k a0 l top out = some (out', r)),
   Calls Tryz.prog 40 #[.pointer (some ⟨w.heap.size, 0, none⟩), .int .u64 top] W fun e W' => e = .returned (.int .i64 r) ∧ ∃ v' : Value, W'.heap[w.heap.size]? = some (.cells #[.int .i64 a0, .slice A l.length c, v'] 57 (0, 0)) ∧ Kd.R k25 25 W' w.heap.size (fun _ => True) v' out' ∧ Below w.heap.size w W' := by
  induction k using Nat.strongRecOn with
  | ind k ih =>
  intro a0 A c l out top r out' w W v hr hc hB hx hv h
  cases k with
  | zero => exact absurd h (by simp [diff_cut.f])
  | succ k =>
  rw [diff_cut.f] at h
  obtain ⟨⟨d, e1⟩, A30, H⟩ := bind_eq_some_iff.mp h
  clear h
  dsimp only at H
  have A3 := ak_ A30
  have HR := ak_ hr
  have HC := ak_ hc
  have HB := ak_ hB
  have HX := ak_ hx
  have HV := ak_ hv
  have IH := ak_ ih
  obtain ⟨x0, x1, x2, xf⟩ := cu_cells hx
  clear A30 hr hc hB hv ih
  have hu85 := underlying57
  by_cases c1 : e1 = 0
  ·rw [if_pos c1] at H
   subst c1
   by_cases c2 : d = top
   ·rw [if_pos c2] at H
    subst c2
    have H' := ak_ H
    clear H
    go_enter func40, ntmps40
    go_wp2
    go_region_held3 (fun w' => w'.cell? ⟨w.heap.size, 0, none⟩ = some (.int .i64 a0) ∧ w'.cell? ⟨w.heap.size, 1, none⟩ = some (.slice A l.length c)) (go_keep)
     (first | (go_at_call 71; refine (steiner_Down.calls k a0 A c l d d 0 _ ?side1 HC.out A3.out).mono ?_; (case side1 => repeat (first | exact Kd.C_below HR.out HB.out | (with_reducible refine Kd.C_drewN ?_ _) | (with_reducible refine Kd.C_drew ?_))); rintro e w5 ⟨rfl, hb⟩; have n0_ := ak_ (kb_ (by (with_reducible repeat (first | refine kn_ ?_ _ | refine kd_ ?_)); exact HX.out) hb); have n1_ := ak_ (Kd.R_below (by (with_reducible repeat (first | apply Kd.R_drewN | apply Kd.R_drew)); exact HV.out) hb); have n2_ := ak_ (bt_ (by repeat (first | (with_reducible first | exact HB.out | apply bn_ | apply bd_) | exact HB.out)) hb); obtain ⟨y0, y1, y2, yf⟩ := cu_cells n0_.out; clear HX HV HB; have HX := n0_; have HV := n1_; have HB := n2_; clear n0_ n1_ n2_ hb))
    clear x0 x1 x2 xf hx
    go_wp2
    go_loopg [41] k (fun kq v41 w' => ∃ (t : Int) (o : List S25) (u : Value), v41 = .int .i64 t ∧ Aside0 (diff_cut.g kq a0 l d t o = some (out', r)) ∧ Aside0 (kq ≤ k) ∧ Aside0 (w'.heap[w.heap.size]? = some (.cells #[.int .i64 a0, .slice A l.length c, u] 57 (0, 0))) ∧ Aside0 (Kd.R k25 25 w' w.heap.size (fun _ => True) u o) ∧ Aside0 (Below w.heap.size w w'))
    case atStart => exact ⟨0, out, v, rfl, H', ⟨Nat.le_refl _⟩, ⟨(kl_ HX)⟩, ⟨(rl_ HV)⟩, ⟨(bl_ HB)⟩⟩
    case round =>
     clear H' HX HV HB
     try clear y0 y1 y2 yf
     obtain ⟨t, o, u, rfl, HA, HK1, HX, HV, HB⟩ := hrel
     cases gk with
     | zero => exact absurd HA.out (by simp [diff_cut.g])
     | succ k2 =>
      have H := HA.out
      clear HA
      rw [diff_cut.g] at H
      obtain ⟨x0, x1, x2, xf⟩ := cu_cells HX.out
      by_cases c5 : t < 2
      ·rw [if_pos c5] at H
       have c5b0 := decide_eq_true c5
       clear c5
       obtain ⟨⟨n1, n2⟩, A110, H⟩ := bind_eq_some_iff.mp H
       dsimp only at H
       have A11 := ak_ A110
       clear A110
       by_cases c6 : n2 = 4
       ·rw [if_pos c6] at H
        subst c6
        simp only [some.injEq, Prod.mk.injEq] at H
        obtain ⟨rfl, rfl⟩ := H
        go_wp2_with (first | ((with_reducible refine gate_callee (f := 72) rfl ?_); refine goesL_ (some 51) rfl rfl func72 (by kernel_rfl) rfl #[.int .i64 a0, .int .u64 d, .int .i64 t] rfl (by (try simp only [map_toArray, map_cons, map_nil]); first | done | rfl) ?_; (with_reducible refine (node_Child.calls k2 a0 d t n1 4 _ A11.out).mono ?_); rintro e w' ⟨rfl, ⟨nd, rfl⟩⟩; refine ⟨_, rfl, ?_⟩))
        go_ret
        exact ⟨rfl, u, (kl_ HX), (rl_ HV), (bl_ HB)⟩
       ·rw [if_neg c6] at H
        have c6b0 : (n2 == 4) = false := beq_eq_false_iff_ne.mpr c6
        clear c6
        by_cases c7 : n2 = 0
        ·rw [if_pos c7] at H
         subst c7
         obtain ⟨⟨q1, q2⟩, A130, H⟩ := bind_eq_some_iff.mp H
         dsimp only at H
         have A13 := ak_ A130
         clear A130
         by_cases c8 : q2 = 0
         ·rw [if_pos c8] at H
          subst c8
          have H' := ak_ H
          clear H
          go_wp2_with (first | ((with_reducible refine gate_callee (f := 72) rfl ?_); refine goesL_ (some 51) rfl rfl func72 (by kernel_rfl) rfl #[.int .i64 a0, .int .u64 d, .int .i64 t] rfl (by (try simp only [map_toArray, map_cons, map_nil]); first | done | rfl) ?_; (with_reducible refine (node_Child.calls k2 a0 d t n1 0 _ A11.out).mono ?_); rintro e w' ⟨rfl, ⟨nd, rfl⟩⟩; refine ⟨_, rfl, ?_⟩) | ((with_reducible refine gate_callee (f := 40) rfl ?_); refine goesL_ (some 61) rfl rfl func40 (by kernel_rfl) rfl #[.pointer (some ⟨w.heap.size, 0, none⟩), .int .u64 n1] rfl (by (try simp only [map_toArray, map_cons, map_nil]); first | done | rfl) ?_; refine (IH.out k2 ?lt a0 A c l o n1 0 q1 w _ u HR.out HC.out ?sB ?sX ?sV A13.out).mono ?_; (case lt => have := HK1.out; omega); (case sB => exact (bl_ HB)); (case sX => exact (kl_ HX)); (case sV => exact (rl_ HV)); rintro e w9 ⟨rfl, v9, hx9, ho9, hb9⟩; refine ⟨_, rfl, ?_⟩; have n0_ := ak_ hx9; have n1_ := ak_ ho9; have n2_ := ak_ hb9; obtain ⟨z0, z1, z2, zf⟩ := cu_cells hx9; clear hx9 ho9 hb9; clear HX HV HB; have HX := n0_; have HV := n1_; have HB := n2_; clear n0_ n1_ n2_))
          go_roundg k2
          case measure => have := HK1.out; omega
          case rel => exact ⟨(wrap64 (t + 1)), q1, v9, (by first | rfl | (simp; done) | (simp [*]; done)), H', ⟨by have := HK1.out; omega⟩, ⟨(kl_ HX)⟩, ⟨(rl_ HV)⟩, ⟨(bl_ HB)⟩⟩
         ·rw [if_neg c8] at H
          have c8b0 : (q2 != 0) = true := bne_iff_ne.mpr c8
          clear c8
          simp only [some.injEq, Prod.mk.injEq] at H
          obtain ⟨rfl, rfl⟩ := H
          go_wp2_with (first | ((with_reducible refine gate_callee (f := 72) rfl ?_); refine goesL_ (some 51) rfl rfl func72 (by kernel_rfl) rfl #[.int .i64 a0, .int .u64 d, .int .i64 t] rfl (by (try simp only [map_toArray, map_cons, map_nil]); first | done | rfl) ?_; (with_reducible refine (node_Child.calls k2 a0 d t n1 0 _ A11.out).mono ?_); rintro e w' ⟨rfl, ⟨nd, rfl⟩⟩; refine ⟨_, rfl, ?_⟩) | ((with_reducible refine gate_callee (f := 40) rfl ?_); refine goesL_ (some 61) rfl rfl func40 (by kernel_rfl) rfl #[.pointer (some ⟨w.heap.size, 0, none⟩), .int .u64 n1] rfl (by (try simp only [map_toArray, map_cons, map_nil]); first | done | rfl) ?_; refine (IH.out k2 ?lt a0 A c l o n1 q2 q1 w _ u HR.out HC.out ?sB ?sX ?sV A13.out).mono ?_; (case lt => have := HK1.out; omega); (case sB => exact (bl_ HB)); (case sX => exact (kl_ HX)); (case sV => exact (rl_ HV)); rintro e w9 ⟨rfl, v9, hx9, ho9, hb9⟩; refine ⟨_, rfl, ?_⟩; have n0_ := ak_ hx9; have n1_ := ak_ ho9; have n2_ := ak_ hb9; obtain ⟨z0, z1, z2, zf⟩ := cu_cells hx9; clear hx9 ho9 hb9; clear HX HV HB; have HX := n0_; have HV := n1_; have HB := n2_; clear n0_ n1_ n2_))
          go_ret
          exact ⟨rfl, v9, (kl_ HX), (rl_ HV), (bl_ HB)⟩
        ·rw [if_neg c7] at H
         have c7b0 : (n2 != 0) = true := bne_iff_ne.mpr c7
         clear c7
         simp only [some.injEq, Prod.mk.injEq] at H
         obtain ⟨rfl, rfl⟩ := H
         go_wp2_with (first | ((with_reducible refine gate_callee (f := 72) rfl ?_); refine goesL_ (some 51) rfl rfl func72 (by kernel_rfl) rfl #[.int .i64 a0, .int .u64 d, .int .i64 t] rfl (by (try simp only [map_toArray, map_cons, map_nil]); first | done | rfl) ?_; (with_reducible refine (node_Child.calls k2 a0 d t n1 n2 _ A11.out).mono ?_); rintro e w' ⟨rfl, ⟨nd, rfl⟩⟩; refine ⟨_, rfl, ?_⟩))
         go_ret
         exact ⟨rfl, u, (kl_ HX), (rl_ HV), (bl_ HB)⟩
      ·rw [if_neg c5] at H
       have c5b0 := decide_eq_false c5
       clear c5
       simp only [some.injEq, Prod.mk.injEq] at H
       obtain ⟨rfl, rfl⟩ := H
       go_wp2
       go_ret
       exact ⟨rfl, u, (kl_ HX), (rl_ HV), (bl_ HB)⟩
   ·rw [if_neg c2] at H
    have c2b0 : (d != top) = true := bne_iff_ne.mpr c2
    clear c2
    by_cases c3 : out.length < 8796093022207
    ·rw [if_pos c3] at H
     have HL := ak_ c3
     have H' := ak_ H
     clear H c3
     go_enter func40, ntmps40
     go_wp2
     go_region_held3 (fun w' => w'.cell? ⟨w.heap.size, 0, none⟩ = some (.int .i64 a0) ∧ w'.cell? ⟨w.heap.size, 1, none⟩ = some (.slice A l.length c)) (go_keep)
      (first | (go_at_call 71; refine (steiner_Down.calls k a0 A c l top d 0 _ ?side1 HC.out A3.out).mono ?_; (case side1 => repeat (first | exact Kd.C_below HR.out HB.out | (with_reducible refine Kd.C_drewN ?_ _) | (with_reducible refine Kd.C_drew ?_))); rintro e w5 ⟨rfl, hb⟩; have n0_ := ak_ (kb_ (by (with_reducible repeat (first | refine kn_ ?_ _ | refine kd_ ?_)); exact HX.out) hb); have n1_ := ak_ (Kd.R_below (by (with_reducible repeat (first | apply Kd.R_drewN | apply Kd.R_drew)); exact HV.out) hb); have n2_ := ak_ (bt_ (by repeat (first | (with_reducible first | exact HB.out | apply bn_ | apply bd_) | exact HB.out)) hb); obtain ⟨y0, y1, y2, yf⟩ := cu_cells n0_.out; clear HX HV HB; have HX := n0_; have HV := n1_; have HB := n2_; clear n0_ n1_ n2_ hb))
     clear x0 x1 x2 xf hx
     have HNE := ak_ (Kd.R_ne HV.out HX.out (by decide))
     go_wp2_with (first | (at_builtin; refine Kd.R_append k25 (w0 := w) w.heap.size rfl (.tmp 33) (.tmp 37) 27 25 (.agg #[(.int .u64 0), (.int .u64 0)]) 16 rfl underlying27 info25 rfl (by decide) (by omega) v out (⟨top, d⟩ : S25) [.int .u64 top, .int .u64 d] (fun _ => True) (fun _ => False) rfl rfl ?aP (fun _ hk => hk.elim) ?aF ?aO ?aB ?aS ?aL ?_; (case aP => exact k25_mkM _ _ _ (⟨top, d⟩ : S25)); (case aB => exact (bl_ HB)); (case aF => exact (fun _ _ => trivial)); (case aO => exact (rl_ HV)); (case aS => exact bz_ (bl_ HB)); (case aL => have := HL.out; omega); intro v1 w1 ho hb hg hat; have hx1 := cu_grown (kl_ HX) hg (by have := HNE.out; first | exact this | exact fun e => this e); obtain ⟨y0, y1, y2, yf⟩ := cu_cells hx1; have HX1 := ak_ hx1; have HV1 := ak_ ho; have HB1 := ak_ hb; clear ho hb hg hat hx1; obtain ⟨A1, cc1, e1_⟩ := Kd.R_slice HV1.out; have e2_ : v1 = .slice A1 (out.length + 1) cc1 := (by rw [e1_, List.length_append]; rfl); clear e1_; subst e2_))
     have n0_ := ak_ (cu_set HX1.out (.slice A1 (out.length + 1) cc1))
     have n1_ := ak_ (cu_R (u := .slice A1 (out.length + 1) cc1) HV1.out HX1.out (by decide))
     have n2_ := ak_ (HB1.out.setCell (p := ⟨w.heap.size, 2, none⟩) (Nat.le_refl w.heap.size) (.slice A1 (out.length + 1) cc1))
     clear HX HV HB HX1 HV1 HB1
     have HX := n0_
     have HV := n1_
     have HB := n2_
     clear n0_ n1_ n2_
     go_loopg [41] k (fun kq v41 w' => ∃ (t : Int) (o : List S25) (u : Value), v41 = .int .i64 t ∧ Aside0 (diff_cut.g kq a0 l d t o = some (out', r)) ∧ Aside0 (kq ≤ k) ∧ Aside0 (w'.heap[w.heap.size]? = some (.cells #[.int .i64 a0, .slice A l.length c, u] 57 (0, 0))) ∧ Aside0 (Kd.R k25 25 w' w.heap.size (fun _ => True) u o) ∧ Aside0 (Below w.heap.size w w'))
     case atStart => exact ⟨0, (out ++ [⟨top, d⟩]), .slice A1 (out.length + 1) cc1, rfl, H', ⟨Nat.le_refl _⟩, ⟨(kl_ HX)⟩, ⟨(rl_ HV)⟩, ⟨(bl_ HB)⟩⟩
     case round =>
      clear H' HX HV HB
      try clear y0 y1 y2 yf
      obtain ⟨t, o, u, rfl, HA, HK1, HX, HV, HB⟩ := hrel
      cases gk with
      | zero => exact absurd HA.out (by simp [diff_cut.g])
      | succ k2 =>
       have H := HA.out
       clear HA
       rw [diff_cut.g] at H
       obtain ⟨x0, x1, x2, xf⟩ := cu_cells HX.out
       by_cases c5 : t < 2
       ·rw [if_pos c5] at H
        have c5b0 := decide_eq_true c5
        clear c5
        obtain ⟨⟨n1, n2⟩, A110, H⟩ := bind_eq_some_iff.mp H
        dsimp only at H
        have A11 := ak_ A110
        clear A110
        by_cases c6 : n2 = 4
        ·rw [if_pos c6] at H
         subst c6
         simp only [some.injEq, Prod.mk.injEq] at H
         obtain ⟨rfl, rfl⟩ := H
         go_wp2_with (first | ((with_reducible refine gate_callee (f := 72) rfl ?_); refine goesL_ (some 51) rfl rfl func72 (by kernel_rfl) rfl #[.int .i64 a0, .int .u64 d, .int .i64 t] rfl (by (try simp only [map_toArray, map_cons, map_nil]); first | done | rfl) ?_; (with_reducible refine (node_Child.calls k2 a0 d t n1 4 _ A11.out).mono ?_); rintro e w' ⟨rfl, ⟨nd, rfl⟩⟩; refine ⟨_, rfl, ?_⟩))
         go_ret
         exact ⟨rfl, u, (kl_ HX), (rl_ HV), (bl_ HB)⟩
        ·rw [if_neg c6] at H
         have c6b0 : (n2 == 4) = false := beq_eq_false_iff_ne.mpr c6
         clear c6
         by_cases c7 : n2 = 0
         ·rw [if_pos c7] at H
          subst c7
          obtain ⟨⟨q1, q2⟩, A130, H⟩ := bind_eq_some_iff.mp H
          dsimp only at H
          have A13 := ak_ A130
          clear A130
          by_cases c8 : q2 = 0
          ·rw [if_pos c8] at H
           subst c8
           have H' := ak_ H
           clear H
           go_wp2_with (first | ((with_reducible refine gate_callee (f := 72) rfl ?_); refine goesL_ (some 51) rfl rfl func72 (by kernel_rfl) rfl #[.int .i64 a0, .int .u64 d, .int .i64 t] rfl (by (try simp only [map_toArray, map_cons, map_nil]); first | done | rfl) ?_; (with_reducible refine (node_Child.calls k2 a0 d t n1 0 _ A11.out).mono ?_); rintro e w' ⟨rfl, ⟨nd, rfl⟩⟩; refine ⟨_, rfl, ?_⟩) | ((with_reducible refine gate_callee (f := 40) rfl ?_); refine goesL_ (some 61) rfl rfl func40 (by kernel_rfl) rfl #[.pointer (some ⟨w.heap.size, 0, none⟩), .int .u64 n1] rfl (by (try simp only [map_toArray, map_cons, map_nil]); first | done | rfl) ?_; refine (IH.out k2 ?lt a0 A c l o n1 0 q1 w _ u HR.out HC.out ?sB ?sX ?sV A13.out).mono ?_; (case lt => have := HK1.out; omega); (case sB => exact (bl_ HB)); (case sX => exact (kl_ HX)); (case sV => exact (rl_ HV)); rintro e w9 ⟨rfl, v9, hx9, ho9, hb9⟩; refine ⟨_, rfl, ?_⟩; have n0_ := ak_ hx9; have n1_ := ak_ ho9; have n2_ := ak_ hb9; obtain ⟨z0, z1, z2, zf⟩ := cu_cells hx9; clear hx9 ho9 hb9; clear HX HV HB; have HX := n0_; have HV := n1_; have HB := n2_; clear n0_ n1_ n2_))
           go_roundg k2
           case measure => have := HK1.out; omega
           case rel => exact ⟨(wrap64 (t + 1)), q1, v9, (by first | rfl | (simp; done) | (simp [*]; done)), H', ⟨by have := HK1.out; omega⟩, ⟨(kl_ HX)⟩, ⟨(rl_ HV)⟩, ⟨(bl_ HB)⟩⟩
          ·rw [if_neg c8] at H
           have c8b0 : (q2 != 0) = true := bne_iff_ne.mpr c8
           clear c8
           simp only [some.injEq, Prod.mk.injEq] at H
           obtain ⟨rfl, rfl⟩ := H
           go_wp2_with (first | ((with_reducible refine gate_callee (f := 72) rfl ?_); refine goesL_ (some 51) rfl rfl func72 (by kernel_rfl) rfl #[.int .i64 a0, .int .u64 d, .int .i64 t] rfl (by (try simp only [map_toArray, map_cons, map_nil]); first | done | rfl) ?_; (with_reducible refine (node_Child.calls k2 a0 d t n1 0 _ A11.out).mono ?_); rintro e w' ⟨rfl, ⟨nd, rfl⟩⟩; refine ⟨_, rfl, ?_⟩) | ((with_reducible refine gate_callee (f := 40) rfl ?_); refine goesL_ (some 61) rfl rfl func40 (by kernel_rfl) rfl #[.pointer (some ⟨w.heap.size, 0, none⟩), .int .u64 n1] rfl (by (try simp only [map_toArray, map_cons, map_nil]); first | done | rfl) ?_; refine (IH.out k2 ?lt a0 A c l o n1 q2 q1 w _ u HR.out HC.out ?sB ?sX ?sV A13.out).mono ?_; (case lt => have := HK1.out; omega); (case sB => exact (bl_ HB)); (case sX => exact (kl_ HX)); (case sV => exact (rl_ HV)); rintro e w9 ⟨rfl, v9, hx9, ho9, hb9⟩; refine ⟨_, rfl, ?_⟩; have n0_ := ak_ hx9; have n1_ := ak_ ho9; have n2_ := ak_ hb9; obtain ⟨z0, z1, z2, zf⟩ := cu_cells hx9; clear hx9 ho9 hb9; clear HX HV HB; have HX := n0_; have HV := n1_; have HB := n2_; clear n0_ n1_ n2_))
           go_ret
           exact ⟨rfl, v9, (kl_ HX), (rl_ HV), (bl_ HB)⟩
         ·rw [if_neg c7] at H
          have c7b0 : (n2 != 0) = true := bne_iff_ne.mpr c7
          clear c7
          simp only [some.injEq, Prod.mk.injEq] at H
          obtain ⟨rfl, rfl⟩ := H
          go_wp2_with (first | ((with_reducible refine gate_callee (f := 72) rfl ?_); refine goesL_ (some 51) rfl rfl func72 (by kernel_rfl) rfl #[.int .i64 a0, .int .u64 d, .int .i64 t] rfl (by (try simp only [map_toArray, map_cons, map_nil]); first | done | rfl) ?_; (with_reducible refine (node_Child.calls k2 a0 d t n1 n2 _ A11.out).mono ?_); rintro e w' ⟨rfl, ⟨nd, rfl⟩⟩; refine ⟨_, rfl, ?_⟩))
          go_ret
          exact ⟨rfl, u, (kl_ HX), (rl_ HV), (bl_ HB)⟩
       ·rw [if_neg c5] at H
        have c5b0 := decide_eq_false c5
        clear c5
        simp only [some.injEq, Prod.mk.injEq] at H
        obtain ⟨rfl, rfl⟩ := H
        go_wp2
        go_ret
        exact ⟨rfl, u, (kl_ HX), (rl_ HV), (bl_ HB)⟩
    ·rw [if_neg c3] at H
     cases H
  ·rw [if_neg c1] at H
   have c1b0 : (e1 != 0) = true := bne_iff_ne.mpr c1
   clear c1
   simp only [some.injEq, Prod.mk.injEq] at H
   obtain ⟨rfl, rfl⟩ := H
   go_enter func40, ntmps40
   go_wp2
   go_region_held3 (fun w' => w'.cell? ⟨w.heap.size, 0, none⟩ = some (.int .i64 a0) ∧ w'.cell? ⟨w.heap.size, 1, none⟩ = some (.slice A l.length c)) (go_keep)
    (first | (go_at_call 71; refine (steiner_Down.calls k a0 A c l top d e1 _ ?side1 HC.out A3.out).mono ?_; (case side1 => repeat (first | exact Kd.C_below HR.out HB.out | (with_reducible refine Kd.C_drewN ?_ _) | (with_reducible refine Kd.C_drew ?_))); rintro e w5 ⟨rfl, hb⟩; have n0_ := ak_ (kb_ (by (with_reducible repeat (first | refine kn_ ?_ _ | refine kd_ ?_)); exact HX.out) hb); have n1_ := ak_ (Kd.R_below (by (with_reducible repeat (first | apply Kd.R_drewN | apply Kd.R_drew)); exact HV.out) hb); have n2_ := ak_ (bt_ (by repeat (first | (with_reducible first | exact HB.out | apply bn_ | apply bd_) | exact HB.out)) hb); obtain ⟨y0, y1, y2, yf⟩ := cu_cells n0_.out; clear HX HV HB; have HX := n0_; have HV := n1_; have HB := n2_; clear n0_ n1_ n2_ hb))
   go_wp2
   go_ret
   exact ⟨rfl, v, HX.out, HV.out, HB.out⟩
open Go.Shelf Go.Lib Go.Sort in
shelf_lay_g SlLaysF0.n6 Slsf 6 at Tryz 41 as Tryz.laySortFunc
def Grew (W w' : World) : Prop := ∃ q os, w' = Go.Sort.grow (W.drewN q) os
theorem Grew.refl (W : World) : Grew W W := ⟨0, #[], by simp [Go.Sort.grow, World.drewN]⟩
theorem Grew.drewN {W w' : World} (h : Grew W w') (n : Nat) : Grew W (w'.drewN n) := by
  obtain ⟨q, os, rfl⟩ := h
  exact ⟨q + n, os, by simp [Go.Sort.grow, World.drewN, Nat.add_assoc]⟩
theorem Grew.drew {W w' : World} (h : Grew W w') : Grew W w'.drew := by
  obtain ⟨q, os, rfl⟩ := h
  exact ⟨q + 1, os, by simp [Go.Sort.grow, World.drewN, World.drew, Nat.add_assoc]⟩
theorem Grew.alloc {W w' : World} (h : Grew W w') (o : Obj) : Grew W (w'.alloc o) := by
  obtain ⟨q, os, rfl⟩ := h
  refine ⟨q, os.push o, ?_⟩
  show ({ heap := (W.heap ++ os).push o, .. } : World) = _
  unfold Go.Sort.grow
  rw [Array.append_push]; rfl
theorem C_two (W : World) (a b : Int) : Kd.C (Kd.int .i64) (W.alloc (.cells #[.int .i64 a, .int .i64 b] 3)) (some ⟨W.heap.size, 0, none⟩) 2 [a, b] := by
  have h := World.ownsRow_lit (base := 0) (e := 3) (size := 1) W #[.int .i64 a, .int .i64 b] 2 (Nat.zero_le _) (by simp only [maxLen]; omega) rfl
  exact (Kd.R_reads' (Kd.R_of_own (enc := Value.int .i64) (h1 := fun _ => rfl) (xs := [a, b]) (ok := fun _ => True) h (fun _ _ => trivial))).2.2
theorem cu_al {W : World} {o : Obj} {a : Addr} {v : Value} (h : W.cell? a = some v) : (W.alloc o).cell? a = some v := by
  have hb : a.block < W.heap.size := World.block_lt_of_cell? _ _ h
  rw [World.cell?] at h ⊢
  have : (W.alloc o).heap[a.block]? = W.heap[a.block]? := by
   show (W.heap.push o)[a.block]? = _
   rw [Array.getElem?_push_lt hb, Array.getElem?_eq_getElem hb]
  rw [this]; exact h
def ordf (x y : S25) : Int := if x.f0 < y.f0 then -1 else if x.f0 > y.f0 then 1 else if x.f1 < y.f1 then -1 else if x.f1 > y.f1 then 1 else 0
theorem cmp_eq (a b : Int) : cmp_Compare_uint64.f a b = some (if a < b then -1 else if a > b then 1 else 0) := by
  unfold cmp_Compare_uint64.f cmp_isNaN_uint64.f
  simp
  split
  ·rfl
  ·split <;> rfl
theorem or_eq (a b : Int) : cmp_Or_int.f 10 [a, b] = some (if a = 0 then b else a) := by
  unfold cmp_Or_int.f
  have r0 : rd [a, b] 0 = a := rfl
  have r1 : rd [a, b] 1 = b := rfl
  have w1 : wrap64 (0 + 1) = 1 := by unfold wrap64; omega
  have w2 : wrap64 (1 + 1) = 2 := by unfold wrap64; omega
  rw [cmp_Or_int.l0, if_pos (by simp), if_pos (by omega), if_pos (by simp), r0, w1]
  by_cases c : a = 0
  ·rw [if_pos c, if_pos c, cmp_Or_int.l0, if_pos (by simp), if_pos (by omega), if_pos (by simp), r1, w2]
   by_cases d : b = 0
   ·rw [if_pos d, cmp_Or_int.l0, if_neg (by simp), d]
   ·rw [if_neg d]
  ·rw [if_neg c, if_neg c]
set_option maxHeartbeats 8000000 in
set_option maxRecDepth 100000 in
theorem diff_order.grew (x y : S25) (W : World) : Calls Tryz.prog 42 #[.agg #[.int .u64 x.f0, .int .u64 x.f1], .agg #[.int .u64 y.f0, .int .u64 y.f1]] W fun e w' => e = .returned (.int .i64 (ordf x y)) ∧ Grew W w' := by
  have hu34 := underlying25
  obtain ⟨c0, h0⟩ : ∃ c, c = (if x.f0 < y.f0 then -1 else if x.f0 > y.f0 then 1 else (0 : Int)) := ⟨_, rfl⟩
  obtain ⟨c1, h1⟩ : ∃ c, c = (if x.f1 < y.f1 then -1 else if x.f1 > y.f1 then 1 else (0 : Int)) := ⟨_, rfl⟩
  have e : ordf x y = if c0 = 0 then c1 else c0 := by
   subst h0 h1
   unfold ordf
   by_cases a : x.f0 < y.f0
   ·simp [a]
   ·by_cases b : x.f0 > y.f0
    ·simp [a, b]
    ·simp [a, b]
  have A1 := ak_ (show cmp_Compare_uint64.f x.f0 y.f0 = some c0 by rw [cmp_eq, h0])
  have A2 := ak_ (show cmp_Compare_uint64.f x.f1 y.f1 = some c1 by rw [cmp_eq, h1])
  have A3 := ak_ (show cmp_Or_int.f 10 [c0, c1] = some (ordf x y) by rw [or_eq, e])
  clear h0 h1 e
  generalize ordf x y = r at A3 ⊢
  obtain ⟨W2, hW2⟩ : ∃ W2, W2 = (W.alloc (.cells #[.int .u64 x.f0, .int .u64 x.f1] 25)).alloc (.cells #[.int .u64 y.f0, .int .u64 y.f1] 25) := ⟨_, rfl⟩
  have HG := ak_ (show Grew W W2 by rw [hW2]; exact ((Grew.refl W).alloc _).alloc _)
  have b1 : W2.heap[W.heap.size]? = some (.cells #[.int .u64 x.f0, .int .u64 x.f1] 25 (0, 0)) := by
   rw [hW2]; exact kb_ (blk_new W _) (ba_ (Below.refl _ _) _)
  have b2 : W2.heap[W.heap.size + 1]? = some (.cells #[.int .u64 y.f0, .int .u64 y.f1] 25 (0, 0)) := by
   have h : (W.alloc (.cells #[.int .u64 x.f0, .int .u64 x.f1] 25)).heap.size = W.heap.size + 1 := Array.size_push ..
   rw [hW2, ← h]; exact blk_new _ _
  have y0 : W2.cell? ⟨W.heap.size, 0, none⟩ = some (.int .u64 x.f0) := by simp [World.cell?, b1]
  have y1 : W2.cell? ⟨W.heap.size, 1, none⟩ = some (.int .u64 x.f1) := by simp [World.cell?, b1]
  have y2 : W2.cell? ⟨W.heap.size + 1, 0, none⟩ = some (.int .u64 y.f0) := by simp [World.cell?, b2]
  have y3 : W2.cell? ⟨W.heap.size + 1, 1, none⟩ = some (.int .u64 y.f1) := by simp [World.cell?, b2]
  have OR : ∀ W', Kd.C (Kd.int .i64) W' (some ⟨W2.heap.size, 0, none⟩) 2 [c0, c1] → Calls Tryz.prog 48 #[.slice (some ⟨W2.heap.size, 0, none⟩) 2 2] W' fun e w' => e = .returned (.int .i64 r) ∧ Drawn0 W' w' := fun W' h => cmp_Or_int.calls 10 _ 2 [c0, c1] r W' h (by simp) A3.out
  go_enter func42, ntmps42
  go_wp2
  rw [← hW2]
  clear hW2 b1 b2
  go_region_held3 (fun w' => w'.cell? ⟨W.heap.size, 0, none⟩ = some (.int .u64 x.f0) ∧ w'.cell? ⟨W.heap.size, 1, none⟩ = some (.int .u64 x.f1) ∧ w'.cell? ⟨W.heap.size + 1, 0, none⟩ = some (.int .u64 y.f0) ∧ w'.cell? ⟨W.heap.size + 1, 1, none⟩ = some (.int .u64 y.f1)) (first | exact ⟨y0, y1, y2, y3⟩ | exact ⟨cu_al y0, cu_al y1, cu_al y2, cu_al y3⟩)
   (first | (go_at_call 49; with_reducible refine (cmp_Compare_uint64.calls x.f0 y.f0 c0 _ A1.out).mono ?_; rintro e w' ⟨rfl, ⟨nd, rfl⟩⟩) | (go_at_call 49; with_reducible refine (cmp_Compare_uint64.calls x.f1 y.f1 c1 _ A2.out).mono ?_; rintro e w' ⟨rfl, ⟨nd2, rfl⟩⟩) | (go_at_call 48; with_reducible refine (OR _ ?s1).mono ?_; (case s1 => have h_ := C_two (W2.drewN (1 + nd + nd2)) c0 c1; rw [show (W2.drewN (1 + nd + nd2)).heap.size = W2.heap.size from by simp [World.drewN]] at h_; exact h_); rintro e w' ⟨rfl, ⟨nd3, rfl⟩⟩))
  all_goals
   go_wp2
   go_ret
   exact ⟨rfl, by repeat (first | exact HG.out | apply Grew.alloc | apply Grew.drewN | apply Grew.drew)⟩
section
open Go.Sort Go.Lib Go.Shelf
instance instInhS : Inhabited S25 := ⟨⟨0, 0⟩⟩
def encS (x : S25) : List Value := [.int .u64 x.f0, .int .u64 x.f1]
def leS (x y : S25) : Bool := !(ltOf ordf) y x
def sortS (xs : List S25) : List S25 := xs.mergeSort leS
theorem ltS_eq (x y : S25) : ltOf ordf x y = decide (x.f0 < y.f0 ∨ (x.f0 = y.f0 ∧ x.f1 < y.f1)) := by
  unfold ltOf ordf
  by_cases a : x.f0 < y.f0
  ·simp [a]
  ·by_cases b : x.f0 > y.f0
   ·have : ¬ (x.f0 = y.f0) := by omega
    simp [a, b, this]
   ·have e : x.f0 = y.f0 := by omega
    by_cases c : x.f1 < y.f1
    ·simp [a, b, c, e]
    ·by_cases d : x.f1 > y.f1
     ·simp [a, b, c, d, e]
     ·simp [a, b, c, d, e]
theorem swoS : SWO (ltOf ordf) where
  irrefl x := by rw [ltS_eq]; simp
  trans x y z h1 h2 := by rw [ltS_eq] at *; simp at *; omega
  ntrans x y z h1 h2 := by rw [ltS_eq] at *; simp at *; omega
theorem totS (x y : S25) (h1 : ltOf ordf x y = false) (h2 : ltOf ordf y x = false) : x = y := by
  rw [ltS_eq] at h1 h2
  obtain ⟨a, b⟩ := x
  obtain ⟨c, d⟩ := y
  simp at *
  omega
theorem reps_flat (w : World) (base : Nat) (ok : Nat → Prop) (xs : List S25) : Reps (k25.M w base ok) 2 xs (flatK encS 2 xs.toArray).toList := by
  refine ⟨by simp, fun j p hj => ?_⟩
  have hl : j < xs.length := (List.getElem?_eq_some_iff.1 hj).1
  have hp : xs[j]! = p := by rw [getElem!_pos _ j hl]; exact (List.getElem?_eq_some_iff.1 hj).2
  have e : ((flatK encS 2 xs.toArray).toList.drop (j * 2)).take 2 = [.int .u64 p.f0, .int .u64 p.f1] := by
   have g : ∀ c, c < 2 → (flatK encS 2 xs.toArray)[j * 2 + c]! = (encS p)[c]! := fun c hc => by
    rw [get_flatK _ _ _ _ (by simp; omega)]
    have h1 : (j * 2 + c) / 2 = j := by omega
    have h2 : (j * 2 + c) % 2 = c := by omega
    rw [h1, h2]
    have : xs.toArray[j]! = p := by rw [← hp]; simp
    rw [this]
   have hs : (flatK encS 2 xs.toArray).size = xs.length * 2 := by simp
   apply List.ext_getElem
   ·simp; omega
   ·intro i hi1 hi2
    have hi : i < 2 := by simpa using hi2
    have := g i hi
    rw [getElem!_pos _ _ (by omega)] at this
    simp only [List.getElem_take, List.getElem_drop, Array.getElem_toList, this]
    match i, hi with
    | 0, _ => rfl
    | 1, _ => rfl
  rw [e]
  exact k25_mkM w base ok p
theorem reps_unique {w : World} {base : Nat} {ok : Nat → Prop} {xs : List S25} {a b : List Value} (ha : Reps (k25.M w base ok) 2 xs a) (hb : Reps (k25.M w base ok) 2 xs b) : a = b := by
  apply List.ext_getElem
  ·rw [ha.1, hb.1]
  ·intro i hi1 hi2
   have hl : i / 2 < xs.length := by have := ha.1; omega
   have h1 := k25_openM (ha.2 (i / 2) _ (List.getElem?_eq_getElem hl))
   have h2 := k25_openM (hb.2 (i / 2) _ (List.getElem?_eq_getElem hl))
   have h3 : ((a.drop (i / 2 * 2)).take 2)[i % 2]? = ((b.drop (i / 2 * 2)).take 2)[i % 2]? := by rw [h1, h2]
   have h4 : i % 2 < 2 := by omega
   have h5 : i / 2 * 2 + i % 2 = i := by omega
   rw [List.getElem?_take_of_lt h4, List.getElem?_take_of_lt h4, List.getElem?_drop, List.getElem?_drop, h5, List.getElem?_eq_getElem hi1, List.getElem?_eq_getElem hi2] at h3
   exact Option.some.inj h3
set_option maxHeartbeats 4000000 in
theorem sort_any (cf : Nat) (eg : ∀ args w, (callFunc cf args).run Tryz.prog w = .ok (.enter cf args) w) (hcf : ∀ (x y : S25) (W : World), Calls Tryz.prog cf #[.agg #[.int .u64 x.f0, .int .u64 x.f1], .agg #[.int .u64 y.f0, .int .u64 y.f1]] W fun e w' => e = .returned (.int .i64 (ordf x y)) ∧ Grew W w') (xs : List S25) (w0 W : World) (base : Nat) (v : Value) (hB : Below w0.heap.size w0 W) (hb0 : w0.heap.size ≤ base) (h : Kd.R k25 25 W base (fun _ => True) v xs) (hl : xs.length < 4611686018427387904) :
   Calls Tryz.prog 41 #[v, .func (.func cf) #[] #[]] W fun e W' => e = .returned (.tuple #[]) ∧ Kd.R k25 25 W' base (fun _ => True) v (sortS xs) ∧ Below w0.heap.size w0 W' ∧ (∀ k, k < W.heap.size → some k ≠ v.ownBlock → W'.heap[k]? = W.heap[k]?) := by
  obtain ⟨h0, inner, ⟨h1, h2⟩, hr⟩ := h
  rcases h2 with ⟨rfl, h2⟩ | ⟨g, cap, cur, rfl, hb, hh, hn, hc, hs, ht⟩
  ·obtain rfl : xs = [] := List.length_eq_zero_iff.1 h2
   refine (show Calls Tryz.prog 41 _ W _ from AnyF.slices_SortFunc_none Tryz.laySortFunc none 0 _ W).mono ?_
   rintro e w' ⟨rfl, rfl⟩
   exact ⟨rfl, by rw [show sortS [] = [] from by unfold sortS; exact List.mergeSort_nil]; exact Kd.R_nil _ _ _ _ _, hB, fun _ _ _ => rfl⟩
  ·have hin : inner = (flatK encS 2 xs.toArray).toList := reps_unique hr (reps_flat _ _ _ xs)
   have hsz2 : (flatK encS 2 xs.toArray).size = xs.length * 2 := by simp
   have hsz : k25.sz = 2 := rfl
   rw [hsz] at hs ht
   have hH : HoldsK encS 2 W g 0 xs.toArray := by
    intro j hj
    have hj' : j < xs.length * 2 := by rw [← hsz2]; exact hj
    have hjc : j < cur.size := by have := Nat.mul_le_mul_right 2 hn; omega
    have e1 : cur[j]? = some (flatK encS 2 xs.toArray)[j]! := by
     have e2 : (cur.toList.take (xs.length * 2))[j]? = (flatK encS 2 xs.toArray).toList[j]? := by rw [ht, hin]
     rw [List.getElem?_take_of_lt hj', Array.getElem?_toList, Array.getElem?_toList, Array.getElem?_eq_getElem hj] at e2
     rw [e2, getElem!_pos _ j hj]
    refine ⟨?_, ?_⟩
    ·simp only [World.cell?, hh, Nat.zero_add]
     first | exact e1 | (simp [e1]; done) | (rw [e1]; rfl)
    ·simp [World.frozen?, hh]
   have hblk : g < W.heap.size := by
    rcases Nat.lt_or_ge g W.heap.size with h | h
    ·exact h
    ·rw [Array.getElem?_eq_none h] at hh; cases hh
   have hcon := AnyQ.slices_SortFunc_total Tryz.laySortFunc 2 (by first | exact Tryz.isAgg25 | (intro w; rfl)) (by first | exact Tryz.sizeOf25 | (intro w; rfl)) encS (fun _ => rfl) (fun x v hv => by simp [encS] at hv; rcases hv with rfl | rfl <;> rfl) ordf swoS cf #[] g 0 cap xs.toArray W eg (fun m os dk _ x y => hcf x y _) hH hblk (by simpa using hl) totS
   have e3 : (xs.toArray.toList.mergeSort fun x y => !(ltOf ordf) y x).toArray = (sortS xs).toArray := rfl
   rw [e3, show xs.toArray.size = xs.length from by simp] at hcon
   refine (show Calls Tryz.prog 41 _ W _ from hcon).mono ?_
   have hls : (sortS xs).length = xs.length := List.length_mergeSort ..
   generalize sortS xs = ys at hls
   rintro e w' ⟨rfl, n, os, rfl⟩
   have hsz3 : (flatK encS 2 ys.toArray).size = xs.length * 2 := by simp [hls]
   have hcell : (sortWorldK encS 2 W g 0 n ys.toArray os).heap[g]? = some (.cells (putCells id 0 (flatK encS 2 ys.toArray) cur) 25 (0, 0)) := by
    simp only [sortWorldK, putRowK, putRow, grow, mapBlock, Go.Sort.ahead]
    rw [Array.getElem?_append_left (by simpa using hblk), Array.getElem?_modify, hh]
    simp [onCells]
   have hother : ∀ k, k < W.heap.size → k ≠ g → (sortWorldK encS 2 W g 0 n ys.toArray os).heap[k]? = W.heap[k]? := by
    intro k hk hne
    simp only [sortWorldK, putRowK, putRow, grow, mapBlock, Go.Sort.ahead]
    rw [Array.getElem?_append_left (by simpa using hk), Array.getElem?_modify, if_neg (fun e => hne e.symm)]
   have htk : (putCells id 0 (flatK encS 2 ys.toArray) cur).toList.take (ys.length * 2) = (flatK encS 2 ys.toArray).toList := by
    have := Nat.mul_le_mul_right 2 hn
    apply List.ext_getElem
    ·simp [putCells, hls]; omega
    ·intro i hi1 hi2
     have hi : i < ys.length * 2 := by simpa using hi2
     have hi3 : i < (flatK encS 2 ys.toArray).size := by simpa using hi
     simp [putCells, hi]
   have hrep := reps_flat (sortWorldK encS 2 W g 0 n ys.toArray os) base (fun k => True ∧ some k ≠ (Value.slice (some ⟨g, 0, none⟩) xs.length cap).ownBlock) ys
   refine ⟨rfl, ⟨fun _ _ => trivial, _, ⟨by rw [hrep.1]; rfl, .inr ⟨g, cap, _, by rw [hls], hb, hcell, by omega, hc, ?_, ?_⟩⟩, hrep⟩, ?_, ?_⟩
   ·rw [hsz]; simpa [putCells] using hs
   ·rw [hsz]; exact htk
   ·refine ⟨(show (sortWorldK encS 2 W g 0 n ys.toArray os).os = W.os from rfl).trans hB.os, (show (sortWorldK encS 2 W g 0 n ys.toArray os).tape = W.tape from rfl).trans hB.tape, (show (sortWorldK encS 2 W g 0 n ys.toArray os).output = W.output from rfl).trans hB.output, ?_, ?_⟩
    ·have h1 := hB.size
     have h2 : W.heap.size ≤ (sortWorldK encS 2 W g 0 n ys.toArray os).heap.size := by simp [sortWorldK, putRowK, putRow, grow, mapBlock, Go.Sort.ahead]
     omega
    ·intro k hk
     have h1 := hB.size
     exact (hother k (by omega) (by omega)).trans (hB.block k hk)
   ·intro k hk hne
    exact hother k hk (fun e => hne (by simp [Value.ownBlock, e]))
end
theorem eg46 : ∀ args w, (callFunc 42 args).run Tryz.prog w = .ok (.enter 42 args) w := enters_of func42 (by kernel_rfl) rfl
def diff_Cover.f (k : Nat) (a0 : Int) (l1 : List Int) : Option (List S25 × Int) := (steiner_Is.f k a0 l1 1).bind fun s => if s.2 = 0 then (if s.1 = true then ((diff_cut.f k a0 l1 1 []).bind fun r => if r.2 = 0 then (if r.1.length < 4611686018427387904 then some (sortS r.1, 0) else none) else some ([], r.2)) else some ([⟨1, 0⟩], 0)) else some ([], s.2)
theorem diff_cut.box (k : Nat) (a0 : Int) (A : Option Addr) (c : Nat) (l : List Int) (o : List S25) (r : Int) (W0 W : World) (g : Nat) (hg : g = W0.heap.size) (hr : Kd.C (Kd.int .u64) W0 A l.length l) (hc : l.length ≤ c) (hx : W.heap[g]? = some (.cells #[.int .i64 a0, .slice A l.length c, .slice none 0 0] 57 (0, 0))) (hB : Below W0.heap.size W0 W) (h : diff_cut.f k a0 l 1 [] = some (o, r)) :
   Calls Tryz.prog 40 #[.pointer (some ⟨g, 0, none⟩), .int .u64 1] W fun e W' => e = .returned (.int .i64 r) ∧ ∃ (A' : Option Addr) (c' : Nat), W'.heap[g]? = some (.cells #[.int .i64 a0, .slice A l.length c, .slice A' o.length c'] 57 (0, 0)) ∧ Kd.R k25 25 W' g (fun _ => True) (.slice A' o.length c') o ∧ Below W0.heap.size W0 W' := by
  subst hg
  refine (diff_cut.calls k a0 A c l [] 1 r o W0 W (.slice none 0 0) hr hc hB hx (Kd.R_nil _ _ _ _ _) h).mono ?_
  rintro e w' ⟨rfl, v', hx', hv', hb'⟩
  obtain ⟨A', c', rfl⟩ := Kd.R_slice hv'
  exact ⟨rfl, A', c', hx', hv', hb'⟩
theorem sort_box (xs : List S25) (W0 W : World) (g : Nat) (A : Option Addr) (c n : Nat) (a0 : Int) (A1 : Option Addr) (c1 : Nat) (hg : g = W0.heap.size) (hB : Below W0.heap.size W0 W) (h : Kd.R k25 25 W g (fun _ => True) (.slice A xs.length c) xs) (hl : xs.length < 4611686018427387904) (hx : W.heap[g]? = some (.cells #[.int .i64 a0, .slice A1 n c1, .slice A xs.length c] 57 (0, 0))) :
   Calls Tryz.prog 41 #[.slice A xs.length c, .func (.func 42) #[] #[]] W fun e W' => e = .returned (.tuple #[]) ∧ W'.heap[g]? = some (.cells #[.int .i64 a0, .slice A1 n c1, .slice A xs.length c] 57 (0, 0)) ∧ Kd.R k25 25 W' g (fun _ => True) (.slice A xs.length c) (sortS xs) ∧ Below W0.heap.size W0 W' := by
  refine (sort_any 42 eg46 diff_order.grew xs W0 W g _ hB (by omega) h hl).mono ?_
  rintro e w' ⟨rfl, h1, h2, h3⟩
  exact ⟨rfl, (h3 g (blk_lt hx) (Kd.R_ne h hx (by decide))).trans hx, h1, h2⟩
set_option maxHeartbeats 8000000 in
set_option maxRecDepth 100000 in
theorem diff_Cover.calls (k : Nat) (a0 : Int) (A1 : Option Addr) (c1 : Nat) (l1 : List Int) (r1 : List S25) (r2 : Int) (w : World) (hr1 : Kd.C (Kd.int .u64) w A1 l1.length l1) (hc1 : l1.length ≤ c1) (h : diff_Cover.f k a0 l1 = some (r1, r2)) :
   Calls Tryz.prog 16 #[.int .i64 a0, .slice A1 l1.length c1] w fun e w' => ∃ v0_ : Value, e = .returned (.tuple #[v0_, .int .i64 r2]) ∧ Kd.R k25 25 w' w.heap.size (fun _ => True) v0_ r1 ∧ Below w.heap.size w w' := by
  have HR1 := ak_ hr1
  have HC1 := ak_ hc1
  clear hr1 hc1
  have HB := ak_ (Below.refl w.heap.size w)
  have hu85 := underlying57
  unfold diff_Cover.f at h
  obtain ⟨⟨s, e1⟩, A0, H⟩ := bind_eq_some_iff.mp h
  dsimp only at H
  have AI := ak_ A0
  clear h A0
  by_cases d1 : e1 = 0
  ·rw [if_pos d1] at H
   subst d1
   by_cases d2 : s = true
   ·rw [if_pos d2] at H
    subst d2
    obtain ⟨⟨o, e2⟩, A2, H⟩ := bind_eq_some_iff.mp H
    dsimp only at H
    have AC := ak_ A2
    clear A2
    by_cases d3 : e2 = 0
    ·rw [if_pos d3] at H
     subst d3
     by_cases d4 : o.length < 4611686018427387904
     ·rw [if_pos d4] at H
      simp only [some.injEq, Prod.mk.injEq] at H
      obtain ⟨rfl, rfl⟩ := H
      have HL := ak_ d4
      clear d4
      go_enter func16, ntmps16
      go_wp2_with (first
       | ((with_reducible refine gate_callee (f := 39) rfl ?_); refine goesL_ (some 13) rfl rfl func39 (by kernel_rfl) rfl #[.int .i64 a0, .slice A1 l1.length c1, .int .u64 1] rfl (by (try simp only [map_toArray, map_cons, map_nil]); first | done | rfl) ?_; refine (steiner_Is.calls k a0 A1 c1 l1 1 true 0 _ ?sa HC1.out AI.out).mono ?_; (case sa => repeat (first | exact HR1.out | (with_reducible refine Kd.C_drewN ?_ _) | (with_reducible refine Kd.C_drew ?_))); rintro e w5 ⟨rfl, hb⟩; refine ⟨_, rfl, ?_⟩; have n2_ := ak_ (bt_ (by repeat (first | (with_reducible first | exact HB.out | apply bn_ | apply bd_) | exact HB.out)) hb); clear HB; have HB := n2_; clear n2_ hb)
       | ((with_reducible refine gate_dst (N := 28) rfl ?_); refine box_event ?hg (N := 28) ?hd (cs := #[.int .i64 a0, .slice A1 l1.length c1, .slice none 0 0]) (t := 57) ?hr ?_; (case hd => rfl); (case hg => rfl); (case hr => first | (go_simp; done) | (go_simp; rfl)); intro gb hg w6 hbox hb; have n0_ : ∃ W0 : World, gb = W0.heap.size ∧ Below w.heap.size w W0 ∧ Kd.C (Kd.int .u64) W0 A1 l1.length l1 ∧ Below W0.heap.size W0 w6 := ⟨_, hg, (by repeat (first | (with_reducible first | exact HB.out | apply bn_ | apply bd_) | exact HB.out)), Kd.C_below HR1.out (by repeat (first | (with_reducible first | exact HB.out | apply bn_ | apply bd_) | exact HB.out)), hb⟩; obtain ⟨W0, hg0, hB0, hR0, hBW⟩ := n0_; have HG := ak_ hg0; have HB0 := ak_ hB0; have HR0 := ak_ hR0; have HX := ak_ hbox; clear HB; have HB := ak_ hBW; clear hg0 hB0 hR0 hBW hbox hb hg)
       | ((with_reducible refine gate_callee (f := 40) rfl ?_); refine goesL_ (some 30) rfl rfl func40 (by kernel_rfl) rfl #[.pointer (some ⟨gb, 0, none⟩), .int .u64 1] rfl (by (try simp only [map_toArray, map_cons, map_nil]); first | done | rfl) ?_; refine (diff_cut.box k a0 A1 c1 l1 o 0 W0 _ gb HG.out HR0.out HC1.out ?sX ?sB AC.out).mono ?_; (case sB => exact (bl_ HB)); (case sX => exact (kl_ HX)); rintro e w9 ⟨rfl, A9, c9, hx9, ho9, hb9⟩; refine ⟨_, rfl, ?_⟩; obtain ⟨z0, z1, z2, zf⟩ := cu_cells hx9; clear HX HB; have HX := ak_ hx9; have HV := ak_ ho9; have HB := ak_ hb9; clear hx9 ho9 hb9)
       | ((with_reducible refine gate_callee (f := 41) rfl ?_); refine goesL_ (some 38) rfl rfl func41 (by kernel_rfl) rfl #[.slice A9 o.length c9, .func (.func 42) #[] #[]] rfl (by (try simp only [map_toArray, map_cons, map_nil]); first | done | rfl) ?_; refine (sort_box o W0 _ gb A9 c9 l1.length a0 A1 c1 HG.out ?sB ?sV HL.out ?sX).mono ?_; (case sB => exact (bl_ HB)); (case sX => exact (kl_ HX)); (case sV => exact (rl_ HV)); rintro e w10 ⟨rfl, hx9, ho9, hb9⟩; refine ⟨_, rfl, ?_⟩; clear z0 z1 z2 zf; obtain ⟨y0, y1, y2, yf⟩ := cu_cells hx9; clear HX HB HV; have HX := ak_ hx9; have HV := ak_ ho9; have HB := ak_ hb9; clear hx9 ho9 hb9))
      go_ret2
      exact ⟨_, rfl, Kd.R_lower (rl_ HV) (by rw [HG.out]; exact HB0.out.size), bt_ HB0.out (bl_ HB)⟩
     ·rw [if_neg d4] at H
      cases H
    ·rw [if_neg d3] at H
     simp only [some.injEq, Prod.mk.injEq] at H
     obtain ⟨rfl, rfl⟩ := H
     have d3b0 : (e2 != 0) = true := bne_iff_ne.mpr d3
     clear d3
     go_enter func16, ntmps16
     go_wp2_with (first
       | ((with_reducible refine gate_callee (f := 39) rfl ?_); refine goesL_ (some 13) rfl rfl func39 (by kernel_rfl) rfl #[.int .i64 a0, .slice A1 l1.length c1, .int .u64 1] rfl (by (try simp only [map_toArray, map_cons, map_nil]); first | done | rfl) ?_; refine (steiner_Is.calls k a0 A1 c1 l1 1 true 0 _ ?sa HC1.out AI.out).mono ?_; (case sa => repeat (first | exact HR1.out | (with_reducible refine Kd.C_drewN ?_ _) | (with_reducible refine Kd.C_drew ?_))); rintro e w5 ⟨rfl, hb⟩; refine ⟨_, rfl, ?_⟩; have n2_ := ak_ (bt_ (by repeat (first | (with_reducible first | exact HB.out | apply bn_ | apply bd_) | exact HB.out)) hb); clear HB; have HB := n2_; clear n2_ hb)
       | ((with_reducible refine gate_dst (N := 28) rfl ?_); refine box_event ?hg (N := 28) ?hd (cs := #[.int .i64 a0, .slice A1 l1.length c1, .slice none 0 0]) (t := 57) ?hr ?_; (case hd => rfl); (case hg => rfl); (case hr => first | (go_simp; done) | (go_simp; rfl)); intro gb hg w6 hbox hb; have n0_ : ∃ W0 : World, gb = W0.heap.size ∧ Below w.heap.size w W0 ∧ Kd.C (Kd.int .u64) W0 A1 l1.length l1 ∧ Below W0.heap.size W0 w6 := ⟨_, hg, (by repeat (first | (with_reducible first | exact HB.out | apply bn_ | apply bd_) | exact HB.out)), Kd.C_below HR1.out (by repeat (first | (with_reducible first | exact HB.out | apply bn_ | apply bd_) | exact HB.out)), hb⟩; obtain ⟨W0, hg0, hB0, hR0, hBW⟩ := n0_; have HG := ak_ hg0; have HB0 := ak_ hB0; have HR0 := ak_ hR0; have HX := ak_ hbox; clear HB; have HB := ak_ hBW; clear hg0 hB0 hR0 hBW hbox hb hg)
       | ((with_reducible refine gate_callee (f := 40) rfl ?_); refine goesL_ (some 30) rfl rfl func40 (by kernel_rfl) rfl #[.pointer (some ⟨gb, 0, none⟩), .int .u64 1] rfl (by (try simp only [map_toArray, map_cons, map_nil]); first | done | rfl) ?_; refine (diff_cut.box k a0 A1 c1 l1 o e2 W0 _ gb HG.out HR0.out HC1.out ?sX ?sB AC.out).mono ?_; (case sB => exact (bl_ HB)); (case sX => exact (kl_ HX)); rintro e w9 ⟨rfl, A9, c9, hx9, ho9, hb9⟩; refine ⟨_, rfl, ?_⟩; clear HX HB; have HB := ak_ hb9; clear hx9 ho9 hb9))
     go_ret2
     exact ⟨_, rfl, Kd.R_nil _ _ _ _ _, bt_ HB0.out (bl_ HB)⟩
   ·rw [if_neg d2] at H
    obtain rfl : s = false := by simpa using d2
    clear d2
    simp only [some.injEq, Prod.mk.injEq] at H
    obtain ⟨rfl, rfl⟩ := H
    go_enter func16, ntmps16
    go_wp2_with (first
       | ((with_reducible refine gate_callee (f := 39) rfl ?_); refine goesL_ (some 13) rfl rfl func39 (by kernel_rfl) rfl #[.int .i64 a0, .slice A1 l1.length c1, .int .u64 1] rfl (by (try simp only [map_toArray, map_cons, map_nil]); first | done | rfl) ?_; refine (steiner_Is.calls k a0 A1 c1 l1 1 false 0 _ ?sa HC1.out AI.out).mono ?_; (case sa => repeat (first | exact HR1.out | (with_reducible refine Kd.C_drewN ?_ _) | (with_reducible refine Kd.C_drew ?_))); rintro e w5 ⟨rfl, hb⟩; refine ⟨_, rfl, ?_⟩; have n2_ := ak_ (bt_ (by repeat (first | (with_reducible first | exact HB.out | apply bn_ | apply bd_) | exact HB.out)) hb); clear HB; have HB := n2_; clear n2_ hb)
       | ((with_reducible refine gate_dst (N := 24) rfl ?_); refine Kd.R_lit k25 _ 25 ?hg (N := 24) ?hd (xs := ([(⟨1, 0⟩ : S25)] : List (S25))) (inner := [.int .u64 1, .int .u64 0]) (ok := fun _ => True) (okp := fun _ => True) ?hr ?hp (fun _ hk => hk) trivial (Below.refl _ _) (Nat.le_refl _) (by simp) ?_; (case hd => rfl); (case hg => rfl); (case hr => first | (go_simp; done) | (go_simp; rfl)); (case hp => exact (Reps.c2 (show Kd.M k25 _ _ _ (⟨1, 0⟩ : S25) [.int .u64 1, .int .u64 0] from (k25_mkM _ _ _ (⟨1, 0⟩ : S25) )) (Reps.none _ _))); intro v7 w7 ho hb hg_ hnew_; clear hg_ hnew_; have n0_ := ak_ (Kd.R_lower ho (bz_ (bl_ HB))); have n2_ := ak_ (bt_ (bl_ HB) hb); clear HB; have HB := n2_; have HV := n0_; clear n0_ n2_ ho hb))
    go_ret2
    exact ⟨_, rfl, (rl_ HV), (bl_ HB)⟩
  ·rw [if_neg d1] at H
   simp only [some.injEq, Prod.mk.injEq] at H
   obtain ⟨rfl, rfl⟩ := H
   have d1b0 : (e1 != 0) = true := bne_iff_ne.mpr d1
   clear d1
   go_enter func16, ntmps16
   go_wp2_with (first
       | ((with_reducible refine gate_callee (f := 39) rfl ?_); refine goesL_ (some 13) rfl rfl func39 (by kernel_rfl) rfl #[.int .i64 a0, .slice A1 l1.length c1, .int .u64 1] rfl (by (try simp only [map_toArray, map_cons, map_nil]); first | done | rfl) ?_; refine (steiner_Is.calls k a0 A1 c1 l1 1 s e1 _ ?sa HC1.out AI.out).mono ?_; (case sa => repeat (first | exact HR1.out | (with_reducible refine Kd.C_drewN ?_ _) | (with_reducible refine Kd.C_drew ?_))); rintro e w5 ⟨rfl, hb⟩; refine ⟨_, rfl, ?_⟩; have n2_ := ak_ (bt_ (by repeat (first | (with_reducible first | exact HB.out | apply bn_ | apply bd_) | exact HB.out)) hb); clear HB; have HB := n2_; clear n2_ hb))
   go_ret2
   exact ⟨_, rfl, Kd.R_nil _ _ _ _ _, (bl_ HB)⟩
def node_above.f (k : Nat) (a0 : Int) (a1 : Int) : Option (Bool) := (node_depth.f k a0).bind fun t233 => ((node_depth.f k a1).bind fun t234 => (if t233 ≤ t234 then ((node_depth.f k a1).bind fun t235 => ((node_depth.f k a0).bind fun t236 => (if 0 ≤ (wrap64 (t235 - t236)) then (some ((shr .u64 a1 (wrap64 (t235 - t236))) == a0)) else (none)))) else (some false)))
set_option maxHeartbeats 8000000 in
set_option maxRecDepth 100000 in
theorem node_above.calls (k : Nat) (a0 : Int) (a1 : Int) (r : Bool) (w : World) (h : node_above.f k a0 a1 = some r) :
   Calls Tryz.prog 86 #[.int .u64 a0, .int .u64 a1] w fun e w' => e = .returned (.bool r) ∧ Drawn0 w w' := by
  have H : ((node_depth.f k a0).bind fun t233 => ((node_depth.f k a1).bind fun t234 => (if t233 ≤ t234 then ((node_depth.f k a1).bind fun t235 => ((node_depth.f k a0).bind fun t236 => (if 0 ≤ (wrap64 (t235 - t236)) then (some ((shr .u64 a1 (wrap64 (t235 - t236))) == a0)) else (none)))) else (some false)))) = some r := h
  clear h
  replace H := bind_eq_some_iff.mp H
  obtain ⟨t233, A30, H⟩ := H
  replace H : ((node_depth.f k a1).bind fun t234 => (if t233 ≤ t234 then ((node_depth.f k a1).bind fun t235 => ((node_depth.f k a0).bind fun t236 => (if 0 ≤ (wrap64 (t235 - t236)) then (some ((shr .u64 a1 (wrap64 (t235 - t236))) == a0)) else (none)))) else (some false))) = some r := H
  have A3 := ak_ A30
  clear A30
  replace H := bind_eq_some_iff.mp H
  obtain ⟨t234, A40, H⟩ := H
  replace H : (if t233 ≤ t234 then ((node_depth.f k a1).bind fun t235 => ((node_depth.f k a0).bind fun t236 => (if 0 ≤ (wrap64 (t235 - t236)) then (some ((shr .u64 a1 (wrap64 (t235 - t236))) == a0)) else (none)))) else (some false)) = some r := H
  have A4 := ak_ A40
  clear A40
  by_cases c5 : t233 ≤ t234
  ·rw [if_pos c5] at H
   have c5b0 := decide_eq_true c5
   clear c5
   replace H := bind_eq_some_iff.mp H
   obtain ⟨t235, A60, H⟩ := H
   replace H : ((node_depth.f k a0).bind fun t236 => (if 0 ≤ (wrap64 (t235 - t236)) then (some ((shr .u64 a1 (wrap64 (t235 - t236))) == a0)) else (none))) = some r := H
   have A6 := ak_ A60
   clear A60
   replace H := bind_eq_some_iff.mp H
   obtain ⟨t236, A70, H⟩ := H
   replace H : (if 0 ≤ (wrap64 (t235 - t236)) then (some ((shr .u64 a1 (wrap64 (t235 - t236))) == a0)) else (none)) = some r := H
   have A7 := ak_ A70
   clear A70
   obtain ⟨ji8, hji8⟩ : ∃ j_ : Int, (wrap64 (t235 - t236)) = j_ := ⟨_, rfl⟩
   replace H : (if 0 ≤ (ji8) then (some ((shr .u64 a1 (ji8)) == a0)) else (none)) = some r := by first | (rw [hji8] at H; exact H) | (simp only [hji8] at H ⊢; exact H)
   (try rw [hji8] at A3)
   (try rw [hji8] at A4)
   (try rw [hji8] at A6)
   (try rw [hji8] at A7)
   have hji8w : (IntKind.i64.wrap (t235 - t236)) = ji8 := (i64_w _).trans hji8
   by_cases c9 : 0 ≤ (ji8)
   ·rw [if_pos c9] at H
    have c9b0 := eq_true c9
    have c9b1 := decide_eq_true c9
    clear c9
    obtain ⟨ji10, hji10⟩ : ∃ j_ : Int, (shr .u64 a1 (ji8)) = j_ := ⟨_, rfl⟩
    replace H : (some ((ji10) == a0)) = some r := by first | (rw [hji10] at H; exact H) | (simp only [hji10] at H ⊢; exact H)
    (try rw [hji10] at A3)
    (try rw [hji10] at A4)
    (try rw [hji10] at A6)
    (try rw [hji10] at A7)
    have hji10_ : (a1 / 2 ^ min (ji8).toNat 64) = ji10 := hji10
    have hji10z : (ji8) ≤ 64 → (a1 / 2 ^ (ji8).toNat) = ji10 := shr_small hji10
    obtain rfl := Option.some.inj H
    go_enter func86, ntmps86
    go_wp2_with (first | ((with_reducible refine gate_callee (f := 66) rfl ?_); refine goesL_ (some 6) rfl rfl func66 (by kernel_rfl) rfl #[.int .u64 a0] rfl (by (try simp only [map_toArray, map_cons, map_nil]); first | done | rfl) ?_; (with_reducible refine (node_depth.calls k a0 t233 _ A3.out).mono ?_); rintro e w' ⟨rfl, ⟨nd, rfl⟩⟩; refine ⟨_, rfl, ?_⟩) | ((with_reducible refine gate_callee (f := 66) rfl ?_); refine goesL_ (some 8) rfl rfl func66 (by kernel_rfl) rfl #[.int .u64 a1] rfl (by (try simp only [map_toArray, map_cons, map_nil]); first | done | rfl) ?_; (with_reducible refine (node_depth.calls k a1 t234 _ A4.out).mono ?_); rintro e w' ⟨rfl, ⟨nd, rfl⟩⟩; refine ⟨_, rfl, ?_⟩) | (go_at_call 66; (with_reducible refine (node_depth.calls k a1 t235 _ A6.out).mono ?_); rintro e w' ⟨rfl, ⟨nd, rfl⟩⟩) | (go_at_call 66; (with_reducible refine (node_depth.calls k a0 t236 _ A7.out).mono ?_); rintro e w' ⟨rfl, ⟨nd, rfl⟩⟩))
    go_ret
    exact ⟨by first | rfl | (simp; done) | (simp only [← hji8, ← hji10] <;> (first | rfl | simp)) | (simp [*]; done), by repeat (first | exact Drawn0.refl _ | apply Drawn0.step)⟩
   ·rw [if_neg c9] at H
    exact absurd H (by simp)
  ·rw [if_neg c5] at H
   have c5b0 := decide_eq_false c5
   clear c5
   obtain rfl := Option.some.inj H
   go_enter func86, ntmps86
   go_wp2_with (first | ((with_reducible refine gate_callee (f := 66) rfl ?_); refine goesL_ (some 6) rfl rfl func66 (by kernel_rfl) rfl #[.int .u64 a0] rfl (by (try simp only [map_toArray, map_cons, map_nil]); first | done | rfl) ?_; (with_reducible refine (node_depth.calls k a0 t233 _ A3.out).mono ?_); rintro e w' ⟨rfl, ⟨nd, rfl⟩⟩; refine ⟨_, rfl, ?_⟩) | ((with_reducible refine gate_callee (f := 66) rfl ?_); refine goesL_ (some 8) rfl rfl func66 (by kernel_rfl) rfl #[.int .u64 a1] rfl (by (try simp only [map_toArray, map_cons, map_nil]); first | done | rfl) ?_; (with_reducible refine (node_depth.calls k a1 t234 _ A4.out).mono ?_); rintro e w' ⟨rfl, ⟨nd, rfl⟩⟩; refine ⟨_, rfl, ?_⟩))
   go_ret
   exact ⟨by first | rfl | (simp; done) | (simp [*]; done), by repeat (first | exact Drawn0.refl _ | apply Drawn0.step)⟩
def node_Above.f (k : Nat) (a0 : Int) (a1 : Int) (a2 : Int) : Option (Bool × Int) := (node_both.f k a0 a1 a2).bind fun t237 => (if t237 = 0 then ((node_above.f k a1 a2).bind fun t238 => (some (t238, 0))) else (some (false, t237)))
set_option maxHeartbeats 8000000 in
set_option maxRecDepth 100000 in
theorem node_Above.calls (k : Nat) (a0 : Int) (a1 : Int) (a2 : Int) (r1 : Bool) (r2 : Int) (w : World) (h : node_Above.f k a0 a1 a2 = some (r1, r2)) :
   Calls Tryz.prog 61 #[.int .i64 a0, .int .u64 a1, .int .u64 a2] w fun e w' => e = .returned (.tuple #[.bool r1, .int .i64 r2]) ∧ Drawn0 w w' := by
  have H : ((node_both.f k a0 a1 a2).bind fun t237 => (if t237 = 0 then ((node_above.f k a1 a2).bind fun t238 => (some (t238, 0))) else (some (false, t237)))) = some (r1, r2) := h
  clear h
  replace H := bind_eq_some_iff.mp H
  obtain ⟨t237, A40, H⟩ := H
  replace H : (if t237 = 0 then ((node_above.f k a1 a2).bind fun t238 => (some (t238, 0))) else (some (false, t237))) = some (r1, r2) := H
  have A4 := ak_ A40
  clear A40
  by_cases c5 : t237 = 0
  ·rw [if_pos c5] at H
   have c5b0 : (t237 == 0) = true := beq_iff_eq.mpr c5
   have c5b1 : (t237 != 0) = false := bne_eq_false_iff_eq.mpr c5
   clear c5
   replace H := bind_eq_some_iff.mp H
   obtain ⟨t238, A60, H⟩ := H
   replace H : (some (t238, 0)) = some (r1, r2) := H
   have A6 := ak_ A60
   clear A60
   simp only [some.injEq, Prod.mk.injEq] at H
   obtain ⟨rfl, rfl⟩ := H
   go_enter func61, ntmps61
   go_wp2_with (first | ((with_reducible refine gate_callee (f := 85) rfl ?_); refine goesL_ (some 12) rfl rfl func85 (by kernel_rfl) rfl #[.int .i64 a0, .int .u64 a1, .int .u64 a2] rfl (by (try simp only [map_toArray, map_cons, map_nil]); first | done | rfl) ?_; (with_reducible refine (node_both.calls k a0 a1 a2 t237 _ A4.out).mono ?_); rintro e w' ⟨rfl, ⟨nd, rfl⟩⟩; refine ⟨_, rfl, ?_⟩) | ((with_reducible refine gate_callee (f := 86) rfl ?_); refine goesL_ (some 18) rfl rfl func86 (by kernel_rfl) rfl #[.int .u64 a1, .int .u64 a2] rfl (by (try simp only [map_toArray, map_cons, map_nil]); first | done | rfl) ?_; (with_reducible refine (node_above.calls k a1 a2 t238 _ A6.out).mono ?_); rintro e w' ⟨rfl, ⟨nd, rfl⟩⟩; refine ⟨_, rfl, ?_⟩))
   go_ret2
   exact ⟨by first | rfl | (simp; done) | (simp [*]; done), by repeat (first | exact Drawn0.refl _ | apply Drawn0.step)⟩
  ·rw [if_neg c5] at H
   have c5b0 : (t237 == 0) = false := beq_eq_false_iff_ne.mpr c5
   have c5b1 : (t237 != 0) = true := bne_iff_ne.mpr c5
   simp only [some.injEq, Prod.mk.injEq] at H
   obtain ⟨rfl, rfl⟩ := H
   go_enter func61, ntmps61
   go_wp2_with (first | ((with_reducible refine gate_callee (f := 85) rfl ?_); refine goesL_ (some 12) rfl rfl func85 (by kernel_rfl) rfl #[.int .i64 a0, .int .u64 a1, .int .u64 a2] rfl (by (try simp only [map_toArray, map_cons, map_nil]); first | done | rfl) ?_; (with_reducible refine (node_both.calls k a0 a1 a2 t237 _ A4.out).mono ?_); rintro e w' ⟨rfl, ⟨nd, rfl⟩⟩; refine ⟨_, rfl, ?_⟩))
   go_ret2
   exact ⟨by first | rfl | (simp; done) | (simp [*]; done), by repeat (first | exact Drawn0.refl _ | apply Drawn0.step)⟩
def sub_Check.f (k : Nat) (a0 : Int) (a1_0 : Int) (a1_1 : Int) : Option (Int) := if a1_1 = 0 then ((node_Check.f k a0 a1_0).bind fun t240 => (some t240)) else ((node_Above.f k a0 a1_0 a1_1).bind fun bt241 => (if bt241.2 = 0 then (if bt241.1 = true then (if a1_0 = a1_1 then (some 1) else (some 0)) else (some 1)) else (some 1)))
set_option maxHeartbeats 8000000 in
set_option maxRecDepth 100000 in
theorem sub_Check.calls (k : Nat) (a0 : Int) (a1_0 : Int) (a1_1 : Int) (r : Int) (w : World) (h : sub_Check.f k a0 a1_0 a1_1 = some r) :
   Calls Tryz.prog 28 #[.int .i64 a0, .agg #[.int .u64 a1_0, .int .u64 a1_1]] w fun e w' => e = .returned (.int .i64 r) ∧ Below w.heap.size w w' := by
  have hu25 := underlying25
  have HB := ak_ (Below.refl w.heap.size w)
  have H : (if a1_1 = 0 then ((node_Check.f k a0 a1_0).bind fun t240 => (some t240)) else ((node_Above.f k a0 a1_0 a1_1).bind fun bt241 => (if bt241.2 = 0 then (if bt241.1 = true then (if a1_0 = a1_1 then (some 1) else (some 0)) else (some 1)) else (some 1)))) = some r := h
  clear h
  by_cases c3 : a1_1 = 0
  ·rw [if_pos c3] at H
   have c3b0 : (a1_1 == 0) = true := beq_iff_eq.mpr c3
   have c3b1 : (a1_1 != 0) = false := bne_eq_false_iff_eq.mpr c3
   clear c3
   replace H := bind_eq_some_iff.mp H
   obtain ⟨t240, A40, H⟩ := H
   replace H : (some t240) = some r := H
   have A4 := ak_ A40
   clear A40
   obtain rfl := Option.some.inj H
   go_enter func28, ntmps28
   go_wp2_with (first | ((with_reducible refine gate_dst (N := 3) rfl ?_); refine box_event ?hg (N := 3) ?hd (cs := #[.int .u64 a1_0, .int .u64 a1_1]) (t := 25) ?hr ?_; (case hd => rfl); (case hg => rfl); (case hr => first | (go_simp; done) | (go_simp; rfl)); intro gb239 hg w5 hbox hb; have n0_ := ak_ (bt_ (bl_ HB) hb); have n1_ := ak_ (hbox); have n2_ := ak_ ((gs_ hg HB)); have n3_ := ak_ ((gs_ hg HB)); clear HB; have HB := n0_; have BK239 := n1_; have GW239 := n2_; have GE239 := n3_; clear n0_ n1_ n2_ n3_; clear hb hbox hg; have hcz6_0 : w5.cell? ⟨gb239, 0, none⟩ = some (.int .u64 a1_0) := (kc_ BK239.out 0).trans rfl; have hcz6_1 : w5.cell? ⟨gb239, 1, none⟩ = some (.int .u64 a1_1) := (kc_ BK239.out 1).trans rfl; have hfz6_0 := kf_ BK239.out 0; have hfz6_1 := kf_ BK239.out 1) | ((with_reducible refine gate_callee (f := 35) rfl ?_); refine goesL_ (some 13) rfl rfl func35 (by kernel_rfl) rfl #[.int .i64 a0, .int .u64 a1_0] rfl (by (try simp only [map_toArray, map_cons, map_nil]); first | done | rfl) ?_; (with_reducible refine (node_Check.calls k a0 a1_0 t240 _ A4.out).mono ?_); rintro e w' ⟨rfl, ⟨nd, rfl⟩⟩; refine ⟨_, rfl, ?_⟩))
   go_ret
   exact ⟨by first | rfl | (simp <;> rfl) | (simp [*] <;> rfl), by repeat (first | (with_reducible first | exact HB.out | apply ba_ | apply bn_ | apply bd_ | refine below_set ?_ GE239.out) | exact HB.out)⟩
  ·rw [if_neg c3] at H
   have c3b0 : (a1_1 == 0) = false := beq_eq_false_iff_ne.mpr c3
   have c3b1 : (a1_1 != 0) = true := bne_iff_ne.mpr c3
   replace H := bind_eq_some_iff.mp H
   obtain ⟨⟨t241, t242⟩, A70, H⟩ := H
   replace H : (if t242 = 0 then (if t241 = true then (if a1_0 = a1_1 then (some 1) else (some 0)) else (some 1)) else (some 1)) = some r := H
   have A7 := ak_ A70
   clear A70
   by_cases c8 : t242 = 0
   ·rw [if_pos c8] at H
    have c8b0 : (t242 == 0) = true := beq_iff_eq.mpr c8
    have c8b1 : (t242 != 0) = false := bne_eq_false_iff_eq.mpr c8
    clear c8
    by_cases c9 : t241 = true
    ·subst c9
     have H1 : (if a1_0 = a1_1 then (some 1) else (some 0)) = some r := by rw [if_pos rfl] at H; exact H
     clear H
     have H := H1
     clear H1
     by_cases c10 : a1_0 = a1_1
     ·rw [if_pos c10] at H
      have c10b0 : (a1_0 == a1_1) = true := beq_iff_eq.mpr c10
      have c10b1 : (a1_0 != a1_1) = false := bne_eq_false_iff_eq.mpr c10
      clear c10
      obtain rfl := Option.some.inj H
      go_enter func28, ntmps28
      go_wp2_with (first | ((with_reducible refine gate_dst (N := 3) rfl ?_); refine box_event ?hg (N := 3) ?hd (cs := #[.int .u64 a1_0, .int .u64 a1_1]) (t := 25) ?hr ?_; (case hd => rfl); (case hg => rfl); (case hr => first | (go_simp; done) | (go_simp; rfl)); intro gb239 hg w11 hbox hb; have n0_ := ak_ (bt_ (bl_ HB) hb); have n1_ := ak_ (hbox); have n2_ := ak_ ((gs_ hg HB)); have n3_ := ak_ ((gs_ hg HB)); clear HB; have HB := n0_; have BK239 := n1_; have GW239 := n2_; have GE239 := n3_; clear n0_ n1_ n2_ n3_; clear hb hbox hg; have hcz12_0 : w11.cell? ⟨gb239, 0, none⟩ = some (.int .u64 a1_0) := (kc_ BK239.out 0).trans rfl; have hcz12_1 : w11.cell? ⟨gb239, 1, none⟩ = some (.int .u64 a1_1) := (kc_ BK239.out 1).trans rfl; have hfz12_0 := kf_ BK239.out 0; have hfz12_1 := kf_ BK239.out 1) | ((with_reducible refine gate_callee (f := 61) rfl ?_); refine goesL_ (some 20) rfl rfl func61 (by kernel_rfl) rfl #[.int .i64 a0, .int .u64 a1_0, .int .u64 a1_1] rfl (by (try simp only [map_toArray, map_cons, map_nil]); first | done | rfl) ?_; (with_reducible refine (node_Above.calls k a0 a1_0 a1_1 true t242 _ A7.out).mono ?_); rintro e w' ⟨rfl, ⟨nd, rfl⟩⟩; refine ⟨_, rfl, ?_⟩))
      go_ret
      exact ⟨by first | rfl | (simp <;> rfl) | (simp [*] <;> rfl), by repeat (first | (with_reducible first | exact HB.out | apply ba_ | apply bn_ | apply bd_ | refine below_set ?_ GE239.out) | exact HB.out)⟩
     ·rw [if_neg c10] at H
      have c10b0 : (a1_0 == a1_1) = false := beq_eq_false_iff_ne.mpr c10
      have c10b1 : (a1_0 != a1_1) = true := bne_iff_ne.mpr c10
      obtain rfl := Option.some.inj H
      go_enter func28, ntmps28
      go_wp2_with (first | ((with_reducible refine gate_dst (N := 3) rfl ?_); refine box_event ?hg (N := 3) ?hd (cs := #[.int .u64 a1_0, .int .u64 a1_1]) (t := 25) ?hr ?_; (case hd => rfl); (case hg => rfl); (case hr => first | (go_simp; done) | (go_simp; rfl)); intro gb239 hg w13 hbox hb; have n0_ := ak_ (bt_ (bl_ HB) hb); have n1_ := ak_ (hbox); have n2_ := ak_ ((gs_ hg HB)); have n3_ := ak_ ((gs_ hg HB)); clear HB; have HB := n0_; have BK239 := n1_; have GW239 := n2_; have GE239 := n3_; clear n0_ n1_ n2_ n3_; clear hb hbox hg; have hcz14_0 : w13.cell? ⟨gb239, 0, none⟩ = some (.int .u64 a1_0) := (kc_ BK239.out 0).trans rfl; have hcz14_1 : w13.cell? ⟨gb239, 1, none⟩ = some (.int .u64 a1_1) := (kc_ BK239.out 1).trans rfl; have hfz14_0 := kf_ BK239.out 0; have hfz14_1 := kf_ BK239.out 1) | ((with_reducible refine gate_callee (f := 61) rfl ?_); refine goesL_ (some 20) rfl rfl func61 (by kernel_rfl) rfl #[.int .i64 a0, .int .u64 a1_0, .int .u64 a1_1] rfl (by (try simp only [map_toArray, map_cons, map_nil]); first | done | rfl) ?_; (with_reducible refine (node_Above.calls k a0 a1_0 a1_1 true t242 _ A7.out).mono ?_); rintro e w' ⟨rfl, ⟨nd, rfl⟩⟩; refine ⟨_, rfl, ?_⟩))
      go_ret
      exact ⟨by first | rfl | (simp <;> rfl) | (simp [*] <;> rfl), by repeat (first | (with_reducible first | exact HB.out | apply ba_ | apply bn_ | apply bd_ | refine below_set ?_ GE239.out) | exact HB.out)⟩
    ·replace c9 := Bool.eq_false_iff.mpr c9
     subst c9
     have H1 : (some 1) = some r := by rw [if_neg (show ¬ (false = true) by decide)] at H; exact H
     clear H
     have H := H1
     clear H1
     obtain rfl := Option.some.inj H
     go_enter func28, ntmps28
     go_wp2_with (first | ((with_reducible refine gate_dst (N := 3) rfl ?_); refine box_event ?hg (N := 3) ?hd (cs := #[.int .u64 a1_0, .int .u64 a1_1]) (t := 25) ?hr ?_; (case hd => rfl); (case hg => rfl); (case hr => first | (go_simp; done) | (go_simp; rfl)); intro gb239 hg w15 hbox hb; have n0_ := ak_ (bt_ (bl_ HB) hb); have n1_ := ak_ (hbox); have n2_ := ak_ ((gs_ hg HB)); have n3_ := ak_ ((gs_ hg HB)); clear HB; have HB := n0_; have BK239 := n1_; have GW239 := n2_; have GE239 := n3_; clear n0_ n1_ n2_ n3_; clear hb hbox hg; have hcz16_0 : w15.cell? ⟨gb239, 0, none⟩ = some (.int .u64 a1_0) := (kc_ BK239.out 0).trans rfl; have hcz16_1 : w15.cell? ⟨gb239, 1, none⟩ = some (.int .u64 a1_1) := (kc_ BK239.out 1).trans rfl; have hfz16_0 := kf_ BK239.out 0; have hfz16_1 := kf_ BK239.out 1) | ((with_reducible refine gate_callee (f := 61) rfl ?_); refine goesL_ (some 20) rfl rfl func61 (by kernel_rfl) rfl #[.int .i64 a0, .int .u64 a1_0, .int .u64 a1_1] rfl (by (try simp only [map_toArray, map_cons, map_nil]); first | done | rfl) ?_; (with_reducible refine (node_Above.calls k a0 a1_0 a1_1 false t242 _ A7.out).mono ?_); rintro e w' ⟨rfl, ⟨nd, rfl⟩⟩; refine ⟨_, rfl, ?_⟩))
     go_ret
     exact ⟨by first | rfl | (simp <;> rfl) | (simp [*] <;> rfl), by repeat (first | (with_reducible first | exact HB.out | apply ba_ | apply bn_ | apply bd_ | refine below_set ?_ GE239.out) | exact HB.out)⟩
   ·rw [if_neg c8] at H
    have c8b0 : (t242 == 0) = false := beq_eq_false_iff_ne.mpr c8
    have c8b1 : (t242 != 0) = true := bne_iff_ne.mpr c8
    obtain rfl := Option.some.inj H
    go_enter func28, ntmps28
    go_wp2_with (first | ((with_reducible refine gate_dst (N := 3) rfl ?_); refine box_event ?hg (N := 3) ?hd (cs := #[.int .u64 a1_0, .int .u64 a1_1]) (t := 25) ?hr ?_; (case hd => rfl); (case hg => rfl); (case hr => first | (go_simp; done) | (go_simp; rfl)); intro gb239 hg w17 hbox hb; have n0_ := ak_ (bt_ (bl_ HB) hb); have n1_ := ak_ (hbox); have n2_ := ak_ ((gs_ hg HB)); have n3_ := ak_ ((gs_ hg HB)); clear HB; have HB := n0_; have BK239 := n1_; have GW239 := n2_; have GE239 := n3_; clear n0_ n1_ n2_ n3_; clear hb hbox hg; have hcz18_0 : w17.cell? ⟨gb239, 0, none⟩ = some (.int .u64 a1_0) := (kc_ BK239.out 0).trans rfl; have hcz18_1 : w17.cell? ⟨gb239, 1, none⟩ = some (.int .u64 a1_1) := (kc_ BK239.out 1).trans rfl; have hfz18_0 := kf_ BK239.out 0; have hfz18_1 := kf_ BK239.out 1) | ((with_reducible refine gate_callee (f := 61) rfl ?_); refine goesL_ (some 20) rfl rfl func61 (by kernel_rfl) rfl #[.int .i64 a0, .int .u64 a1_0, .int .u64 a1_1] rfl (by (try simp only [map_toArray, map_cons, map_nil]); first | done | rfl) ?_; (with_reducible refine (node_Above.calls k a0 a1_0 a1_1 t241 t242 _ A7.out).mono ?_); rintro e w' ⟨rfl, ⟨nd, rfl⟩⟩; refine ⟨_, rfl, ?_⟩))
    go_ret
    exact ⟨by first | rfl | (simp <;> rfl) | (simp [*] <;> rfl), by repeat (first | (with_reducible first | exact HB.out | apply ba_ | apply bn_ | apply bd_ | refine below_set ?_ GE239.out) | exact HB.out)⟩
def sub_Step.l0 : Nat → Int → Int → Option (Int × Int)
  | 0, _, _ => none
  | k + 1, x0, x5 => if (wrap64 (x5 * x5)) < x0 then (sub_Step.l0 k x0 (wrap64 (x5 + 1))) else (some (x5, 0))
def sub_Step.f (k : Nat) (a0 : Int) : Option (Int × Int) := (node_Check.f k a0 1).bind fun t243 => (if t243 = 0 then (sub_Step.l0 k a0 1) else (some (0, t243)))
theorem sub_Step.mono_l : ∀ k, (∀ y0 y1, LeO (sub_Step.l0 k y0 y1) (sub_Step.l0 (k + 1) y0 y1))
  | 0 => fun _ _ r h => by simp [sub_Step.l0] at h
  | k + 1 => by
   have ih0 := sub_Step.mono_l k
   ·intro y0 y1
    unfold sub_Step.l0
    repeat' first
    | (with_reducible exact ih0 _ _)
    | (with_reducible exact node_Check.mono _ _ _)
    | (with_reducible exact LeO.refl _)
    | (with_reducible exact LeO.none _)
    | (with_reducible refine LeO.ite ?_ ?_)
    | (with_reducible refine LeO.bind ?_ (fun _ => ?_))
    | exact ih0 _ _
    | exact node_Check.mono _ _ _
    | exact LeO.none _
    | refine LeO.ite ?_ ?_
    | refine LeO.bind ?_ (fun _ => ?_)
theorem sub_Step.mono : ∀ a0 k, LeO (sub_Step.f k a0) (sub_Step.f (k + 1) a0) := by
  intro a0 k
  have ih0 := sub_Step.mono_l k
  unfold sub_Step.f
  repeat' first
    | (with_reducible exact ih0 _ _)
    | (with_reducible exact node_Check.mono _ _ _)
    | (with_reducible exact LeO.refl _)
    | (with_reducible exact LeO.none _)
    | (with_reducible refine LeO.ite ?_ ?_)
    | (with_reducible refine LeO.bind ?_ (fun _ => ?_))
    | exact ih0 _ _
    | exact node_Check.mono _ _ _
    | exact LeO.none _
    | refine LeO.ite ?_ ?_
    | refine LeO.bind ?_ (fun _ => ?_)
set_option maxHeartbeats 8000000 in
set_option maxRecDepth 100000 in
theorem sub_Step.calls (k : Nat) (a0 : Int) (r1 : Int) (r2 : Int) (w : World) (h : sub_Step.f k a0 = some (r1, r2)) :
   Calls Tryz.prog 32 #[.int .i64 a0] w fun e w' => e = .returned (.tuple #[.int .i64 r1, .int .i64 r2]) ∧ Drawn0 w w' := by
  have H : ((node_Check.f k a0 1).bind fun t243 => (if t243 = 0 then (sub_Step.l0 k a0 1) else (some (0, t243)))) = some (r1, r2) := h
  clear h
  replace H := bind_eq_some_iff.mp H
  obtain ⟨t243, A20, H⟩ := H
  replace H : (if t243 = 0 then (sub_Step.l0 k a0 1) else (some (0, t243))) = some (r1, r2) := H
  have A2 := ak_ A20
  clear A20
  by_cases c3 : t243 = 0
  ·rw [if_pos c3] at H
   have c3b0 : (t243 == 0) = true := beq_iff_eq.mpr c3
   have c3b1 : (t243 != 0) = false := bne_eq_false_iff_eq.mpr c3
   clear c3
   have H' := ak_ H
   clear H
   go_enter func32, ntmps32
   go_wp2_with (first | ((with_reducible refine gate_callee (f := 35) rfl ?_); refine goesL_ (some 7) rfl rfl func35 (by kernel_rfl) rfl #[.int .i64 a0, .int .u64 1] rfl (by (try simp only [map_toArray, map_cons, map_nil]); first | done | rfl) ?_; (with_reducible refine (node_Check.calls k a0 1 t243 _ A2.out).mono ?_); rintro e w' ⟨rfl, ⟨nd, rfl⟩⟩; refine ⟨_, rfl, ?_⟩))
   go_loopg [5] k (fun kq v5 w' => ∃ (x5_1 : Int), v5 = .int .i64 x5_1 ∧ Aside0 (sub_Step.l0 kq a0 x5_1 = some (r1, r2)) ∧ Aside0 (kq ≤ k) ∧ Drawn0 w w')
   case atStart => exact ⟨(1), (by first | rfl | (simp; done) | (simp [*]; done)), H', ⟨Nat.le_refl _⟩, by repeat (first | exact Drawn0.refl _ | apply Drawn0.step)⟩
   case round =>
    clear H'
    try clear p2
    try clear c3
    try clear c3b0
    try clear c3b1
    obtain ⟨x5_1, rfl, HA, HK1, ⟨m1, rfl⟩⟩ := hrel
    cases gk with
    | zero => exact absurd HA.out (by simp [sub_Step.l0])
    | succ k1 =>
     have H := HA.out
     clear HA
     simp only [sub_Step.l0] at H
     by_cases c4 : (wrap64 (x5_1 * x5_1)) < a0
     ·rw [if_pos c4] at H
      have c4b0 := decide_eq_true c4
      clear c4
      have H' := ak_ H
      clear H
      go_wp2
      go_roundg k1
      case measure => have := HK1.out; omega
      case rel => exact ⟨(wrap64 (x5_1 + 1)), (by first | rfl | (simp; done) | (simp [*]; done)), H', ⟨by have := HK1.out; omega⟩, by repeat (first | exact Drawn0.refl _ | apply Drawn0.step)⟩
     ·rw [if_neg c4] at H
      have c4b0 := decide_eq_false c4
      clear c4
      simp only [some.injEq, Prod.mk.injEq] at H
      obtain ⟨rfl, rfl⟩ := H
      go_wp2
      go_ret2
      exact ⟨by first | rfl | (simp; done) | (simp [*]; done), by repeat (first | exact Drawn0.refl _ | apply Drawn0.step)⟩
  ·rw [if_neg c3] at H
   have c3b0 : (t243 == 0) = false := beq_eq_false_iff_ne.mpr c3
   have c3b1 : (t243 != 0) = true := bne_iff_ne.mpr c3
   simp only [some.injEq, Prod.mk.injEq] at H
   obtain ⟨rfl, rfl⟩ := H
   go_enter func32, ntmps32
   go_wp2_with (first | ((with_reducible refine gate_callee (f := 35) rfl ?_); refine goesL_ (some 7) rfl rfl func35 (by kernel_rfl) rfl #[.int .i64 a0, .int .u64 1] rfl (by (try simp only [map_toArray, map_cons, map_nil]); first | done | rfl) ?_; (with_reducible refine (node_Check.calls k a0 1 t243 _ A2.out).mono ?_); rintro e w' ⟨rfl, ⟨nd, rfl⟩⟩; refine ⟨_, rfl, ?_⟩))
   go_ret2
   exact ⟨by first | rfl | (simp; done) | (simp [*]; done), by repeat (first | exact Drawn0.refl _ | apply Drawn0.step)⟩
def node_Depth.f (k : Nat) (a0 : Int) (a1 : Int) : Option (Int × Int) := (node_Check.f k a0 a1).bind fun t244 => (if t244 = 0 then ((node_depth.f k a1).bind fun t245 => (some (t245, 0))) else (some (0, t244)))
set_option maxHeartbeats 8000000 in
set_option maxRecDepth 100000 in
theorem node_Depth.calls (k : Nat) (a0 : Int) (a1 : Int) (r1 : Int) (r2 : Int) (w : World) (h : node_Depth.f k a0 a1 = some (r1, r2)) :
   Calls Tryz.prog 74 #[.int .i64 a0, .int .u64 a1] w fun e w' => e = .returned (.tuple #[.int .i64 r1, .int .i64 r2]) ∧ Drawn0 w w' := by
  have H : ((node_Check.f k a0 a1).bind fun t244 => (if t244 = 0 then ((node_depth.f k a1).bind fun t245 => (some (t245, 0))) else (some (0, t244)))) = some (r1, r2) := h
  clear h
  replace H := bind_eq_some_iff.mp H
  obtain ⟨t244, A30, H⟩ := H
  replace H : (if t244 = 0 then ((node_depth.f k a1).bind fun t245 => (some (t245, 0))) else (some (0, t244))) = some (r1, r2) := H
  have A3 := ak_ A30
  clear A30
  by_cases c4 : t244 = 0
  ·rw [if_pos c4] at H
   have c4b0 : (t244 == 0) = true := beq_iff_eq.mpr c4
   have c4b1 : (t244 != 0) = false := bne_eq_false_iff_eq.mpr c4
   clear c4
   replace H := bind_eq_some_iff.mp H
   obtain ⟨t245, A50, H⟩ := H
   replace H : (some (t245, 0)) = some (r1, r2) := H
   have A5 := ak_ A50
   clear A50
   simp only [some.injEq, Prod.mk.injEq] at H
   obtain ⟨rfl, rfl⟩ := H
   go_enter func74, ntmps74
   go_wp2_with (first | ((with_reducible refine gate_callee (f := 35) rfl ?_); refine goesL_ (some 9) rfl rfl func35 (by kernel_rfl) rfl #[.int .i64 a0, .int .u64 a1] rfl (by (try simp only [map_toArray, map_cons, map_nil]); first | done | rfl) ?_; (with_reducible refine (node_Check.calls k a0 a1 t244 _ A3.out).mono ?_); rintro e w' ⟨rfl, ⟨nd, rfl⟩⟩; refine ⟨_, rfl, ?_⟩) | ((with_reducible refine gate_callee (f := 66) rfl ?_); refine goesL_ (some 14) rfl rfl func66 (by kernel_rfl) rfl #[.int .u64 a1] rfl (by (try simp only [map_toArray, map_cons, map_nil]); first | done | rfl) ?_; (with_reducible refine (node_depth.calls k a1 t245 _ A5.out).mono ?_); rintro e w' ⟨rfl, ⟨nd, rfl⟩⟩; refine ⟨_, rfl, ?_⟩))
   go_ret2
   exact ⟨by first | rfl | (simp; done) | (simp [*]; done), by repeat (first | exact Drawn0.refl _ | apply Drawn0.step)⟩
  ·rw [if_neg c4] at H
   have c4b0 : (t244 == 0) = false := beq_eq_false_iff_ne.mpr c4
   have c4b1 : (t244 != 0) = true := bne_iff_ne.mpr c4
   simp only [some.injEq, Prod.mk.injEq] at H
   obtain ⟨rfl, rfl⟩ := H
   go_enter func74, ntmps74
   go_wp2_with (first | ((with_reducible refine gate_callee (f := 35) rfl ?_); refine goesL_ (some 9) rfl rfl func35 (by kernel_rfl) rfl #[.int .i64 a0, .int .u64 a1] rfl (by (try simp only [map_toArray, map_cons, map_nil]); first | done | rfl) ?_; (with_reducible refine (node_Check.calls k a0 a1 t244 _ A3.out).mono ?_); rintro e w' ⟨rfl, ⟨nd, rfl⟩⟩; refine ⟨_, rfl, ?_⟩))
   go_ret2
   exact ⟨by first | rfl | (simp; done) | (simp [*]; done), by repeat (first | exact Drawn0.refl _ | apply Drawn0.step)⟩
def sub_depths.f (k : Nat) (a0 : Int) (a1_0 : Int) (a1_1 : Int) : Option (Int × Int × Int × Bool × Int) := (sub_Step.f k a0).bind fun bt247 => (if bt247.2 = 0 then ((node_Depth.f k a0 a1_0).bind fun bt249 => (if bt249.2 = 0 then (if a1_1 = 0 then (if bt247.1 = 0 then (none) else (if (Int.tmod bt249.1 bt247.1) = 0 then (some (bt249.1, 0, mn (wrap64 ((wrap64 ((wrap64 (Int.tdiv bt249.1 bt247.1)) + 1)) * bt247.1)) a0, true, bt249.2)) else (some (bt249.1, 0, mn (wrap64 ((wrap64 ((wrap64 (Int.tdiv bt249.1 bt247.1)) + 1)) * bt247.1)) a0, (bt249.1 == a0), bt249.2)))) else ((node_Depth.f k a0 a1_1).bind fun bt251 => (if bt247.1 = 0 then (none) else (if (Int.tmod bt249.1 bt247.1) = 0 then (some (bt249.1, bt251.1, mn (wrap64 ((wrap64 ((wrap64 (Int.tdiv bt249.1 bt247.1)) + 1)) * bt247.1)) a0, true, bt251.2)) else (some (bt249.1, bt251.1, mn (wrap64 ((wrap64 ((wrap64 (Int.tdiv bt249.1 bt247.1)) + 1)) * bt247.1)) a0, (bt249.1 == a0), bt251.2)))))) else (if bt247.1 = 0 then (none) else (if (Int.tmod bt249.1 bt247.1) = 0 then (some (bt249.1, 0, mn (wrap64 ((wrap64 ((wrap64 (Int.tdiv bt249.1 bt247.1)) + 1)) * bt247.1)) a0, true, bt249.2)) else (some (bt249.1, 0, mn (wrap64 ((wrap64 ((wrap64 (Int.tdiv bt249.1 bt247.1)) + 1)) * bt247.1)) a0, (bt249.1 == a0), bt249.2)))))) else (some (0, 0, 0, false, bt247.2)))
set_option maxHeartbeats 8000000 in
set_option maxRecDepth 100000 in
theorem sub_depths.calls (k : Nat) (a0 : Int) (a1_0 : Int) (a1_1 : Int) (r1 : Int) (r2 : Int) (r3 : Int) (r4 : Bool) (r5 : Int) (w : World) (h : sub_depths.f k a0 a1_0 a1_1 = some (r1, r2, r3, r4, r5)) :
   Calls Tryz.prog 43 #[.int .i64 a0, .agg #[.int .u64 a1_0, .int .u64 a1_1]] w fun e w' => e = .returned (.tuple #[.int .i64 r1, .int .i64 r2, .int .i64 r3, .bool r4, .int .i64 r5]) ∧ Below w.heap.size w w' := by
  have hu25 := underlying25
  have HB := ak_ (Below.refl w.heap.size w)
  have H : ((sub_Step.f k a0).bind fun bt247 => (if bt247.2 = 0 then ((node_Depth.f k a0 a1_0).bind fun bt249 => (if bt249.2 = 0 then (if a1_1 = 0 then (if bt247.1 = 0 then (none) else (if (Int.tmod bt249.1 bt247.1) = 0 then (some (bt249.1, 0, mn (wrap64 ((wrap64 ((wrap64 (Int.tdiv bt249.1 bt247.1)) + 1)) * bt247.1)) a0, true, bt249.2)) else (some (bt249.1, 0, mn (wrap64 ((wrap64 ((wrap64 (Int.tdiv bt249.1 bt247.1)) + 1)) * bt247.1)) a0, (bt249.1 == a0), bt249.2)))) else ((node_Depth.f k a0 a1_1).bind fun bt251 => (if bt247.1 = 0 then (none) else (if (Int.tmod bt249.1 bt247.1) = 0 then (some (bt249.1, bt251.1, mn (wrap64 ((wrap64 ((wrap64 (Int.tdiv bt249.1 bt247.1)) + 1)) * bt247.1)) a0, true, bt251.2)) else (some (bt249.1, bt251.1, mn (wrap64 ((wrap64 ((wrap64 (Int.tdiv bt249.1 bt247.1)) + 1)) * bt247.1)) a0, (bt249.1 == a0), bt251.2)))))) else (if bt247.1 = 0 then (none) else (if (Int.tmod bt249.1 bt247.1) = 0 then (some (bt249.1, 0, mn (wrap64 ((wrap64 ((wrap64 (Int.tdiv bt249.1 bt247.1)) + 1)) * bt247.1)) a0, true, bt249.2)) else (some (bt249.1, 0, mn (wrap64 ((wrap64 ((wrap64 (Int.tdiv bt249.1 bt247.1)) + 1)) * bt247.1)) a0, (bt249.1 == a0), bt249.2)))))) else (some (0, 0, 0, false, bt247.2)))) = some (r1, r2, r3, r4, r5) := h
  clear h
  replace H := bind_eq_some_iff.mp H
  obtain ⟨⟨t247, t248⟩, A30, H⟩ := H
  replace H : (if t248 = 0 then ((node_Depth.f k a0 a1_0).bind fun bt249 => (if bt249.2 = 0 then (if a1_1 = 0 then (if t247 = 0 then (none) else (if (Int.tmod bt249.1 t247) = 0 then (some (bt249.1, 0, mn (wrap64 ((wrap64 ((wrap64 (Int.tdiv bt249.1 t247)) + 1)) * t247)) a0, true, bt249.2)) else (some (bt249.1, 0, mn (wrap64 ((wrap64 ((wrap64 (Int.tdiv bt249.1 t247)) + 1)) * t247)) a0, (bt249.1 == a0), bt249.2)))) else ((node_Depth.f k a0 a1_1).bind fun bt251 => (if t247 = 0 then (none) else (if (Int.tmod bt249.1 t247) = 0 then (some (bt249.1, bt251.1, mn (wrap64 ((wrap64 ((wrap64 (Int.tdiv bt249.1 t247)) + 1)) * t247)) a0, true, bt251.2)) else (some (bt249.1, bt251.1, mn (wrap64 ((wrap64 ((wrap64 (Int.tdiv bt249.1 t247)) + 1)) * t247)) a0, (bt249.1 == a0), bt251.2)))))) else (if t247 = 0 then (none) else (if (Int.tmod bt249.1 t247) = 0 then (some (bt249.1, 0, mn (wrap64 ((wrap64 ((wrap64 (Int.tdiv bt249.1 t247)) + 1)) * t247)) a0, true, bt249.2)) else (some (bt249.1, 0, mn (wrap64 ((wrap64 ((wrap64 (Int.tdiv bt249.1 t247)) + 1)) * t247)) a0, (bt249.1 == a0), bt249.2)))))) else (some (0, 0, 0, false, t248))) = some (r1, r2, r3, r4, r5) := H
  have A3 := ak_ A30
  clear A30
  by_cases c4 : t248 = 0
  ·rw [if_pos c4] at H
   have c4b0 : (t248 == 0) = true := beq_iff_eq.mpr c4
   have c4b1 : (t248 != 0) = false := bne_eq_false_iff_eq.mpr c4
   clear c4
   replace H := bind_eq_some_iff.mp H
   obtain ⟨⟨t249, t250⟩, A50, H⟩ := H
   replace H : (if t250 = 0 then (if a1_1 = 0 then (if t247 = 0 then (none) else (if (Int.tmod t249 t247) = 0 then (some (t249, 0, mn (wrap64 ((wrap64 ((wrap64 (Int.tdiv t249 t247)) + 1)) * t247)) a0, true, t250)) else (some (t249, 0, mn (wrap64 ((wrap64 ((wrap64 (Int.tdiv t249 t247)) + 1)) * t247)) a0, (t249 == a0), t250)))) else ((node_Depth.f k a0 a1_1).bind fun bt251 => (if t247 = 0 then (none) else (if (Int.tmod t249 t247) = 0 then (some (t249, bt251.1, mn (wrap64 ((wrap64 ((wrap64 (Int.tdiv t249 t247)) + 1)) * t247)) a0, true, bt251.2)) else (some (t249, bt251.1, mn (wrap64 ((wrap64 ((wrap64 (Int.tdiv t249 t247)) + 1)) * t247)) a0, (t249 == a0), bt251.2)))))) else (if t247 = 0 then (none) else (if (Int.tmod t249 t247) = 0 then (some (t249, 0, mn (wrap64 ((wrap64 ((wrap64 (Int.tdiv t249 t247)) + 1)) * t247)) a0, true, t250)) else (some (t249, 0, mn (wrap64 ((wrap64 ((wrap64 (Int.tdiv t249 t247)) + 1)) * t247)) a0, (t249 == a0), t250))))) = some (r1, r2, r3, r4, r5) := H
   have A5 := ak_ A50
   clear A50
   by_cases c6 : t250 = 0
   ·rw [if_pos c6] at H
    have c6b0 : (t250 == 0) = true := beq_iff_eq.mpr c6
    have c6b1 : (t250 != 0) = false := bne_eq_false_iff_eq.mpr c6
    clear c6
    by_cases c7 : a1_1 = 0
    ·rw [if_pos c7] at H
     have c7b0 : (a1_1 == 0) = true := beq_iff_eq.mpr c7
     have c7b1 : (a1_1 != 0) = false := bne_eq_false_iff_eq.mpr c7
     clear c7
     by_cases c8 : t247 = 0
     ·rw [if_pos c8] at H
      exact absurd H (by simp)
     ·rw [if_neg c8] at H
      have c8b0 : (t247 == 0) = false := beq_eq_false_iff_ne.mpr c8
      have c8b1 : (t247 != 0) = true := bne_iff_ne.mpr c8
      obtain ⟨ji9, hji9⟩ : ∃ j_ : Int, (mn (wrap64 ((wrap64 ((wrap64 (Int.tdiv t249 t247)) + 1)) * t247)) a0) = j_ := ⟨_, rfl⟩
      replace H : (if (Int.tmod t249 t247) = 0 then (some (t249, 0, ji9, true, t250)) else (some (t249, 0, ji9, (t249 == a0), t250))) = some (r1, r2, r3, r4, r5) := by first | (rw [hji9] at H; exact H) | (simp only [hji9] at H ⊢; exact H)
      (try rw [hji9] at A3)
      (try rw [hji9] at A5)
      have hji9_ : (if a0 < (wrap64 ((wrap64 ((wrap64 (Int.tdiv t249 t247)) + 1)) * t247)) then a0 else (wrap64 ((wrap64 ((wrap64 (Int.tdiv t249 t247)) + 1)) * t247))) = ji9 := hji9
      by_cases c10 : (Int.tmod t249 t247) = 0
      ·rw [if_pos c10] at H
       have c10b0 : ((Int.tmod t249 t247) == 0) = true := beq_iff_eq.mpr c10
       have c10b1 : ((Int.tmod t249 t247) != 0) = false := bne_eq_false_iff_eq.mpr c10
       clear c10
       simp only [some.injEq, Prod.mk.injEq] at H
       obtain ⟨rfl, rfl, rfl, rfl, rfl⟩ := H
       go_enter func43, ntmps43
       go_wp2_with (first | ((with_reducible refine gate_dst (N := 3) rfl ?_); refine box_event ?hg (N := 3) ?hd (cs := #[.int .u64 a1_0, .int .u64 a1_1]) (t := 25) ?hr ?_; (case hd => rfl); (case hg => rfl); (case hr => first | (go_simp; done) | (go_simp; rfl)); intro gb246 hg w11 hbox hb; have n0_ := ak_ (bt_ (bl_ HB) hb); have n1_ := ak_ (hbox); have n2_ := ak_ ((gs_ hg HB)); have n3_ := ak_ ((gs_ hg HB)); clear HB; have HB := n0_; have BK246 := n1_; have GW246 := n2_; have GE246 := n3_; clear n0_ n1_ n2_ n3_; clear hb hbox hg) | (go_at_call 32; (with_reducible refine (sub_Step.calls k a0 t247 t248 _ A3.out).mono ?_); rintro e w' ⟨rfl, ⟨nd, rfl⟩⟩; (try first | exact ⟨rfl, _, World.drewN_drewN _ _ _⟩ | exact ⟨rfl, _, Eq.trans (World.drewN_drewN _ _ _) (congrArg (World.drewN _) (Nat.add_assoc _ _ _))⟩); have hcz12_0 : w11.cell? ⟨gb246, 0, none⟩ = some (.int .u64 a1_0) := (kc_ BK246.out 0).trans rfl; have hcz12_1 : w11.cell? ⟨gb246, 1, none⟩ = some (.int .u64 a1_1) := (kc_ BK246.out 1).trans rfl; have hfz12_0 := kf_ BK246.out 0; have hfz12_1 := kf_ BK246.out 1) | (go_at_call 74; (with_reducible refine (node_Depth.calls k a0 a1_0 t249 t250 _ A5.out).mono ?_); rintro e w' ⟨rfl, ⟨nd, rfl⟩⟩; (try first | exact ⟨rfl, _, World.drewN_drewN _ _ _⟩ | exact ⟨rfl, _, Eq.trans (World.drewN_drewN _ _ _) (congrArg (World.drewN _) (Nat.add_assoc _ _ _))⟩)))
       repeat (go_quiet (first | ((with_reducible refine gate_dst (N := 3) rfl ?_); refine box_event ?hg (N := 3) ?hd (cs := #[.int .u64 a1_0, .int .u64 a1_1]) (t := 25) ?hr ?_; (case hd => rfl); (case hg => rfl); (case hr => first | (go_simp; done) | (go_simp; rfl)); intro gb246 hg w11 hbox hb; have n0_ := ak_ (bt_ (bl_ HB) hb); have n1_ := ak_ (hbox); have n2_ := ak_ ((gs_ hg HB)); have n3_ := ak_ ((gs_ hg HB)); clear HB; have HB := n0_; have BK246 := n1_; have GW246 := n2_; have GE246 := n3_; clear n0_ n1_ n2_ n3_; clear hb hbox hg) | (go_at_call 32; (with_reducible refine (sub_Step.calls k a0 t247 t248 _ A3.out).mono ?_); rintro e w' ⟨rfl, ⟨nd, rfl⟩⟩; (try first | exact ⟨rfl, _, World.drewN_drewN _ _ _⟩ | exact ⟨rfl, _, Eq.trans (World.drewN_drewN _ _ _) (congrArg (World.drewN _) (Nat.add_assoc _ _ _))⟩); have hcz12_0 : w11.cell? ⟨gb246, 0, none⟩ = some (.int .u64 a1_0) := (kc_ BK246.out 0).trans rfl; have hcz12_1 : w11.cell? ⟨gb246, 1, none⟩ = some (.int .u64 a1_1) := (kc_ BK246.out 1).trans rfl; have hfz12_0 := kf_ BK246.out 0; have hfz12_1 := kf_ BK246.out 1) | (go_at_call 74; (with_reducible refine (node_Depth.calls k a0 a1_0 t249 t250 _ A5.out).mono ?_); rintro e w' ⟨rfl, ⟨nd, rfl⟩⟩; (try first | exact ⟨rfl, _, World.drewN_drewN _ _ _⟩ | exact ⟨rfl, _, Eq.trans (World.drewN_drewN _ _ _) (congrArg (World.drewN _) (Nat.add_assoc _ _ _))⟩))); try go_wp2_with (first | ((with_reducible refine gate_dst (N := 3) rfl ?_); refine box_event ?hg (N := 3) ?hd (cs := #[.int .u64 a1_0, .int .u64 a1_1]) (t := 25) ?hr ?_; (case hd => rfl); (case hg => rfl); (case hr => first | (go_simp; done) | (go_simp; rfl)); intro gb246 hg w11 hbox hb; have n0_ := ak_ (bt_ (bl_ HB) hb); have n1_ := ak_ (hbox); have n2_ := ak_ ((gs_ hg HB)); have n3_ := ak_ ((gs_ hg HB)); clear HB; have HB := n0_; have BK246 := n1_; have GW246 := n2_; have GE246 := n3_; clear n0_ n1_ n2_ n3_; clear hb hbox hg) | (go_at_call 32; (with_reducible refine (sub_Step.calls k a0 t247 t248 _ A3.out).mono ?_); rintro e w' ⟨rfl, ⟨nd, rfl⟩⟩; (try first | exact ⟨rfl, _, World.drewN_drewN _ _ _⟩ | exact ⟨rfl, _, Eq.trans (World.drewN_drewN _ _ _) (congrArg (World.drewN _) (Nat.add_assoc _ _ _))⟩); have hcz12_0 : w11.cell? ⟨gb246, 0, none⟩ = some (.int .u64 a1_0) := (kc_ BK246.out 0).trans rfl; have hcz12_1 : w11.cell? ⟨gb246, 1, none⟩ = some (.int .u64 a1_1) := (kc_ BK246.out 1).trans rfl; have hfz12_0 := kf_ BK246.out 0; have hfz12_1 := kf_ BK246.out 1) | (go_at_call 74; (with_reducible refine (node_Depth.calls k a0 a1_0 t249 t250 _ A5.out).mono ?_); rintro e w' ⟨rfl, ⟨nd, rfl⟩⟩; (try first | exact ⟨rfl, _, World.drewN_drewN _ _ _⟩ | exact ⟨rfl, _, Eq.trans (World.drewN_drewN _ _ _) (congrArg (World.drewN _) (Nat.add_assoc _ _ _))⟩))))
       refine bodyPost_ret (results_list (rs := [.tmp 4, .tmp 5, .tmp 6, .tmp 7, .tmp 8]) rfl (by simp) (.tmp (.tmp (.tmp (.tmp (.tmp .nil)))))) rfl ?_
       exact ⟨by first | rfl | (simp <;> rfl) | (simp only [← hji9]; first | rfl | (simp <;> rfl)) | (simp [*] <;> rfl), by repeat (first | (with_reducible first | exact HB.out | apply ba_ | apply bn_ | apply bd_ | refine below_set ?_ GE246.out) | exact HB.out)⟩
      ·rw [if_neg c10] at H
       have c10b0 : ((Int.tmod t249 t247) == 0) = false := beq_eq_false_iff_ne.mpr c10
       have c10b1 : ((Int.tmod t249 t247) != 0) = true := bne_iff_ne.mpr c10
       simp only [some.injEq, Prod.mk.injEq] at H
       obtain ⟨rfl, rfl, rfl, rfl, rfl⟩ := H
       go_enter func43, ntmps43
       go_wp2_with (first | ((with_reducible refine gate_dst (N := 3) rfl ?_); refine box_event ?hg (N := 3) ?hd (cs := #[.int .u64 a1_0, .int .u64 a1_1]) (t := 25) ?hr ?_; (case hd => rfl); (case hg => rfl); (case hr => first | (go_simp; done) | (go_simp; rfl)); intro gb246 hg w13 hbox hb; have n0_ := ak_ (bt_ (bl_ HB) hb); have n1_ := ak_ (hbox); have n2_ := ak_ ((gs_ hg HB)); have n3_ := ak_ ((gs_ hg HB)); clear HB; have HB := n0_; have BK246 := n1_; have GW246 := n2_; have GE246 := n3_; clear n0_ n1_ n2_ n3_; clear hb hbox hg) | (go_at_call 32; (with_reducible refine (sub_Step.calls k a0 t247 t248 _ A3.out).mono ?_); rintro e w' ⟨rfl, ⟨nd, rfl⟩⟩; (try first | exact ⟨rfl, _, World.drewN_drewN _ _ _⟩ | exact ⟨rfl, _, Eq.trans (World.drewN_drewN _ _ _) (congrArg (World.drewN _) (Nat.add_assoc _ _ _))⟩); have hcz14_0 : w13.cell? ⟨gb246, 0, none⟩ = some (.int .u64 a1_0) := (kc_ BK246.out 0).trans rfl; have hcz14_1 : w13.cell? ⟨gb246, 1, none⟩ = some (.int .u64 a1_1) := (kc_ BK246.out 1).trans rfl; have hfz14_0 := kf_ BK246.out 0; have hfz14_1 := kf_ BK246.out 1) | (go_at_call 74; (with_reducible refine (node_Depth.calls k a0 a1_0 t249 t250 _ A5.out).mono ?_); rintro e w' ⟨rfl, ⟨nd, rfl⟩⟩; (try first | exact ⟨rfl, _, World.drewN_drewN _ _ _⟩ | exact ⟨rfl, _, Eq.trans (World.drewN_drewN _ _ _) (congrArg (World.drewN _) (Nat.add_assoc _ _ _))⟩)))
       repeat (go_quiet (first | ((with_reducible refine gate_dst (N := 3) rfl ?_); refine box_event ?hg (N := 3) ?hd (cs := #[.int .u64 a1_0, .int .u64 a1_1]) (t := 25) ?hr ?_; (case hd => rfl); (case hg => rfl); (case hr => first | (go_simp; done) | (go_simp; rfl)); intro gb246 hg w13 hbox hb; have n0_ := ak_ (bt_ (bl_ HB) hb); have n1_ := ak_ (hbox); have n2_ := ak_ ((gs_ hg HB)); have n3_ := ak_ ((gs_ hg HB)); clear HB; have HB := n0_; have BK246 := n1_; have GW246 := n2_; have GE246 := n3_; clear n0_ n1_ n2_ n3_; clear hb hbox hg) | (go_at_call 32; (with_reducible refine (sub_Step.calls k a0 t247 t248 _ A3.out).mono ?_); rintro e w' ⟨rfl, ⟨nd, rfl⟩⟩; (try first | exact ⟨rfl, _, World.drewN_drewN _ _ _⟩ | exact ⟨rfl, _, Eq.trans (World.drewN_drewN _ _ _) (congrArg (World.drewN _) (Nat.add_assoc _ _ _))⟩); have hcz14_0 : w13.cell? ⟨gb246, 0, none⟩ = some (.int .u64 a1_0) := (kc_ BK246.out 0).trans rfl; have hcz14_1 : w13.cell? ⟨gb246, 1, none⟩ = some (.int .u64 a1_1) := (kc_ BK246.out 1).trans rfl; have hfz14_0 := kf_ BK246.out 0; have hfz14_1 := kf_ BK246.out 1) | (go_at_call 74; (with_reducible refine (node_Depth.calls k a0 a1_0 t249 t250 _ A5.out).mono ?_); rintro e w' ⟨rfl, ⟨nd, rfl⟩⟩; (try first | exact ⟨rfl, _, World.drewN_drewN _ _ _⟩ | exact ⟨rfl, _, Eq.trans (World.drewN_drewN _ _ _) (congrArg (World.drewN _) (Nat.add_assoc _ _ _))⟩))); try go_wp2_with (first | ((with_reducible refine gate_dst (N := 3) rfl ?_); refine box_event ?hg (N := 3) ?hd (cs := #[.int .u64 a1_0, .int .u64 a1_1]) (t := 25) ?hr ?_; (case hd => rfl); (case hg => rfl); (case hr => first | (go_simp; done) | (go_simp; rfl)); intro gb246 hg w13 hbox hb; have n0_ := ak_ (bt_ (bl_ HB) hb); have n1_ := ak_ (hbox); have n2_ := ak_ ((gs_ hg HB)); have n3_ := ak_ ((gs_ hg HB)); clear HB; have HB := n0_; have BK246 := n1_; have GW246 := n2_; have GE246 := n3_; clear n0_ n1_ n2_ n3_; clear hb hbox hg) | (go_at_call 32; (with_reducible refine (sub_Step.calls k a0 t247 t248 _ A3.out).mono ?_); rintro e w' ⟨rfl, ⟨nd, rfl⟩⟩; (try first | exact ⟨rfl, _, World.drewN_drewN _ _ _⟩ | exact ⟨rfl, _, Eq.trans (World.drewN_drewN _ _ _) (congrArg (World.drewN _) (Nat.add_assoc _ _ _))⟩); have hcz14_0 : w13.cell? ⟨gb246, 0, none⟩ = some (.int .u64 a1_0) := (kc_ BK246.out 0).trans rfl; have hcz14_1 : w13.cell? ⟨gb246, 1, none⟩ = some (.int .u64 a1_1) := (kc_ BK246.out 1).trans rfl; have hfz14_0 := kf_ BK246.out 0; have hfz14_1 := kf_ BK246.out 1) | (go_at_call 74; (with_reducible refine (node_Depth.calls k a0 a1_0 t249 t250 _ A5.out).mono ?_); rintro e w' ⟨rfl, ⟨nd, rfl⟩⟩; (try first | exact ⟨rfl, _, World.drewN_drewN _ _ _⟩ | exact ⟨rfl, _, Eq.trans (World.drewN_drewN _ _ _) (congrArg (World.drewN _) (Nat.add_assoc _ _ _))⟩))))
       refine bodyPost_ret (results_list (rs := [.tmp 4, .tmp 5, .tmp 6, .tmp 7, .tmp 8]) rfl (by simp) (.tmp (.tmp (.tmp (.tmp (.tmp .nil)))))) rfl ?_
       exact ⟨by first | rfl | (simp <;> rfl) | (simp only [← hji9]; first | rfl | (simp <;> rfl)) | (simp [*] <;> rfl), by repeat (first | (with_reducible first | exact HB.out | apply ba_ | apply bn_ | apply bd_ | refine below_set ?_ GE246.out) | exact HB.out)⟩
    ·rw [if_neg c7] at H
     have c7b0 : (a1_1 == 0) = false := beq_eq_false_iff_ne.mpr c7
     have c7b1 : (a1_1 != 0) = true := bne_iff_ne.mpr c7
     replace H := bind_eq_some_iff.mp H
     obtain ⟨⟨t251, t252⟩, A150, H⟩ := H
     replace H : (if t247 = 0 then (none) else (if (Int.tmod t249 t247) = 0 then (some (t249, t251, mn (wrap64 ((wrap64 ((wrap64 (Int.tdiv t249 t247)) + 1)) * t247)) a0, true, t252)) else (some (t249, t251, mn (wrap64 ((wrap64 ((wrap64 (Int.tdiv t249 t247)) + 1)) * t247)) a0, (t249 == a0), t252)))) = some (r1, r2, r3, r4, r5) := H
     have A15 := ak_ A150
     clear A150
     by_cases c16 : t247 = 0
     ·rw [if_pos c16] at H
      exact absurd H (by simp)
     ·rw [if_neg c16] at H
      have c16b0 : (t247 == 0) = false := beq_eq_false_iff_ne.mpr c16
      have c16b1 : (t247 != 0) = true := bne_iff_ne.mpr c16
      obtain ⟨ji17, hji17⟩ : ∃ j_ : Int, (mn (wrap64 ((wrap64 ((wrap64 (Int.tdiv t249 t247)) + 1)) * t247)) a0) = j_ := ⟨_, rfl⟩
      replace H : (if (Int.tmod t249 t247) = 0 then (some (t249, t251, ji17, true, t252)) else (some (t249, t251, ji17, (t249 == a0), t252))) = some (r1, r2, r3, r4, r5) := by first | (rw [hji17] at H; exact H) | (simp only [hji17] at H ⊢; exact H)
      (try rw [hji17] at A3)
      (try rw [hji17] at A5)
      (try rw [hji17] at A15)
      have hji17_ : (if a0 < (wrap64 ((wrap64 ((wrap64 (Int.tdiv t249 t247)) + 1)) * t247)) then a0 else (wrap64 ((wrap64 ((wrap64 (Int.tdiv t249 t247)) + 1)) * t247))) = ji17 := hji17
      by_cases c18 : (Int.tmod t249 t247) = 0
      ·rw [if_pos c18] at H
       have c18b0 : ((Int.tmod t249 t247) == 0) = true := beq_iff_eq.mpr c18
       have c18b1 : ((Int.tmod t249 t247) != 0) = false := bne_eq_false_iff_eq.mpr c18
       clear c18
       simp only [some.injEq, Prod.mk.injEq] at H
       obtain ⟨rfl, rfl, rfl, rfl, rfl⟩ := H
       go_enter func43, ntmps43
       go_wp2_with (first | ((with_reducible refine gate_dst (N := 3) rfl ?_); refine box_event ?hg (N := 3) ?hd (cs := #[.int .u64 a1_0, .int .u64 a1_1]) (t := 25) ?hr ?_; (case hd => rfl); (case hg => rfl); (case hr => first | (go_simp; done) | (go_simp; rfl)); intro gb246 hg w19 hbox hb; have n0_ := ak_ (bt_ (bl_ HB) hb); have n1_ := ak_ (hbox); have n2_ := ak_ ((gs_ hg HB)); have n3_ := ak_ ((gs_ hg HB)); clear HB; have HB := n0_; have BK246 := n1_; have GW246 := n2_; have GE246 := n3_; clear n0_ n1_ n2_ n3_; clear hb hbox hg) | (go_at_call 32; (with_reducible refine (sub_Step.calls k a0 t247 t248 _ A3.out).mono ?_); rintro e w' ⟨rfl, ⟨nd, rfl⟩⟩; (try first | exact ⟨rfl, _, World.drewN_drewN _ _ _⟩ | exact ⟨rfl, _, Eq.trans (World.drewN_drewN _ _ _) (congrArg (World.drewN _) (Nat.add_assoc _ _ _))⟩); have hcz20_0 : w19.cell? ⟨gb246, 0, none⟩ = some (.int .u64 a1_0) := (kc_ BK246.out 0).trans rfl; have hcz20_1 : w19.cell? ⟨gb246, 1, none⟩ = some (.int .u64 a1_1) := (kc_ BK246.out 1).trans rfl; have hfz20_0 := kf_ BK246.out 0; have hfz20_1 := kf_ BK246.out 1) | (go_at_call 74; (with_reducible refine (node_Depth.calls k a0 a1_0 t249 t250 _ A5.out).mono ?_); rintro e w' ⟨rfl, ⟨nd, rfl⟩⟩; (try first | exact ⟨rfl, _, World.drewN_drewN _ _ _⟩ | exact ⟨rfl, _, Eq.trans (World.drewN_drewN _ _ _) (congrArg (World.drewN _) (Nat.add_assoc _ _ _))⟩)) | (go_at_call 74; (with_reducible refine (node_Depth.calls k a0 a1_1 t251 t252 _ A15.out).mono ?_); rintro e w' ⟨rfl, ⟨nd, rfl⟩⟩; (try first | exact ⟨rfl, _, World.drewN_drewN _ _ _⟩ | exact ⟨rfl, _, Eq.trans (World.drewN_drewN _ _ _) (congrArg (World.drewN _) (Nat.add_assoc _ _ _))⟩)))
       repeat (go_quiet (first | ((with_reducible refine gate_dst (N := 3) rfl ?_); refine box_event ?hg (N := 3) ?hd (cs := #[.int .u64 a1_0, .int .u64 a1_1]) (t := 25) ?hr ?_; (case hd => rfl); (case hg => rfl); (case hr => first | (go_simp; done) | (go_simp; rfl)); intro gb246 hg w19 hbox hb; have n0_ := ak_ (bt_ (bl_ HB) hb); have n1_ := ak_ (hbox); have n2_ := ak_ ((gs_ hg HB)); have n3_ := ak_ ((gs_ hg HB)); clear HB; have HB := n0_; have BK246 := n1_; have GW246 := n2_; have GE246 := n3_; clear n0_ n1_ n2_ n3_; clear hb hbox hg) | (go_at_call 32; (with_reducible refine (sub_Step.calls k a0 t247 t248 _ A3.out).mono ?_); rintro e w' ⟨rfl, ⟨nd, rfl⟩⟩; (try first | exact ⟨rfl, _, World.drewN_drewN _ _ _⟩ | exact ⟨rfl, _, Eq.trans (World.drewN_drewN _ _ _) (congrArg (World.drewN _) (Nat.add_assoc _ _ _))⟩); have hcz20_0 : w19.cell? ⟨gb246, 0, none⟩ = some (.int .u64 a1_0) := (kc_ BK246.out 0).trans rfl; have hcz20_1 : w19.cell? ⟨gb246, 1, none⟩ = some (.int .u64 a1_1) := (kc_ BK246.out 1).trans rfl; have hfz20_0 := kf_ BK246.out 0; have hfz20_1 := kf_ BK246.out 1) | (go_at_call 74; (with_reducible refine (node_Depth.calls k a0 a1_0 t249 t250 _ A5.out).mono ?_); rintro e w' ⟨rfl, ⟨nd, rfl⟩⟩; (try first | exact ⟨rfl, _, World.drewN_drewN _ _ _⟩ | exact ⟨rfl, _, Eq.trans (World.drewN_drewN _ _ _) (congrArg (World.drewN _) (Nat.add_assoc _ _ _))⟩)) | (go_at_call 74; (with_reducible refine (node_Depth.calls k a0 a1_1 t251 t252 _ A15.out).mono ?_); rintro e w' ⟨rfl, ⟨nd, rfl⟩⟩; (try first | exact ⟨rfl, _, World.drewN_drewN _ _ _⟩ | exact ⟨rfl, _, Eq.trans (World.drewN_drewN _ _ _) (congrArg (World.drewN _) (Nat.add_assoc _ _ _))⟩))); try go_wp2_with (first | ((with_reducible refine gate_dst (N := 3) rfl ?_); refine box_event ?hg (N := 3) ?hd (cs := #[.int .u64 a1_0, .int .u64 a1_1]) (t := 25) ?hr ?_; (case hd => rfl); (case hg => rfl); (case hr => first | (go_simp; done) | (go_simp; rfl)); intro gb246 hg w19 hbox hb; have n0_ := ak_ (bt_ (bl_ HB) hb); have n1_ := ak_ (hbox); have n2_ := ak_ ((gs_ hg HB)); have n3_ := ak_ ((gs_ hg HB)); clear HB; have HB := n0_; have BK246 := n1_; have GW246 := n2_; have GE246 := n3_; clear n0_ n1_ n2_ n3_; clear hb hbox hg) | (go_at_call 32; (with_reducible refine (sub_Step.calls k a0 t247 t248 _ A3.out).mono ?_); rintro e w' ⟨rfl, ⟨nd, rfl⟩⟩; (try first | exact ⟨rfl, _, World.drewN_drewN _ _ _⟩ | exact ⟨rfl, _, Eq.trans (World.drewN_drewN _ _ _) (congrArg (World.drewN _) (Nat.add_assoc _ _ _))⟩); have hcz20_0 : w19.cell? ⟨gb246, 0, none⟩ = some (.int .u64 a1_0) := (kc_ BK246.out 0).trans rfl; have hcz20_1 : w19.cell? ⟨gb246, 1, none⟩ = some (.int .u64 a1_1) := (kc_ BK246.out 1).trans rfl; have hfz20_0 := kf_ BK246.out 0; have hfz20_1 := kf_ BK246.out 1) | (go_at_call 74; (with_reducible refine (node_Depth.calls k a0 a1_0 t249 t250 _ A5.out).mono ?_); rintro e w' ⟨rfl, ⟨nd, rfl⟩⟩; (try first | exact ⟨rfl, _, World.drewN_drewN _ _ _⟩ | exact ⟨rfl, _, Eq.trans (World.drewN_drewN _ _ _) (congrArg (World.drewN _) (Nat.add_assoc _ _ _))⟩)) | (go_at_call 74; (with_reducible refine (node_Depth.calls k a0 a1_1 t251 t252 _ A15.out).mono ?_); rintro e w' ⟨rfl, ⟨nd, rfl⟩⟩; (try first | exact ⟨rfl, _, World.drewN_drewN _ _ _⟩ | exact ⟨rfl, _, Eq.trans (World.drewN_drewN _ _ _) (congrArg (World.drewN _) (Nat.add_assoc _ _ _))⟩))))
       refine bodyPost_ret (results_list (rs := [.tmp 4, .tmp 5, .tmp 6, .tmp 7, .tmp 8]) rfl (by simp) (.tmp (.tmp (.tmp (.tmp (.tmp .nil)))))) rfl ?_
       exact ⟨by first | rfl | (simp <;> rfl) | (simp only [← hji17]; first | rfl | (simp <;> rfl)) | (simp [*] <;> rfl), by repeat (first | (with_reducible first | exact HB.out | apply ba_ | apply bn_ | apply bd_ | refine below_set ?_ GE246.out) | exact HB.out)⟩
      ·rw [if_neg c18] at H
       have c18b0 : ((Int.tmod t249 t247) == 0) = false := beq_eq_false_iff_ne.mpr c18
       have c18b1 : ((Int.tmod t249 t247) != 0) = true := bne_iff_ne.mpr c18
       simp only [some.injEq, Prod.mk.injEq] at H
       obtain ⟨rfl, rfl, rfl, rfl, rfl⟩ := H
       go_enter func43, ntmps43
       go_wp2_with (first | ((with_reducible refine gate_dst (N := 3) rfl ?_); refine box_event ?hg (N := 3) ?hd (cs := #[.int .u64 a1_0, .int .u64 a1_1]) (t := 25) ?hr ?_; (case hd => rfl); (case hg => rfl); (case hr => first | (go_simp; done) | (go_simp; rfl)); intro gb246 hg w21 hbox hb; have n0_ := ak_ (bt_ (bl_ HB) hb); have n1_ := ak_ (hbox); have n2_ := ak_ ((gs_ hg HB)); have n3_ := ak_ ((gs_ hg HB)); clear HB; have HB := n0_; have BK246 := n1_; have GW246 := n2_; have GE246 := n3_; clear n0_ n1_ n2_ n3_; clear hb hbox hg) | (go_at_call 32; (with_reducible refine (sub_Step.calls k a0 t247 t248 _ A3.out).mono ?_); rintro e w' ⟨rfl, ⟨nd, rfl⟩⟩; (try first | exact ⟨rfl, _, World.drewN_drewN _ _ _⟩ | exact ⟨rfl, _, Eq.trans (World.drewN_drewN _ _ _) (congrArg (World.drewN _) (Nat.add_assoc _ _ _))⟩); have hcz22_0 : w21.cell? ⟨gb246, 0, none⟩ = some (.int .u64 a1_0) := (kc_ BK246.out 0).trans rfl; have hcz22_1 : w21.cell? ⟨gb246, 1, none⟩ = some (.int .u64 a1_1) := (kc_ BK246.out 1).trans rfl; have hfz22_0 := kf_ BK246.out 0; have hfz22_1 := kf_ BK246.out 1) | (go_at_call 74; (with_reducible refine (node_Depth.calls k a0 a1_0 t249 t250 _ A5.out).mono ?_); rintro e w' ⟨rfl, ⟨nd, rfl⟩⟩; (try first | exact ⟨rfl, _, World.drewN_drewN _ _ _⟩ | exact ⟨rfl, _, Eq.trans (World.drewN_drewN _ _ _) (congrArg (World.drewN _) (Nat.add_assoc _ _ _))⟩)) | (go_at_call 74; (with_reducible refine (node_Depth.calls k a0 a1_1 t251 t252 _ A15.out).mono ?_); rintro e w' ⟨rfl, ⟨nd, rfl⟩⟩; (try first | exact ⟨rfl, _, World.drewN_drewN _ _ _⟩ | exact ⟨rfl, _, Eq.trans (World.drewN_drewN _ _ _) (congrArg (World.drewN _) (Nat.add_assoc _ _ _))⟩)))
       repeat (go_quiet (first | ((with_reducible refine gate_dst (N := 3) rfl ?_); refine box_event ?hg (N := 3) ?hd (cs := #[.int .u64 a1_0, .int .u64 a1_1]) (t := 25) ?hr ?_; (case hd => rfl); (case hg => rfl); (case hr => first | (go_simp; done) | (go_simp; rfl)); intro gb246 hg w21 hbox hb; have n0_ := ak_ (bt_ (bl_ HB) hb); have n1_ := ak_ (hbox); have n2_ := ak_ ((gs_ hg HB)); have n3_ := ak_ ((gs_ hg HB)); clear HB; have HB := n0_; have BK246 := n1_; have GW246 := n2_; have GE246 := n3_; clear n0_ n1_ n2_ n3_; clear hb hbox hg) | (go_at_call 32; (with_reducible refine (sub_Step.calls k a0 t247 t248 _ A3.out).mono ?_); rintro e w' ⟨rfl, ⟨nd, rfl⟩⟩; (try first | exact ⟨rfl, _, World.drewN_drewN _ _ _⟩ | exact ⟨rfl, _, Eq.trans (World.drewN_drewN _ _ _) (congrArg (World.drewN _) (Nat.add_assoc _ _ _))⟩); have hcz22_0 : w21.cell? ⟨gb246, 0, none⟩ = some (.int .u64 a1_0) := (kc_ BK246.out 0).trans rfl; have hcz22_1 : w21.cell? ⟨gb246, 1, none⟩ = some (.int .u64 a1_1) := (kc_ BK246.out 1).trans rfl; have hfz22_0 := kf_ BK246.out 0; have hfz22_1 := kf_ BK246.out 1) | (go_at_call 74; (with_reducible refine (node_Depth.calls k a0 a1_0 t249 t250 _ A5.out).mono ?_); rintro e w' ⟨rfl, ⟨nd, rfl⟩⟩; (try first | exact ⟨rfl, _, World.drewN_drewN _ _ _⟩ | exact ⟨rfl, _, Eq.trans (World.drewN_drewN _ _ _) (congrArg (World.drewN _) (Nat.add_assoc _ _ _))⟩)) | (go_at_call 74; (with_reducible refine (node_Depth.calls k a0 a1_1 t251 t252 _ A15.out).mono ?_); rintro e w' ⟨rfl, ⟨nd, rfl⟩⟩; (try first | exact ⟨rfl, _, World.drewN_drewN _ _ _⟩ | exact ⟨rfl, _, Eq.trans (World.drewN_drewN _ _ _) (congrArg (World.drewN _) (Nat.add_assoc _ _ _))⟩))); try go_wp2_with (first | ((with_reducible refine gate_dst (N := 3) rfl ?_); refine box_event ?hg (N := 3) ?hd (cs := #[.int .u64 a1_0, .int .u64 a1_1]) (t := 25) ?hr ?_; (case hd => rfl); (case hg => rfl); (case hr => first | (go_simp; done) | (go_simp; rfl)); intro gb246 hg w21 hbox hb; have n0_ := ak_ (bt_ (bl_ HB) hb); have n1_ := ak_ (hbox); have n2_ := ak_ ((gs_ hg HB)); have n3_ := ak_ ((gs_ hg HB)); clear HB; have HB := n0_; have BK246 := n1_; have GW246 := n2_; have GE246 := n3_; clear n0_ n1_ n2_ n3_; clear hb hbox hg) | (go_at_call 32; (with_reducible refine (sub_Step.calls k a0 t247 t248 _ A3.out).mono ?_); rintro e w' ⟨rfl, ⟨nd, rfl⟩⟩; (try first | exact ⟨rfl, _, World.drewN_drewN _ _ _⟩ | exact ⟨rfl, _, Eq.trans (World.drewN_drewN _ _ _) (congrArg (World.drewN _) (Nat.add_assoc _ _ _))⟩); have hcz22_0 : w21.cell? ⟨gb246, 0, none⟩ = some (.int .u64 a1_0) := (kc_ BK246.out 0).trans rfl; have hcz22_1 : w21.cell? ⟨gb246, 1, none⟩ = some (.int .u64 a1_1) := (kc_ BK246.out 1).trans rfl; have hfz22_0 := kf_ BK246.out 0; have hfz22_1 := kf_ BK246.out 1) | (go_at_call 74; (with_reducible refine (node_Depth.calls k a0 a1_0 t249 t250 _ A5.out).mono ?_); rintro e w' ⟨rfl, ⟨nd, rfl⟩⟩; (try first | exact ⟨rfl, _, World.drewN_drewN _ _ _⟩ | exact ⟨rfl, _, Eq.trans (World.drewN_drewN _ _ _) (congrArg (World.drewN _) (Nat.add_assoc _ _ _))⟩)) | (go_at_call 74; (with_reducible refine (node_Depth.calls k a0 a1_1 t251 t252 _ A15.out).mono ?_); rintro e w' ⟨rfl, ⟨nd, rfl⟩⟩; (try first | exact ⟨rfl, _, World.drewN_drewN _ _ _⟩ | exact ⟨rfl, _, Eq.trans (World.drewN_drewN _ _ _) (congrArg (World.drewN _) (Nat.add_assoc _ _ _))⟩))))
       refine bodyPost_ret (results_list (rs := [.tmp 4, .tmp 5, .tmp 6, .tmp 7, .tmp 8]) rfl (by simp) (.tmp (.tmp (.tmp (.tmp (.tmp .nil)))))) rfl ?_
       exact ⟨by first | rfl | (simp <;> rfl) | (simp only [← hji17]; first | rfl | (simp <;> rfl)) | (simp [*] <;> rfl), by repeat (first | (with_reducible first | exact HB.out | apply ba_ | apply bn_ | apply bd_ | refine below_set ?_ GE246.out) | exact HB.out)⟩
   ·rw [if_neg c6] at H
    have c6b0 : (t250 == 0) = false := beq_eq_false_iff_ne.mpr c6
    have c6b1 : (t250 != 0) = true := bne_iff_ne.mpr c6
    by_cases c23 : t247 = 0
    ·rw [if_pos c23] at H
     exact absurd H (by simp)
    ·rw [if_neg c23] at H
     have c23b0 : (t247 == 0) = false := beq_eq_false_iff_ne.mpr c23
     have c23b1 : (t247 != 0) = true := bne_iff_ne.mpr c23
     obtain ⟨ji24, hji24⟩ : ∃ j_ : Int, (mn (wrap64 ((wrap64 ((wrap64 (Int.tdiv t249 t247)) + 1)) * t247)) a0) = j_ := ⟨_, rfl⟩
     replace H : (if (Int.tmod t249 t247) = 0 then (some (t249, 0, ji24, true, t250)) else (some (t249, 0, ji24, (t249 == a0), t250))) = some (r1, r2, r3, r4, r5) := by first | (rw [hji24] at H; exact H) | (simp only [hji24] at H ⊢; exact H)
     (try rw [hji24] at A3)
     (try rw [hji24] at A5)
     have hji24_ : (if a0 < (wrap64 ((wrap64 ((wrap64 (Int.tdiv t249 t247)) + 1)) * t247)) then a0 else (wrap64 ((wrap64 ((wrap64 (Int.tdiv t249 t247)) + 1)) * t247))) = ji24 := hji24
     by_cases c25 : (Int.tmod t249 t247) = 0
     ·rw [if_pos c25] at H
      have c25b0 : ((Int.tmod t249 t247) == 0) = true := beq_iff_eq.mpr c25
      have c25b1 : ((Int.tmod t249 t247) != 0) = false := bne_eq_false_iff_eq.mpr c25
      clear c25
      simp only [some.injEq, Prod.mk.injEq] at H
      obtain ⟨rfl, rfl, rfl, rfl, rfl⟩ := H
      go_enter func43, ntmps43
      go_wp2_with (first | ((with_reducible refine gate_dst (N := 3) rfl ?_); refine box_event ?hg (N := 3) ?hd (cs := #[.int .u64 a1_0, .int .u64 a1_1]) (t := 25) ?hr ?_; (case hd => rfl); (case hg => rfl); (case hr => first | (go_simp; done) | (go_simp; rfl)); intro gb246 hg w26 hbox hb; have n0_ := ak_ (bt_ (bl_ HB) hb); have n1_ := ak_ (hbox); have n2_ := ak_ ((gs_ hg HB)); have n3_ := ak_ ((gs_ hg HB)); clear HB; have HB := n0_; have BK246 := n1_; have GW246 := n2_; have GE246 := n3_; clear n0_ n1_ n2_ n3_; clear hb hbox hg) | (go_at_call 32; (with_reducible refine (sub_Step.calls k a0 t247 t248 _ A3.out).mono ?_); rintro e w' ⟨rfl, ⟨nd, rfl⟩⟩; (try first | exact ⟨rfl, _, World.drewN_drewN _ _ _⟩ | exact ⟨rfl, _, Eq.trans (World.drewN_drewN _ _ _) (congrArg (World.drewN _) (Nat.add_assoc _ _ _))⟩); have hcz27_0 : w26.cell? ⟨gb246, 0, none⟩ = some (.int .u64 a1_0) := (kc_ BK246.out 0).trans rfl; have hcz27_1 : w26.cell? ⟨gb246, 1, none⟩ = some (.int .u64 a1_1) := (kc_ BK246.out 1).trans rfl; have hfz27_0 := kf_ BK246.out 0; have hfz27_1 := kf_ BK246.out 1) | (go_at_call 74; (with_reducible refine (node_Depth.calls k a0 a1_0 t249 t250 _ A5.out).mono ?_); rintro e w' ⟨rfl, ⟨nd, rfl⟩⟩; (try first | exact ⟨rfl, _, World.drewN_drewN _ _ _⟩ | exact ⟨rfl, _, Eq.trans (World.drewN_drewN _ _ _) (congrArg (World.drewN _) (Nat.add_assoc _ _ _))⟩)))
      repeat (go_quiet (first | ((with_reducible refine gate_dst (N := 3) rfl ?_); refine box_event ?hg (N := 3) ?hd (cs := #[.int .u64 a1_0, .int .u64 a1_1]) (t := 25) ?hr ?_; (case hd => rfl); (case hg => rfl); (case hr => first | (go_simp; done) | (go_simp; rfl)); intro gb246 hg w26 hbox hb; have n0_ := ak_ (bt_ (bl_ HB) hb); have n1_ := ak_ (hbox); have n2_ := ak_ ((gs_ hg HB)); have n3_ := ak_ ((gs_ hg HB)); clear HB; have HB := n0_; have BK246 := n1_; have GW246 := n2_; have GE246 := n3_; clear n0_ n1_ n2_ n3_; clear hb hbox hg) | (go_at_call 32; (with_reducible refine (sub_Step.calls k a0 t247 t248 _ A3.out).mono ?_); rintro e w' ⟨rfl, ⟨nd, rfl⟩⟩; (try first | exact ⟨rfl, _, World.drewN_drewN _ _ _⟩ | exact ⟨rfl, _, Eq.trans (World.drewN_drewN _ _ _) (congrArg (World.drewN _) (Nat.add_assoc _ _ _))⟩); have hcz27_0 : w26.cell? ⟨gb246, 0, none⟩ = some (.int .u64 a1_0) := (kc_ BK246.out 0).trans rfl; have hcz27_1 : w26.cell? ⟨gb246, 1, none⟩ = some (.int .u64 a1_1) := (kc_ BK246.out 1).trans rfl; have hfz27_0 := kf_ BK246.out 0; have hfz27_1 := kf_ BK246.out 1) | (go_at_call 74; (with_reducible refine (node_Depth.calls k a0 a1_0 t249 t250 _ A5.out).mono ?_); rintro e w' ⟨rfl, ⟨nd, rfl⟩⟩; (try first | exact ⟨rfl, _, World.drewN_drewN _ _ _⟩ | exact ⟨rfl, _, Eq.trans (World.drewN_drewN _ _ _) (congrArg (World.drewN _) (Nat.add_assoc _ _ _))⟩))); try go_wp2_with (first | ((with_reducible refine gate_dst (N := 3) rfl ?_); refine box_event ?hg (N := 3) ?hd (cs := #[.int .u64 a1_0, .int .u64 a1_1]) (t := 25) ?hr ?_; (case hd => rfl); (case hg => rfl); (case hr => first | (go_simp; done) | (go_simp; rfl)); intro gb246 hg w26 hbox hb; have n0_ := ak_ (bt_ (bl_ HB) hb); have n1_ := ak_ (hbox); have n2_ := ak_ ((gs_ hg HB)); have n3_ := ak_ ((gs_ hg HB)); clear HB; have HB := n0_; have BK246 := n1_; have GW246 := n2_; have GE246 := n3_; clear n0_ n1_ n2_ n3_; clear hb hbox hg) | (go_at_call 32; (with_reducible refine (sub_Step.calls k a0 t247 t248 _ A3.out).mono ?_); rintro e w' ⟨rfl, ⟨nd, rfl⟩⟩; (try first | exact ⟨rfl, _, World.drewN_drewN _ _ _⟩ | exact ⟨rfl, _, Eq.trans (World.drewN_drewN _ _ _) (congrArg (World.drewN _) (Nat.add_assoc _ _ _))⟩); have hcz27_0 : w26.cell? ⟨gb246, 0, none⟩ = some (.int .u64 a1_0) := (kc_ BK246.out 0).trans rfl; have hcz27_1 : w26.cell? ⟨gb246, 1, none⟩ = some (.int .u64 a1_1) := (kc_ BK246.out 1).trans rfl; have hfz27_0 := kf_ BK246.out 0; have hfz27_1 := kf_ BK246.out 1) | (go_at_call 74; (with_reducible refine (node_Depth.calls k a0 a1_0 t249 t250 _ A5.out).mono ?_); rintro e w' ⟨rfl, ⟨nd, rfl⟩⟩; (try first | exact ⟨rfl, _, World.drewN_drewN _ _ _⟩ | exact ⟨rfl, _, Eq.trans (World.drewN_drewN _ _ _) (congrArg (World.drewN _) (Nat.add_assoc _ _ _))⟩))))
      refine bodyPost_ret (results_list (rs := [.tmp 4, .tmp 5, .tmp 6, .tmp 7, .tmp 8]) rfl (by simp) (.tmp (.tmp (.tmp (.tmp (.tmp .nil)))))) rfl ?_
      exact ⟨by first | rfl | (simp <;> rfl) | (simp only [← hji24]; first | rfl | (simp <;> rfl)) | (simp [*] <;> rfl), by repeat (first | (with_reducible first | exact HB.out | apply ba_ | apply bn_ | apply bd_ | refine below_set ?_ GE246.out) | exact HB.out)⟩
     ·rw [if_neg c25] at H
      have c25b0 : ((Int.tmod t249 t247) == 0) = false := beq_eq_false_iff_ne.mpr c25
      have c25b1 : ((Int.tmod t249 t247) != 0) = true := bne_iff_ne.mpr c25
      simp only [some.injEq, Prod.mk.injEq] at H
      obtain ⟨rfl, rfl, rfl, rfl, rfl⟩ := H
      go_enter func43, ntmps43
      go_wp2_with (first | ((with_reducible refine gate_dst (N := 3) rfl ?_); refine box_event ?hg (N := 3) ?hd (cs := #[.int .u64 a1_0, .int .u64 a1_1]) (t := 25) ?hr ?_; (case hd => rfl); (case hg => rfl); (case hr => first | (go_simp; done) | (go_simp; rfl)); intro gb246 hg w28 hbox hb; have n0_ := ak_ (bt_ (bl_ HB) hb); have n1_ := ak_ (hbox); have n2_ := ak_ ((gs_ hg HB)); have n3_ := ak_ ((gs_ hg HB)); clear HB; have HB := n0_; have BK246 := n1_; have GW246 := n2_; have GE246 := n3_; clear n0_ n1_ n2_ n3_; clear hb hbox hg) | (go_at_call 32; (with_reducible refine (sub_Step.calls k a0 t247 t248 _ A3.out).mono ?_); rintro e w' ⟨rfl, ⟨nd, rfl⟩⟩; (try first | exact ⟨rfl, _, World.drewN_drewN _ _ _⟩ | exact ⟨rfl, _, Eq.trans (World.drewN_drewN _ _ _) (congrArg (World.drewN _) (Nat.add_assoc _ _ _))⟩); have hcz29_0 : w28.cell? ⟨gb246, 0, none⟩ = some (.int .u64 a1_0) := (kc_ BK246.out 0).trans rfl; have hcz29_1 : w28.cell? ⟨gb246, 1, none⟩ = some (.int .u64 a1_1) := (kc_ BK246.out 1).trans rfl; have hfz29_0 := kf_ BK246.out 0; have hfz29_1 := kf_ BK246.out 1) | (go_at_call 74; (with_reducible refine (node_Depth.calls k a0 a1_0 t249 t250 _ A5.out).mono ?_); rintro e w' ⟨rfl, ⟨nd, rfl⟩⟩; (try first | exact ⟨rfl, _, World.drewN_drewN _ _ _⟩ | exact ⟨rfl, _, Eq.trans (World.drewN_drewN _ _ _) (congrArg (World.drewN _) (Nat.add_assoc _ _ _))⟩)))
      repeat (go_quiet (first | ((with_reducible refine gate_dst (N := 3) rfl ?_); refine box_event ?hg (N := 3) ?hd (cs := #[.int .u64 a1_0, .int .u64 a1_1]) (t := 25) ?hr ?_; (case hd => rfl); (case hg => rfl); (case hr => first | (go_simp; done) | (go_simp; rfl)); intro gb246 hg w28 hbox hb; have n0_ := ak_ (bt_ (bl_ HB) hb); have n1_ := ak_ (hbox); have n2_ := ak_ ((gs_ hg HB)); have n3_ := ak_ ((gs_ hg HB)); clear HB; have HB := n0_; have BK246 := n1_; have GW246 := n2_; have GE246 := n3_; clear n0_ n1_ n2_ n3_; clear hb hbox hg) | (go_at_call 32; (with_reducible refine (sub_Step.calls k a0 t247 t248 _ A3.out).mono ?_); rintro e w' ⟨rfl, ⟨nd, rfl⟩⟩; (try first | exact ⟨rfl, _, World.drewN_drewN _ _ _⟩ | exact ⟨rfl, _, Eq.trans (World.drewN_drewN _ _ _) (congrArg (World.drewN _) (Nat.add_assoc _ _ _))⟩); have hcz29_0 : w28.cell? ⟨gb246, 0, none⟩ = some (.int .u64 a1_0) := (kc_ BK246.out 0).trans rfl; have hcz29_1 : w28.cell? ⟨gb246, 1, none⟩ = some (.int .u64 a1_1) := (kc_ BK246.out 1).trans rfl; have hfz29_0 := kf_ BK246.out 0; have hfz29_1 := kf_ BK246.out 1) | (go_at_call 74; (with_reducible refine (node_Depth.calls k a0 a1_0 t249 t250 _ A5.out).mono ?_); rintro e w' ⟨rfl, ⟨nd, rfl⟩⟩; (try first | exact ⟨rfl, _, World.drewN_drewN _ _ _⟩ | exact ⟨rfl, _, Eq.trans (World.drewN_drewN _ _ _) (congrArg (World.drewN _) (Nat.add_assoc _ _ _))⟩))); try go_wp2_with (first | ((with_reducible refine gate_dst (N := 3) rfl ?_); refine box_event ?hg (N := 3) ?hd (cs := #[.int .u64 a1_0, .int .u64 a1_1]) (t := 25) ?hr ?_; (case hd => rfl); (case hg => rfl); (case hr => first | (go_simp; done) | (go_simp; rfl)); intro gb246 hg w28 hbox hb; have n0_ := ak_ (bt_ (bl_ HB) hb); have n1_ := ak_ (hbox); have n2_ := ak_ ((gs_ hg HB)); have n3_ := ak_ ((gs_ hg HB)); clear HB; have HB := n0_; have BK246 := n1_; have GW246 := n2_; have GE246 := n3_; clear n0_ n1_ n2_ n3_; clear hb hbox hg) | (go_at_call 32; (with_reducible refine (sub_Step.calls k a0 t247 t248 _ A3.out).mono ?_); rintro e w' ⟨rfl, ⟨nd, rfl⟩⟩; (try first | exact ⟨rfl, _, World.drewN_drewN _ _ _⟩ | exact ⟨rfl, _, Eq.trans (World.drewN_drewN _ _ _) (congrArg (World.drewN _) (Nat.add_assoc _ _ _))⟩); have hcz29_0 : w28.cell? ⟨gb246, 0, none⟩ = some (.int .u64 a1_0) := (kc_ BK246.out 0).trans rfl; have hcz29_1 : w28.cell? ⟨gb246, 1, none⟩ = some (.int .u64 a1_1) := (kc_ BK246.out 1).trans rfl; have hfz29_0 := kf_ BK246.out 0; have hfz29_1 := kf_ BK246.out 1) | (go_at_call 74; (with_reducible refine (node_Depth.calls k a0 a1_0 t249 t250 _ A5.out).mono ?_); rintro e w' ⟨rfl, ⟨nd, rfl⟩⟩; (try first | exact ⟨rfl, _, World.drewN_drewN _ _ _⟩ | exact ⟨rfl, _, Eq.trans (World.drewN_drewN _ _ _) (congrArg (World.drewN _) (Nat.add_assoc _ _ _))⟩))))
      refine bodyPost_ret (results_list (rs := [.tmp 4, .tmp 5, .tmp 6, .tmp 7, .tmp 8]) rfl (by simp) (.tmp (.tmp (.tmp (.tmp (.tmp .nil)))))) rfl ?_
      exact ⟨by first | rfl | (simp <;> rfl) | (simp only [← hji24]; first | rfl | (simp <;> rfl)) | (simp [*] <;> rfl), by repeat (first | (with_reducible first | exact HB.out | apply ba_ | apply bn_ | apply bd_ | refine below_set ?_ GE246.out) | exact HB.out)⟩
  ·rw [if_neg c4] at H
   have c4b0 : (t248 == 0) = false := beq_eq_false_iff_ne.mpr c4
   have c4b1 : (t248 != 0) = true := bne_iff_ne.mpr c4
   simp only [some.injEq, Prod.mk.injEq] at H
   obtain ⟨rfl, rfl, rfl, rfl, rfl⟩ := H
   go_enter func43, ntmps43
   go_wp2_with (first | ((with_reducible refine gate_dst (N := 3) rfl ?_); refine box_event ?hg (N := 3) ?hd (cs := #[.int .u64 a1_0, .int .u64 a1_1]) (t := 25) ?hr ?_; (case hd => rfl); (case hg => rfl); (case hr => first | (go_simp; done) | (go_simp; rfl)); intro gb246 hg w30 hbox hb; have n0_ := ak_ (bt_ (bl_ HB) hb); have n1_ := ak_ (hbox); have n2_ := ak_ ((gs_ hg HB)); have n3_ := ak_ ((gs_ hg HB)); clear HB; have HB := n0_; have BK246 := n1_; have GW246 := n2_; have GE246 := n3_; clear n0_ n1_ n2_ n3_; clear hb hbox hg) | (go_at_call 32; (with_reducible refine (sub_Step.calls k a0 t247 t248 _ A3.out).mono ?_); rintro e w' ⟨rfl, ⟨nd, rfl⟩⟩; (try first | exact ⟨rfl, _, World.drewN_drewN _ _ _⟩ | exact ⟨rfl, _, Eq.trans (World.drewN_drewN _ _ _) (congrArg (World.drewN _) (Nat.add_assoc _ _ _))⟩)))
   repeat (go_quiet (first | ((with_reducible refine gate_dst (N := 3) rfl ?_); refine box_event ?hg (N := 3) ?hd (cs := #[.int .u64 a1_0, .int .u64 a1_1]) (t := 25) ?hr ?_; (case hd => rfl); (case hg => rfl); (case hr => first | (go_simp; done) | (go_simp; rfl)); intro gb246 hg w30 hbox hb; have n0_ := ak_ (bt_ (bl_ HB) hb); have n1_ := ak_ (hbox); have n2_ := ak_ ((gs_ hg HB)); have n3_ := ak_ ((gs_ hg HB)); clear HB; have HB := n0_; have BK246 := n1_; have GW246 := n2_; have GE246 := n3_; clear n0_ n1_ n2_ n3_; clear hb hbox hg) | (go_at_call 32; (with_reducible refine (sub_Step.calls k a0 t247 t248 _ A3.out).mono ?_); rintro e w' ⟨rfl, ⟨nd, rfl⟩⟩; (try first | exact ⟨rfl, _, World.drewN_drewN _ _ _⟩ | exact ⟨rfl, _, Eq.trans (World.drewN_drewN _ _ _) (congrArg (World.drewN _) (Nat.add_assoc _ _ _))⟩))); try go_wp2_with (first | ((with_reducible refine gate_dst (N := 3) rfl ?_); refine box_event ?hg (N := 3) ?hd (cs := #[.int .u64 a1_0, .int .u64 a1_1]) (t := 25) ?hr ?_; (case hd => rfl); (case hg => rfl); (case hr => first | (go_simp; done) | (go_simp; rfl)); intro gb246 hg w30 hbox hb; have n0_ := ak_ (bt_ (bl_ HB) hb); have n1_ := ak_ (hbox); have n2_ := ak_ ((gs_ hg HB)); have n3_ := ak_ ((gs_ hg HB)); clear HB; have HB := n0_; have BK246 := n1_; have GW246 := n2_; have GE246 := n3_; clear n0_ n1_ n2_ n3_; clear hb hbox hg) | (go_at_call 32; (with_reducible refine (sub_Step.calls k a0 t247 t248 _ A3.out).mono ?_); rintro e w' ⟨rfl, ⟨nd, rfl⟩⟩; (try first | exact ⟨rfl, _, World.drewN_drewN _ _ _⟩ | exact ⟨rfl, _, Eq.trans (World.drewN_drewN _ _ _) (congrArg (World.drewN _) (Nat.add_assoc _ _ _))⟩))))
   refine bodyPost_ret (results_list (rs := [.tmp 4, .tmp 5, .tmp 6, .tmp 7, .tmp 8]) rfl (by simp) (.tmp (.tmp (.tmp (.tmp (.tmp .nil)))))) rfl ?_
   exact ⟨by first | rfl | (simp <;> rfl) | (simp [*] <;> rfl), by repeat (first | (with_reducible first | exact HB.out | apply ba_ | apply bn_ | apply bd_ | refine below_set ?_ GE246.out) | exact HB.out)⟩
def sub_Useful.f (k : Nat) (a0 : Int) (a1_0 : Int) (a1_1 : Int) : Option (Bool × Int) := (sub_Check.f k a0 a1_0 a1_1).bind fun t254 => (if t254 = 0 then (if a1_1 = 0 then (some ((a1_0 == 1), 0)) else ((sub_depths.f k a0 a1_0 a1_1).bind fun bt255 => (if bt255.2.2.2.2 = 0 then (if bt255.2.2.2.1 = true then (some (true, bt255.2.2.2.2)) else (some (decide (bt255.2.1 ≤ bt255.2.2.1), bt255.2.2.2.2))) else (some (false, bt255.2.2.2.2))))) else (some (false, t254)))
set_option maxHeartbeats 8000000 in
set_option maxRecDepth 100000 in
theorem sub_Useful.calls (k : Nat) (a0 : Int) (a1_0 : Int) (a1_1 : Int) (r1 : Bool) (r2 : Int) (w : World) (h : sub_Useful.f k a0 a1_0 a1_1 = some (r1, r2)) :
   Calls Tryz.prog 29 #[.int .i64 a0, .agg #[.int .u64 a1_0, .int .u64 a1_1]] w fun e w' => e = .returned (.tuple #[.bool r1, .int .i64 r2]) ∧ Below w.heap.size w w' := by
  have hu25 := underlying25
  have HB := ak_ (Below.refl w.heap.size w)
  have H : ((sub_Check.f k a0 a1_0 a1_1).bind fun t254 => (if t254 = 0 then (if a1_1 = 0 then (some ((a1_0 == 1), 0)) else ((sub_depths.f k a0 a1_0 a1_1).bind fun bt255 => (if bt255.2.2.2.2 = 0 then (if bt255.2.2.2.1 = true then (some (true, bt255.2.2.2.2)) else (some (decide (bt255.2.1 ≤ bt255.2.2.1), bt255.2.2.2.2))) else (some (false, bt255.2.2.2.2))))) else (some (false, t254)))) = some (r1, r2) := h
  clear h
  replace H := bind_eq_some_iff.mp H
  obtain ⟨t254, A30, H⟩ := H
  replace H : (if t254 = 0 then (if a1_1 = 0 then (some ((a1_0 == 1), 0)) else ((sub_depths.f k a0 a1_0 a1_1).bind fun bt255 => (if bt255.2.2.2.2 = 0 then (if bt255.2.2.2.1 = true then (some (true, bt255.2.2.2.2)) else (some (decide (bt255.2.1 ≤ bt255.2.2.1), bt255.2.2.2.2))) else (some (false, bt255.2.2.2.2))))) else (some (false, t254))) = some (r1, r2) := H
  have A3 := ak_ A30
  clear A30
  by_cases c4 : t254 = 0
  ·rw [if_pos c4] at H
   have c4b0 : (t254 == 0) = true := beq_iff_eq.mpr c4
   have c4b1 : (t254 != 0) = false := bne_eq_false_iff_eq.mpr c4
   clear c4
   by_cases c5 : a1_1 = 0
   ·rw [if_pos c5] at H
    have c5b0 : (a1_1 == 0) = true := beq_iff_eq.mpr c5
    have c5b1 : (a1_1 != 0) = false := bne_eq_false_iff_eq.mpr c5
    clear c5
    simp only [some.injEq, Prod.mk.injEq] at H
    obtain ⟨rfl, rfl⟩ := H
    go_enter func29, ntmps29
    go_wp2_with (first | ((with_reducible refine gate_dst (N := 3) rfl ?_); refine box_event ?hg (N := 3) ?hd (cs := #[.int .u64 a1_0, .int .u64 a1_1]) (t := 25) ?hr ?_; (case hd => rfl); (case hg => rfl); (case hr => first | (go_simp; done) | (go_simp; rfl)); intro gb253 hg w6 hbox hb; have n0_ := ak_ (bt_ (bl_ HB) hb); have n1_ := ak_ (hbox); have n2_ := ak_ ((gs_ hg HB)); have n3_ := ak_ ((gs_ hg HB)); clear HB; have HB := n0_; have BK253 := n1_; have GW253 := n2_; have GE253 := n3_; clear n0_ n1_ n2_ n3_; clear hb hbox hg; have hcz7_0 : w6.cell? ⟨gb253, 0, none⟩ = some (.int .u64 a1_0) := (kc_ BK253.out 0).trans rfl; have hcz7_1 : w6.cell? ⟨gb253, 1, none⟩ = some (.int .u64 a1_1) := (kc_ BK253.out 1).trans rfl; have hfz7_0 := kf_ BK253.out 0; have hfz7_1 := kf_ BK253.out 1) | ((with_reducible refine gate_callee (f := 28) rfl ?_); refine goesL_ (some 14) rfl rfl func28 (by kernel_rfl) rfl #[.int .i64 a0, .agg #[.int .u64 a1_0, .int .u64 a1_1]] rfl (by (try simp only [map_toArray, map_cons, map_nil]); first | done | rfl) ?_; (with_reducible refine (sub_Check.calls k a0 a1_0 a1_1 t254 _ A3.out).mono ?_); rintro e w8 ⟨rfl, hb⟩; refine ⟨_, rfl, ?_⟩; have n0_ := ak_ (kb_ (g := gb253) (o := .cells #[.int .u64 a1_0, .int .u64 a1_1] 25 (0, 0)) (kl_ BK253) hb); have n1_ := ak_ (bt_ (by repeat (first | (with_reducible first | exact HB.out | apply ba_ | apply bn_ | apply bd_ | refine below_set ?_ GE253.out) | exact HB.out)) hb); clear BK253; clear HB; have BK253 := n0_; have HB := n1_; clear n0_ n1_; (try clear hb); (try clear hk); have hcz9_0 : w8.cell? ⟨gb253, 0, none⟩ = some (.int .u64 a1_0) := (kc_ BK253.out 0).trans rfl; have hcz9_1 : w8.cell? ⟨gb253, 1, none⟩ = some (.int .u64 a1_1) := (kc_ BK253.out 1).trans rfl; have hfz9_0 := kf_ BK253.out 0; have hfz9_1 := kf_ BK253.out 1))
    go_ret2
    exact ⟨by first | rfl | (simp <;> rfl) | (simp [*] <;> rfl), by repeat (first | (with_reducible first | exact HB.out | apply ba_ | apply bn_ | apply bd_ | refine below_set ?_ GE253.out) | exact HB.out)⟩
   ·rw [if_neg c5] at H
    have c5b0 : (a1_1 == 0) = false := beq_eq_false_iff_ne.mpr c5
    have c5b1 : (a1_1 != 0) = true := bne_iff_ne.mpr c5
    replace H := bind_eq_some_iff.mp H
    obtain ⟨⟨t255, t256, t257, t258, t259⟩, A100, H⟩ := H
    replace H : (if t259 = 0 then (if t258 = true then (some (true, t259)) else (some (decide (t256 ≤ t257), t259))) else (some (false, t259))) = some (r1, r2) := H
    have A10 := ak_ A100
    clear A100
    by_cases c11 : t259 = 0
    ·rw [if_pos c11] at H
     have c11b0 : (t259 == 0) = true := beq_iff_eq.mpr c11
     have c11b1 : (t259 != 0) = false := bne_eq_false_iff_eq.mpr c11
     clear c11
     by_cases c12 : t258 = true
     ·subst c12
      have H1 : (some (true, t259)) = some (r1, r2) := by rw [if_pos rfl] at H; exact H
      clear H
      have H := H1
      clear H1
      simp only [some.injEq, Prod.mk.injEq] at H
      obtain ⟨rfl, rfl⟩ := H
      go_enter func29, ntmps29
      go_wp2_with (first | ((with_reducible refine gate_dst (N := 3) rfl ?_); refine box_event ?hg (N := 3) ?hd (cs := #[.int .u64 a1_0, .int .u64 a1_1]) (t := 25) ?hr ?_; (case hd => rfl); (case hg => rfl); (case hr => first | (go_simp; done) | (go_simp; rfl)); intro gb253 hg w13 hbox hb; have n0_ := ak_ (bt_ (bl_ HB) hb); have n1_ := ak_ (hbox); have n2_ := ak_ ((gs_ hg HB)); have n3_ := ak_ ((gs_ hg HB)); clear HB; have HB := n0_; have BK253 := n1_; have GW253 := n2_; have GE253 := n3_; clear n0_ n1_ n2_ n3_; clear hb hbox hg; have hcz14_0 : w13.cell? ⟨gb253, 0, none⟩ = some (.int .u64 a1_0) := (kc_ BK253.out 0).trans rfl; have hcz14_1 : w13.cell? ⟨gb253, 1, none⟩ = some (.int .u64 a1_1) := (kc_ BK253.out 1).trans rfl; have hfz14_0 := kf_ BK253.out 0; have hfz14_1 := kf_ BK253.out 1) | ((with_reducible refine gate_callee (f := 28) rfl ?_); refine goesL_ (some 14) rfl rfl func28 (by kernel_rfl) rfl #[.int .i64 a0, .agg #[.int .u64 a1_0, .int .u64 a1_1]] rfl (by (try simp only [map_toArray, map_cons, map_nil]); first | done | rfl) ?_; (with_reducible refine (sub_Check.calls k a0 a1_0 a1_1 t254 _ A3.out).mono ?_); rintro e w15 ⟨rfl, hb⟩; refine ⟨_, rfl, ?_⟩; have n0_ := ak_ (kb_ (g := gb253) (o := .cells #[.int .u64 a1_0, .int .u64 a1_1] 25 (0, 0)) (kl_ BK253) hb); have n1_ := ak_ (bt_ (by repeat (first | (with_reducible first | exact HB.out | apply ba_ | apply bn_ | apply bd_ | refine below_set ?_ GE253.out) | exact HB.out)) hb); clear BK253; clear HB; have BK253 := n0_; have HB := n1_; clear n0_ n1_; (try clear hb); (try clear hk); have hcz16_0 : w15.cell? ⟨gb253, 0, none⟩ = some (.int .u64 a1_0) := (kc_ BK253.out 0).trans rfl; have hcz16_1 : w15.cell? ⟨gb253, 1, none⟩ = some (.int .u64 a1_1) := (kc_ BK253.out 1).trans rfl; have hfz16_0 := kf_ BK253.out 0; have hfz16_1 := kf_ BK253.out 1) | ((with_reducible refine gate_callee (f := 43) rfl ?_); refine goesL_ (some 27) rfl rfl func43 (by kernel_rfl) rfl #[.int .i64 a0, .agg #[.int .u64 a1_0, .int .u64 a1_1]] rfl (by (try simp only [map_toArray, map_cons, map_nil]); first | done | rfl) ?_; (with_reducible refine (sub_depths.calls k a0 a1_0 a1_1 t255 t256 t257 true t259 _ A10.out).mono ?_); rintro e w17 ⟨rfl, hb⟩; refine ⟨_, rfl, ?_⟩; have n0_ := ak_ (kb_ (g := gb253) (o := .cells #[.int .u64 a1_0, .int .u64 a1_1] 25 (0, 0)) (kl_ BK253) hb); have n1_ := ak_ (bt_ (by repeat (first | (with_reducible first | exact HB.out | apply ba_ | apply bn_ | apply bd_ | refine below_set ?_ GE253.out) | exact HB.out)) hb); clear BK253; clear HB; have BK253 := n0_; have HB := n1_; clear n0_ n1_; (try clear hb); (try clear hk)))
      go_ret2
      exact ⟨by first | rfl | (simp <;> rfl) | (simp [*] <;> rfl), by repeat (first | (with_reducible first | exact HB.out | apply ba_ | apply bn_ | apply bd_ | refine below_set ?_ GE253.out) | exact HB.out)⟩
     ·replace c12 := Bool.eq_false_iff.mpr c12
      subst c12
      have H1 : (some (decide (t256 ≤ t257), t259)) = some (r1, r2) := by rw [if_neg (show ¬ (false = true) by decide)] at H; exact H
      clear H
      have H := H1
      clear H1
      simp only [some.injEq, Prod.mk.injEq] at H
      obtain ⟨rfl, rfl⟩ := H
      go_enter func29, ntmps29
      go_wp2_with (first | ((with_reducible refine gate_dst (N := 3) rfl ?_); refine box_event ?hg (N := 3) ?hd (cs := #[.int .u64 a1_0, .int .u64 a1_1]) (t := 25) ?hr ?_; (case hd => rfl); (case hg => rfl); (case hr => first | (go_simp; done) | (go_simp; rfl)); intro gb253 hg w18 hbox hb; have n0_ := ak_ (bt_ (bl_ HB) hb); have n1_ := ak_ (hbox); have n2_ := ak_ ((gs_ hg HB)); have n3_ := ak_ ((gs_ hg HB)); clear HB; have HB := n0_; have BK253 := n1_; have GW253 := n2_; have GE253 := n3_; clear n0_ n1_ n2_ n3_; clear hb hbox hg; have hcz19_0 : w18.cell? ⟨gb253, 0, none⟩ = some (.int .u64 a1_0) := (kc_ BK253.out 0).trans rfl; have hcz19_1 : w18.cell? ⟨gb253, 1, none⟩ = some (.int .u64 a1_1) := (kc_ BK253.out 1).trans rfl; have hfz19_0 := kf_ BK253.out 0; have hfz19_1 := kf_ BK253.out 1) | ((with_reducible refine gate_callee (f := 28) rfl ?_); refine goesL_ (some 14) rfl rfl func28 (by kernel_rfl) rfl #[.int .i64 a0, .agg #[.int .u64 a1_0, .int .u64 a1_1]] rfl (by (try simp only [map_toArray, map_cons, map_nil]); first | done | rfl) ?_; (with_reducible refine (sub_Check.calls k a0 a1_0 a1_1 t254 _ A3.out).mono ?_); rintro e w20 ⟨rfl, hb⟩; refine ⟨_, rfl, ?_⟩; have n0_ := ak_ (kb_ (g := gb253) (o := .cells #[.int .u64 a1_0, .int .u64 a1_1] 25 (0, 0)) (kl_ BK253) hb); have n1_ := ak_ (bt_ (by repeat (first | (with_reducible first | exact HB.out | apply ba_ | apply bn_ | apply bd_ | refine below_set ?_ GE253.out) | exact HB.out)) hb); clear BK253; clear HB; have BK253 := n0_; have HB := n1_; clear n0_ n1_; (try clear hb); (try clear hk); have hcz21_0 : w20.cell? ⟨gb253, 0, none⟩ = some (.int .u64 a1_0) := (kc_ BK253.out 0).trans rfl; have hcz21_1 : w20.cell? ⟨gb253, 1, none⟩ = some (.int .u64 a1_1) := (kc_ BK253.out 1).trans rfl; have hfz21_0 := kf_ BK253.out 0; have hfz21_1 := kf_ BK253.out 1) | ((with_reducible refine gate_callee (f := 43) rfl ?_); refine goesL_ (some 27) rfl rfl func43 (by kernel_rfl) rfl #[.int .i64 a0, .agg #[.int .u64 a1_0, .int .u64 a1_1]] rfl (by (try simp only [map_toArray, map_cons, map_nil]); first | done | rfl) ?_; (with_reducible refine (sub_depths.calls k a0 a1_0 a1_1 t255 t256 t257 false t259 _ A10.out).mono ?_); rintro e w22 ⟨rfl, hb⟩; refine ⟨_, rfl, ?_⟩; have n0_ := ak_ (kb_ (g := gb253) (o := .cells #[.int .u64 a1_0, .int .u64 a1_1] 25 (0, 0)) (kl_ BK253) hb); have n1_ := ak_ (bt_ (by repeat (first | (with_reducible first | exact HB.out | apply ba_ | apply bn_ | apply bd_ | refine below_set ?_ GE253.out) | exact HB.out)) hb); clear BK253; clear HB; have BK253 := n0_; have HB := n1_; clear n0_ n1_; (try clear hb); (try clear hk)))
      go_ret2
      exact ⟨by first | rfl | (simp <;> rfl) | (simp [*] <;> rfl), by repeat (first | (with_reducible first | exact HB.out | apply ba_ | apply bn_ | apply bd_ | refine below_set ?_ GE253.out) | exact HB.out)⟩
    ·rw [if_neg c11] at H
     have c11b0 : (t259 == 0) = false := beq_eq_false_iff_ne.mpr c11
     have c11b1 : (t259 != 0) = true := bne_iff_ne.mpr c11
     simp only [some.injEq, Prod.mk.injEq] at H
     obtain ⟨rfl, rfl⟩ := H
     go_enter func29, ntmps29
     go_wp2_with (first | ((with_reducible refine gate_dst (N := 3) rfl ?_); refine box_event ?hg (N := 3) ?hd (cs := #[.int .u64 a1_0, .int .u64 a1_1]) (t := 25) ?hr ?_; (case hd => rfl); (case hg => rfl); (case hr => first | (go_simp; done) | (go_simp; rfl)); intro gb253 hg w23 hbox hb; have n0_ := ak_ (bt_ (bl_ HB) hb); have n1_ := ak_ (hbox); have n2_ := ak_ ((gs_ hg HB)); have n3_ := ak_ ((gs_ hg HB)); clear HB; have HB := n0_; have BK253 := n1_; have GW253 := n2_; have GE253 := n3_; clear n0_ n1_ n2_ n3_; clear hb hbox hg; have hcz24_0 : w23.cell? ⟨gb253, 0, none⟩ = some (.int .u64 a1_0) := (kc_ BK253.out 0).trans rfl; have hcz24_1 : w23.cell? ⟨gb253, 1, none⟩ = some (.int .u64 a1_1) := (kc_ BK253.out 1).trans rfl; have hfz24_0 := kf_ BK253.out 0; have hfz24_1 := kf_ BK253.out 1) | ((with_reducible refine gate_callee (f := 28) rfl ?_); refine goesL_ (some 14) rfl rfl func28 (by kernel_rfl) rfl #[.int .i64 a0, .agg #[.int .u64 a1_0, .int .u64 a1_1]] rfl (by (try simp only [map_toArray, map_cons, map_nil]); first | done | rfl) ?_; (with_reducible refine (sub_Check.calls k a0 a1_0 a1_1 t254 _ A3.out).mono ?_); rintro e w25 ⟨rfl, hb⟩; refine ⟨_, rfl, ?_⟩; have n0_ := ak_ (kb_ (g := gb253) (o := .cells #[.int .u64 a1_0, .int .u64 a1_1] 25 (0, 0)) (kl_ BK253) hb); have n1_ := ak_ (bt_ (by repeat (first | (with_reducible first | exact HB.out | apply ba_ | apply bn_ | apply bd_ | refine below_set ?_ GE253.out) | exact HB.out)) hb); clear BK253; clear HB; have BK253 := n0_; have HB := n1_; clear n0_ n1_; (try clear hb); (try clear hk); have hcz26_0 : w25.cell? ⟨gb253, 0, none⟩ = some (.int .u64 a1_0) := (kc_ BK253.out 0).trans rfl; have hcz26_1 : w25.cell? ⟨gb253, 1, none⟩ = some (.int .u64 a1_1) := (kc_ BK253.out 1).trans rfl; have hfz26_0 := kf_ BK253.out 0; have hfz26_1 := kf_ BK253.out 1) | ((with_reducible refine gate_callee (f := 43) rfl ?_); refine goesL_ (some 27) rfl rfl func43 (by kernel_rfl) rfl #[.int .i64 a0, .agg #[.int .u64 a1_0, .int .u64 a1_1]] rfl (by (try simp only [map_toArray, map_cons, map_nil]); first | done | rfl) ?_; (with_reducible refine (sub_depths.calls k a0 a1_0 a1_1 t255 t256 t257 t258 t259 _ A10.out).mono ?_); rintro e w27 ⟨rfl, hb⟩; refine ⟨_, rfl, ?_⟩; have n0_ := ak_ (kb_ (g := gb253) (o := .cells #[.int .u64 a1_0, .int .u64 a1_1] 25 (0, 0)) (kl_ BK253) hb); have n1_ := ak_ (bt_ (by repeat (first | (with_reducible first | exact HB.out | apply ba_ | apply bn_ | apply bd_ | refine below_set ?_ GE253.out) | exact HB.out)) hb); clear BK253; clear HB; have BK253 := n0_; have HB := n1_; clear n0_ n1_; (try clear hb); (try clear hk)))
     go_ret2
     exact ⟨by first | rfl | (simp <;> rfl) | (simp [*] <;> rfl), by repeat (first | (with_reducible first | exact HB.out | apply ba_ | apply bn_ | apply bd_ | refine below_set ?_ GE253.out) | exact HB.out)⟩
  ·rw [if_neg c4] at H
   have c4b0 : (t254 == 0) = false := beq_eq_false_iff_ne.mpr c4
   have c4b1 : (t254 != 0) = true := bne_iff_ne.mpr c4
   simp only [some.injEq, Prod.mk.injEq] at H
   obtain ⟨rfl, rfl⟩ := H
   go_enter func29, ntmps29
   go_wp2_with (first | ((with_reducible refine gate_dst (N := 3) rfl ?_); refine box_event ?hg (N := 3) ?hd (cs := #[.int .u64 a1_0, .int .u64 a1_1]) (t := 25) ?hr ?_; (case hd => rfl); (case hg => rfl); (case hr => first | (go_simp; done) | (go_simp; rfl)); intro gb253 hg w28 hbox hb; have n0_ := ak_ (bt_ (bl_ HB) hb); have n1_ := ak_ (hbox); have n2_ := ak_ ((gs_ hg HB)); have n3_ := ak_ ((gs_ hg HB)); clear HB; have HB := n0_; have BK253 := n1_; have GW253 := n2_; have GE253 := n3_; clear n0_ n1_ n2_ n3_; clear hb hbox hg; have hcz29_0 : w28.cell? ⟨gb253, 0, none⟩ = some (.int .u64 a1_0) := (kc_ BK253.out 0).trans rfl; have hcz29_1 : w28.cell? ⟨gb253, 1, none⟩ = some (.int .u64 a1_1) := (kc_ BK253.out 1).trans rfl; have hfz29_0 := kf_ BK253.out 0; have hfz29_1 := kf_ BK253.out 1) | ((with_reducible refine gate_callee (f := 28) rfl ?_); refine goesL_ (some 14) rfl rfl func28 (by kernel_rfl) rfl #[.int .i64 a0, .agg #[.int .u64 a1_0, .int .u64 a1_1]] rfl (by (try simp only [map_toArray, map_cons, map_nil]); first | done | rfl) ?_; (with_reducible refine (sub_Check.calls k a0 a1_0 a1_1 t254 _ A3.out).mono ?_); rintro e w30 ⟨rfl, hb⟩; refine ⟨_, rfl, ?_⟩; have n0_ := ak_ (kb_ (g := gb253) (o := .cells #[.int .u64 a1_0, .int .u64 a1_1] 25 (0, 0)) (kl_ BK253) hb); have n1_ := ak_ (bt_ (by repeat (first | (with_reducible first | exact HB.out | apply ba_ | apply bn_ | apply bd_ | refine below_set ?_ GE253.out) | exact HB.out)) hb); clear BK253; clear HB; have BK253 := n0_; have HB := n1_; clear n0_ n1_; (try clear hb); (try clear hk)))
   go_ret2
   exact ⟨by first | rfl | (simp <;> rfl) | (simp [*] <;> rfl), by repeat (first | (with_reducible first | exact HB.out | apply ba_ | apply bn_ | apply bd_ | refine below_set ?_ GE253.out) | exact HB.out)⟩
def node_Up.f (k : Nat) (a0 : Int) (a1 : Int) (a2 : Int) : Option (Int × Int) := (node_Check.f k a0 a1).bind fun t260 => (if t260 = 0 then (if a2 < 0 then (some (0, 4)) else ((node_depth.f k a1).bind fun t261 => (if a2 > t261 then (some (0, 4)) else ((node_depth.f k a1).bind fun t262 => (if 0 ≤ (wrap64 (t262 - a2)) then (some (shr .u64 a1 (wrap64 (t262 - a2)), 0)) else (none)))))) else (some (0, t260)))
set_option maxHeartbeats 8000000 in
set_option maxRecDepth 100000 in
theorem node_Up.calls (k : Nat) (a0 : Int) (a1 : Int) (a2 : Int) (r1 : Int) (r2 : Int) (w : World) (h : node_Up.f k a0 a1 a2 = some (r1, r2)) :
   Calls Tryz.prog 44 #[.int .i64 a0, .int .u64 a1, .int .i64 a2] w fun e w' => e = .returned (.tuple #[.int .u64 r1, .int .i64 r2]) ∧ Drawn0 w w' := by
  have H : ((node_Check.f k a0 a1).bind fun t260 => (if t260 = 0 then (if a2 < 0 then (some (0, 4)) else ((node_depth.f k a1).bind fun t261 => (if a2 > t261 then (some (0, 4)) else ((node_depth.f k a1).bind fun t262 => (if 0 ≤ (wrap64 (t262 - a2)) then (some (shr .u64 a1 (wrap64 (t262 - a2)), 0)) else (none)))))) else (some (0, t260)))) = some (r1, r2) := h
  clear h
  replace H := bind_eq_some_iff.mp H
  obtain ⟨t260, A40, H⟩ := H
  replace H : (if t260 = 0 then (if a2 < 0 then (some (0, 4)) else ((node_depth.f k a1).bind fun t261 => (if a2 > t261 then (some (0, 4)) else ((node_depth.f k a1).bind fun t262 => (if 0 ≤ (wrap64 (t262 - a2)) then (some (shr .u64 a1 (wrap64 (t262 - a2)), 0)) else (none)))))) else (some (0, t260))) = some (r1, r2) := H
  have A4 := ak_ A40
  clear A40
  by_cases c5 : t260 = 0
  ·rw [if_pos c5] at H
   have c5b0 : (t260 == 0) = true := beq_iff_eq.mpr c5
   have c5b1 : (t260 != 0) = false := bne_eq_false_iff_eq.mpr c5
   clear c5
   by_cases c6 : a2 < 0
   ·rw [if_pos c6] at H
    have c6b0 := decide_eq_true c6
    clear c6
    simp only [some.injEq, Prod.mk.injEq] at H
    obtain ⟨rfl, rfl⟩ := H
    go_enter func44, ntmps44
    go_wp2_with (first | ((with_reducible refine gate_callee (f := 35) rfl ?_); refine goesL_ (some 11) rfl rfl func35 (by kernel_rfl) rfl #[.int .i64 a0, .int .u64 a1] rfl (by (try simp only [map_toArray, map_cons, map_nil]); first | done | rfl) ?_; (with_reducible refine (node_Check.calls k a0 a1 t260 _ A4.out).mono ?_); rintro e w' ⟨rfl, ⟨nd, rfl⟩⟩; refine ⟨_, rfl, ?_⟩))
    go_ret2
    exact ⟨by first | rfl | (simp; done) | (simp [*]; done), by repeat (first | exact Drawn0.refl _ | apply Drawn0.step)⟩
   ·rw [if_neg c6] at H
    have c6b0 := decide_eq_false c6
    clear c6
    replace H := bind_eq_some_iff.mp H
    obtain ⟨t261, A70, H⟩ := H
    replace H : (if a2 > t261 then (some (0, 4)) else ((node_depth.f k a1).bind fun t262 => (if 0 ≤ (wrap64 (t262 - a2)) then (some (shr .u64 a1 (wrap64 (t262 - a2)), 0)) else (none)))) = some (r1, r2) := H
    have A7 := ak_ A70
    clear A70
    by_cases c8 : a2 > t261
    ·rw [if_pos c8] at H
     have c8b0 : decide (t261 < a2) = true := decide_eq_true c8
     clear c8
     simp only [some.injEq, Prod.mk.injEq] at H
     obtain ⟨rfl, rfl⟩ := H
     go_enter func44, ntmps44
     go_wp2_with (first | ((with_reducible refine gate_callee (f := 35) rfl ?_); refine goesL_ (some 11) rfl rfl func35 (by kernel_rfl) rfl #[.int .i64 a0, .int .u64 a1] rfl (by (try simp only [map_toArray, map_cons, map_nil]); first | done | rfl) ?_; (with_reducible refine (node_Check.calls k a0 a1 t260 _ A4.out).mono ?_); rintro e w' ⟨rfl, ⟨nd, rfl⟩⟩; refine ⟨_, rfl, ?_⟩) | (go_at_call 66; (with_reducible refine (node_depth.calls k a1 t261 _ A7.out).mono ?_); rintro e w' ⟨rfl, ⟨nd, rfl⟩⟩))
     go_ret2
     exact ⟨by first | rfl | (simp; done) | (simp [*]; done), by repeat (first | exact Drawn0.refl _ | apply Drawn0.step)⟩
    ·rw [if_neg c8] at H
     have c8b0 : decide (t261 < a2) = false := decide_eq_false c8
     clear c8
     replace H := bind_eq_some_iff.mp H
     obtain ⟨t262, A90, H⟩ := H
     replace H : (if 0 ≤ (wrap64 (t262 - a2)) then (some (shr .u64 a1 (wrap64 (t262 - a2)), 0)) else (none)) = some (r1, r2) := H
     have A9 := ak_ A90
     clear A90
     obtain ⟨ji10, hji10⟩ : ∃ j_ : Int, (wrap64 (t262 - a2)) = j_ := ⟨_, rfl⟩
     replace H : (if 0 ≤ (ji10) then (some (shr .u64 a1 (ji10), 0)) else (none)) = some (r1, r2) := by first | (rw [hji10] at H; exact H) | (simp only [hji10] at H ⊢; exact H)
     (try rw [hji10] at A4)
     (try rw [hji10] at A7)
     (try rw [hji10] at A9)
     have hji10w : (IntKind.i64.wrap (t262 - a2)) = ji10 := (i64_w _).trans hji10
     by_cases c11 : 0 ≤ (ji10)
     ·rw [if_pos c11] at H
      have c11b0 := eq_true c11
      have c11b1 := decide_eq_true c11
      clear c11
      obtain ⟨ji12, hji12⟩ : ∃ j_ : Int, (shr .u64 a1 (ji10)) = j_ := ⟨_, rfl⟩
      replace H : (some (ji12, 0)) = some (r1, r2) := by first | (rw [hji12] at H; exact H) | (simp only [hji12] at H ⊢; exact H)
      (try rw [hji12] at A4)
      (try rw [hji12] at A7)
      (try rw [hji12] at A9)
      have hji12_ : (a1 / 2 ^ min (ji10).toNat 64) = ji12 := hji12
      have hji12z : (ji10) ≤ 64 → (a1 / 2 ^ (ji10).toNat) = ji12 := shr_small hji12
      simp only [some.injEq, Prod.mk.injEq] at H
      obtain ⟨rfl, rfl⟩ := H
      go_enter func44, ntmps44
      go_wp2_with (first | ((with_reducible refine gate_callee (f := 35) rfl ?_); refine goesL_ (some 11) rfl rfl func35 (by kernel_rfl) rfl #[.int .i64 a0, .int .u64 a1] rfl (by (try simp only [map_toArray, map_cons, map_nil]); first | done | rfl) ?_; (with_reducible refine (node_Check.calls k a0 a1 t260 _ A4.out).mono ?_); rintro e w' ⟨rfl, ⟨nd, rfl⟩⟩; refine ⟨_, rfl, ?_⟩) | (go_at_call 66; (with_reducible refine (node_depth.calls k a1 t261 _ A7.out).mono ?_); rintro e w' ⟨rfl, ⟨nd, rfl⟩⟩) | ((with_reducible refine gate_callee (f := 66) rfl ?_); refine goesL_ (some 25) rfl rfl func66 (by kernel_rfl) rfl #[.int .u64 a1] rfl (by (try simp only [map_toArray, map_cons, map_nil]); first | done | rfl) ?_; (with_reducible refine (node_depth.calls k a1 t262 _ A9.out).mono ?_); rintro e w' ⟨rfl, ⟨nd, rfl⟩⟩; refine ⟨_, rfl, ?_⟩))
      go_ret2
      exact ⟨by first | rfl | (simp; done) | (simp only [← hji10, ← hji12] <;> (first | rfl | simp)) | (simp [*]; done), by repeat (first | exact Drawn0.refl _ | apply Drawn0.step)⟩
     ·rw [if_neg c11] at H
      exact absurd H (by simp)
  ·rw [if_neg c5] at H
   have c5b0 : (t260 == 0) = false := beq_eq_false_iff_ne.mpr c5
   have c5b1 : (t260 != 0) = true := bne_iff_ne.mpr c5
   simp only [some.injEq, Prod.mk.injEq] at H
   obtain ⟨rfl, rfl⟩ := H
   go_enter func44, ntmps44
   go_wp2_with (first | ((with_reducible refine gate_callee (f := 35) rfl ?_); refine goesL_ (some 11) rfl rfl func35 (by kernel_rfl) rfl #[.int .i64 a0, .int .u64 a1] rfl (by (try simp only [map_toArray, map_cons, map_nil]); first | done | rfl) ?_; (with_reducible refine (node_Check.calls k a0 a1 t260 _ A4.out).mono ?_); rintro e w' ⟨rfl, ⟨nd, rfl⟩⟩; refine ⟨_, rfl, ?_⟩))
   go_ret2
   exact ⟨by first | rfl | (simp; done) | (simp [*]; done), by repeat (first | exact Drawn0.refl _ | apply Drawn0.step)⟩
def sub_Split.f (k : Nat) (a0 : Int) (a1_0 : Int) (a1_1 : Int) : Option ((List (S25)) × Int) := (sub_Useful.f k a0 a1_0 a1_1).bind fun bt264 => (if bt264.2 = 0 then (if bt264.1 = true then (some ((([(⟨a1_0, a1_1⟩ : S25)] : List (S25))), 0)) else (if a1_1 = 0 then (some ((([(⟨a1_0, a1_1⟩ : S25)] : List (S25))), 0)) else ((sub_depths.f k a0 a1_0 a1_1).bind fun bt272 => (if bt272.2.2.2.2 = 0 then ((node_Up.f k a0 a1_1 bt272.2.2.1).bind fun bt277 => (some ((([(⟨a1_0, bt277.1⟩ : S25), (⟨bt277.1, a1_1⟩ : S25)] : List (S25))), bt277.2))) else (some (([] : List (S25)), bt272.2.2.2.2)))))) else (some (([] : List (S25)), bt264.2)))
set_option maxHeartbeats 8000000 in
set_option maxRecDepth 100000 in
theorem sub_Split.calls (k : Nat) (a0 : Int) (a1_0 : Int) (a1_1 : Int) (r1 : List (S25)) (r2 : Int) (w : World) (h : sub_Split.f k a0 a1_0 a1_1 = some (r1, r2)) :
   Calls Tryz.prog 17 #[.int .i64 a0, .agg #[.int .u64 a1_0, .int .u64 a1_1]] w fun e w' => ∃ v0_ : Value, e = .returned (.tuple #[v0_, .int .i64 r2]) ∧ Kd.R k25 25 w' w.heap.size (fun _ => True) v0_ r1 ∧ Below w.heap.size w w' := by
  have hu25 := underlying25
  have HB := ak_ (Below.refl w.heap.size w)
  have H : ((sub_Useful.f k a0 a1_0 a1_1).bind fun bt264 => (if bt264.2 = 0 then (if bt264.1 = true then (some ((([(⟨a1_0, a1_1⟩ : S25)] : List (S25))), 0)) else (if a1_1 = 0 then (some ((([(⟨a1_0, a1_1⟩ : S25)] : List (S25))), 0)) else ((sub_depths.f k a0 a1_0 a1_1).bind fun bt272 => (if bt272.2.2.2.2 = 0 then ((node_Up.f k a0 a1_1 bt272.2.2.1).bind fun bt277 => (some ((([(⟨a1_0, bt277.1⟩ : S25), (⟨bt277.1, a1_1⟩ : S25)] : List (S25))), bt277.2))) else (some (([] : List (S25)), bt272.2.2.2.2)))))) else (some (([] : List (S25)), bt264.2)))) = some (r1, r2) := h
  clear h
  replace H := bind_eq_some_iff.mp H
  obtain ⟨⟨t264, t265⟩, A30, H⟩ := H
  replace H : (if t265 = 0 then (if t264 = true then (some ((([(⟨a1_0, a1_1⟩ : S25)] : List (S25))), 0)) else (if a1_1 = 0 then (some ((([(⟨a1_0, a1_1⟩ : S25)] : List (S25))), 0)) else ((sub_depths.f k a0 a1_0 a1_1).bind fun bt272 => (if bt272.2.2.2.2 = 0 then ((node_Up.f k a0 a1_1 bt272.2.2.1).bind fun bt277 => (some ((([(⟨a1_0, bt277.1⟩ : S25), (⟨bt277.1, a1_1⟩ : S25)] : List (S25))), bt277.2))) else (some (([] : List (S25)), bt272.2.2.2.2)))))) else (some (([] : List (S25)), t265))) = some (r1, r2) := H
  have A3 := ak_ A30
  clear A30
  by_cases c4 : t265 = 0
  ·rw [if_pos c4] at H
   have c4b0 : (t265 == 0) = true := beq_iff_eq.mpr c4
   have c4b1 : (t265 != 0) = false := bne_eq_false_iff_eq.mpr c4
   clear c4
   by_cases c5 : t264 = true
   ·subst c5
    have H1 : (some ((([(⟨a1_0, a1_1⟩ : S25)] : List (S25))), 0)) = some (r1, r2) := by rw [if_pos rfl] at H; exact H
    clear H
    have H := H1
    clear H1
    obtain ⟨y266, hy266⟩ : ∃ y_ : List (S25), y_ = (([(⟨a1_0, a1_1⟩ : S25)] : List (S25))) := ⟨_, rfl⟩
    replace H : (some (y266, 0)) = some (r1, r2) := by first | (rw [hy266]; with_reducible exact H) | (have H2_ := (Option.bind_some _ _).symm.trans H; rw [hy266]; with_reducible exact H2_) | (have H2_ := (Option.bind_some _ _).symm.trans H; with_reducible exact H2_) | with_reducible exact H | (rw [hy266]; exact H) | exact H
    have Ny266 := ak_ hy266
    clear hy266
    simp only [some.injEq, Prod.mk.injEq] at H
    obtain ⟨rfl, rfl⟩ := H
    go_enter func17, ntmps17
    go_wp2_with (first | ((with_reducible refine gate_dst (N := 3) rfl ?_); refine box_event ?hg (N := 3) ?hd (cs := #[.int .u64 a1_0, .int .u64 a1_1]) (t := 25) ?hr ?_; (case hd => rfl); (case hg => rfl); (case hr => first | (go_simp; done) | (go_simp; rfl)); intro gb263 hg w6 hbox hb; have n0_ := ak_ (bt_ (bl_ HB) hb); have n1_ := ak_ (hbox); have n2_ := ak_ ((gs_ hg HB)); have n3_ := ak_ ((gs_ hg HB)); clear HB; have HB := n0_; have BK263 := n1_; have GW263 := n2_; have GE263 := n3_; clear n0_ n1_ n2_ n3_; clear hb hbox hg; have hcz7_0 : w6.cell? ⟨gb263, 0, none⟩ = some (.int .u64 a1_0) := (kc_ BK263.out 0).trans rfl; have hcz7_1 : w6.cell? ⟨gb263, 1, none⟩ = some (.int .u64 a1_1) := (kc_ BK263.out 1).trans rfl; have hfz7_0 := kf_ BK263.out 0; have hfz7_1 := kf_ BK263.out 1) | ((with_reducible refine gate_callee (f := 29) rfl ?_); refine goesL_ (some 16) rfl rfl func29 (by kernel_rfl) rfl #[.int .i64 a0, .agg #[.int .u64 a1_0, .int .u64 a1_1]] rfl (by (try simp only [map_toArray, map_cons, map_nil]); first | done | rfl) ?_; (with_reducible refine (sub_Useful.calls k a0 a1_0 a1_1 true t265 _ A3.out).mono ?_); rintro e w8 ⟨rfl, hb⟩; refine ⟨_, rfl, ?_⟩; have n0_ := ak_ (kb_ (g := gb263) (o := .cells #[.int .u64 a1_0, .int .u64 a1_1] 25 (0, 0)) (kl_ BK263) hb); have n1_ := ak_ (bt_ (by repeat (first | (with_reducible first | exact HB.out | apply ba_ | apply bn_ | apply bd_ | refine below_set ?_ GE263.out) | exact HB.out)) hb); clear BK263; clear HB; have BK263 := n0_; have HB := n1_; clear n0_ n1_; (try clear hb); (try clear hk); have hcz9_0 : w8.cell? ⟨gb263, 0, none⟩ = some (.int .u64 a1_0) := (kc_ BK263.out 0).trans rfl; have hcz9_1 : w8.cell? ⟨gb263, 1, none⟩ = some (.int .u64 a1_1) := (kc_ BK263.out 1).trans rfl; have hfz9_0 := kf_ BK263.out 0; have hfz9_1 := kf_ BK263.out 1) | ((with_reducible refine gate_dst (N := 31) rfl ?_); refine Kd.R_lit k25 _ 25 ?hg (N := 31) ?hd (xs := ([(⟨a1_0, a1_1⟩ : S25)] : List (S25))) (inner := [.int .u64 a1_0, .int .u64 a1_1]) (ok := fun _ => True) (okp := fun _ => True) ?hr ?hp (fun _ hk => hk) trivial (Below.refl _ _) (Nat.le_refl _) (by simp) ?_; (case hd => rfl); (case hg => rfl); (case hr => first | (go_simp; done) | (go_simp; rfl)); (case hp => exact (Reps.c2 (show Kd.M k25 _ _ _ (⟨a1_0, a1_1⟩ : S25) [.int .u64 a1_0, .int .u64 a1_1] from (k25_mkM _ _ _ (⟨a1_0, a1_1⟩ : S25) )) (Reps.none _ _))); intro v267 w10 ho11 hb hg_ hnew_; clear hg_ hnew_; (first | rw [← Ny266.out] at ho11 | (simp only [Int.reduceToNat] at ho11; rw [← Ny266.out] at ho11)); have n0_ := ak_ (Kd.R_lower (Kd.R_newB ho11 (g := gb263) (o := .cells #[.int .u64 a1_0, .int .u64 a1_1] 25 (0, 0)) (kl_ BK263)) (bz_ (by repeat (first | (with_reducible first | exact HB.out | apply ba_ | apply bn_ | apply bd_ | refine below_set ?_ GE263.out) | exact HB.out)))); have n1_ := ak_ (kb_ (g := gb263) (o := .cells #[.int .u64 a1_0, .int .u64 a1_1] 25 (0, 0)) (kl_ BK263) hb); have n2_ := ak_ (bt_ (by repeat (first | (with_reducible first | exact HB.out | apply ba_ | apply bn_ | apply bd_ | refine below_set ?_ GE263.out) | exact HB.out)) hb); clear BK263; clear HB; have HO268 := n0_; have BK263 := n1_; have HB := n2_; clear n0_ n1_ n2_; clear hb ho11))
    go_ret2
    exact ⟨_, by first | rfl | (simp <;> rfl) | (simp [*] <;> rfl), by (with_reducible repeat (first | apply Kd.R_alloc | apply Kd.R_drewN | apply Kd.R_drew)); exact Kd.R_mono HO268.out (fun _ hk => trivial), by repeat (first | (with_reducible first | exact HB.out | apply ba_ | apply bn_ | apply bd_ | refine below_set ?_ GE263.out) | exact HB.out)⟩
   ·replace c5 := Bool.eq_false_iff.mpr c5
    subst c5
    have H1 : (if a1_1 = 0 then (some ((([(⟨a1_0, a1_1⟩ : S25)] : List (S25))), 0)) else ((sub_depths.f k a0 a1_0 a1_1).bind fun bt272 => (if bt272.2.2.2.2 = 0 then ((node_Up.f k a0 a1_1 bt272.2.2.1).bind fun bt277 => (some ((([(⟨a1_0, bt277.1⟩ : S25), (⟨bt277.1, a1_1⟩ : S25)] : List (S25))), bt277.2))) else (some (([] : List (S25)), bt272.2.2.2.2))))) = some (r1, r2) := by rw [if_neg (show ¬ (false = true) by decide)] at H; exact H
    clear H
    have H := H1
    clear H1
    by_cases c12 : a1_1 = 0
    ·rw [if_pos c12] at H
     have c12b0 : (a1_1 == 0) = true := beq_iff_eq.mpr c12
     have c12b1 : (a1_1 != 0) = false := bne_eq_false_iff_eq.mpr c12
     clear c12
     obtain ⟨y269, hy269⟩ : ∃ y_ : List (S25), y_ = (([(⟨a1_0, a1_1⟩ : S25)] : List (S25))) := ⟨_, rfl⟩
     replace H : (some (y269, 0)) = some (r1, r2) := by first | (rw [hy269]; with_reducible exact H) | (have H2_ := (Option.bind_some _ _).symm.trans H; rw [hy269]; with_reducible exact H2_) | (have H2_ := (Option.bind_some _ _).symm.trans H; with_reducible exact H2_) | with_reducible exact H | (rw [hy269]; exact H) | exact H
     have Ny269 := ak_ hy269
     clear hy269
     simp only [some.injEq, Prod.mk.injEq] at H
     obtain ⟨rfl, rfl⟩ := H
     go_enter func17, ntmps17
     go_wp2_with (first | ((with_reducible refine gate_dst (N := 3) rfl ?_); refine box_event ?hg (N := 3) ?hd (cs := #[.int .u64 a1_0, .int .u64 a1_1]) (t := 25) ?hr ?_; (case hd => rfl); (case hg => rfl); (case hr => first | (go_simp; done) | (go_simp; rfl)); intro gb263 hg w13 hbox hb; have n0_ := ak_ (bt_ (bl_ HB) hb); have n1_ := ak_ (hbox); have n2_ := ak_ ((gs_ hg HB)); have n3_ := ak_ ((gs_ hg HB)); clear HB; have HB := n0_; have BK263 := n1_; have GW263 := n2_; have GE263 := n3_; clear n0_ n1_ n2_ n3_; clear hb hbox hg; have hcz14_0 : w13.cell? ⟨gb263, 0, none⟩ = some (.int .u64 a1_0) := (kc_ BK263.out 0).trans rfl; have hcz14_1 : w13.cell? ⟨gb263, 1, none⟩ = some (.int .u64 a1_1) := (kc_ BK263.out 1).trans rfl; have hfz14_0 := kf_ BK263.out 0; have hfz14_1 := kf_ BK263.out 1) | ((with_reducible refine gate_callee (f := 29) rfl ?_); refine goesL_ (some 16) rfl rfl func29 (by kernel_rfl) rfl #[.int .i64 a0, .agg #[.int .u64 a1_0, .int .u64 a1_1]] rfl (by (try simp only [map_toArray, map_cons, map_nil]); first | done | rfl) ?_; (with_reducible refine (sub_Useful.calls k a0 a1_0 a1_1 false t265 _ A3.out).mono ?_); rintro e w15 ⟨rfl, hb⟩; refine ⟨_, rfl, ?_⟩; have n0_ := ak_ (kb_ (g := gb263) (o := .cells #[.int .u64 a1_0, .int .u64 a1_1] 25 (0, 0)) (kl_ BK263) hb); have n1_ := ak_ (bt_ (by repeat (first | (with_reducible first | exact HB.out | apply ba_ | apply bn_ | apply bd_ | refine below_set ?_ GE263.out) | exact HB.out)) hb); clear BK263; clear HB; have BK263 := n0_; have HB := n1_; clear n0_ n1_; (try clear hb); (try clear hk); have hcz16_0 : w15.cell? ⟨gb263, 0, none⟩ = some (.int .u64 a1_0) := (kc_ BK263.out 0).trans rfl; have hcz16_1 : w15.cell? ⟨gb263, 1, none⟩ = some (.int .u64 a1_1) := (kc_ BK263.out 1).trans rfl; have hfz16_0 := kf_ BK263.out 0; have hfz16_1 := kf_ BK263.out 1) | ((with_reducible refine gate_dst (N := 31) rfl ?_); refine Kd.R_lit k25 _ 25 ?hg (N := 31) ?hd (xs := ([(⟨a1_0, a1_1⟩ : S25)] : List (S25))) (inner := [.int .u64 a1_0, .int .u64 a1_1]) (ok := fun _ => True) (okp := fun _ => True) ?hr ?hp (fun _ hk => hk) trivial (Below.refl _ _) (Nat.le_refl _) (by simp) ?_; (case hd => rfl); (case hg => rfl); (case hr => first | (go_simp; done) | (go_simp; rfl)); (case hp => exact (Reps.c2 (show Kd.M k25 _ _ _ (⟨a1_0, a1_1⟩ : S25) [.int .u64 a1_0, .int .u64 a1_1] from (k25_mkM _ _ _ (⟨a1_0, a1_1⟩ : S25) )) (Reps.none _ _))); intro v270 w17 ho18 hb hg_ hnew_; clear hg_ hnew_; (first | rw [← Ny269.out] at ho18 | (simp only [Int.reduceToNat] at ho18; rw [← Ny269.out] at ho18)); have n0_ := ak_ (Kd.R_lower (Kd.R_newB ho18 (g := gb263) (o := .cells #[.int .u64 a1_0, .int .u64 a1_1] 25 (0, 0)) (kl_ BK263)) (bz_ (by repeat (first | (with_reducible first | exact HB.out | apply ba_ | apply bn_ | apply bd_ | refine below_set ?_ GE263.out) | exact HB.out)))); have n1_ := ak_ (kb_ (g := gb263) (o := .cells #[.int .u64 a1_0, .int .u64 a1_1] 25 (0, 0)) (kl_ BK263) hb); have n2_ := ak_ (bt_ (by repeat (first | (with_reducible first | exact HB.out | apply ba_ | apply bn_ | apply bd_ | refine below_set ?_ GE263.out) | exact HB.out)) hb); clear BK263; clear HB; have HO271 := n0_; have BK263 := n1_; have HB := n2_; clear n0_ n1_ n2_; clear hb ho18))
     go_ret2
     exact ⟨_, by first | rfl | (simp <;> rfl) | (simp [*] <;> rfl), by (with_reducible repeat (first | apply Kd.R_alloc | apply Kd.R_drewN | apply Kd.R_drew)); exact Kd.R_mono HO271.out (fun _ hk => trivial), by repeat (first | (with_reducible first | exact HB.out | apply ba_ | apply bn_ | apply bd_ | refine below_set ?_ GE263.out) | exact HB.out)⟩
    ·rw [if_neg c12] at H
     have c12b0 : (a1_1 == 0) = false := beq_eq_false_iff_ne.mpr c12
     have c12b1 : (a1_1 != 0) = true := bne_iff_ne.mpr c12
     replace H := bind_eq_some_iff.mp H
     obtain ⟨⟨t272, t273, t274, t275, t276⟩, A190, H⟩ := H
     replace H : (if t276 = 0 then ((node_Up.f k a0 a1_1 t274).bind fun bt277 => (some ((([(⟨a1_0, bt277.1⟩ : S25), (⟨bt277.1, a1_1⟩ : S25)] : List (S25))), bt277.2))) else (some (([] : List (S25)), t276))) = some (r1, r2) := H
     have A19 := ak_ A190
     clear A190
     by_cases c20 : t276 = 0
     ·rw [if_pos c20] at H
      have c20b0 : (t276 == 0) = true := beq_iff_eq.mpr c20
      have c20b1 : (t276 != 0) = false := bne_eq_false_iff_eq.mpr c20
      clear c20
      replace H := bind_eq_some_iff.mp H
      obtain ⟨⟨t277, t278⟩, A210, H⟩ := H
      replace H : (some ((([(⟨a1_0, t277⟩ : S25), (⟨t277, a1_1⟩ : S25)] : List (S25))), t278)) = some (r1, r2) := H
      have A21 := ak_ A210
      clear A210
      obtain ⟨y279, hy279⟩ : ∃ y_ : List (S25), y_ = (([(⟨a1_0, t277⟩ : S25), (⟨t277, a1_1⟩ : S25)] : List (S25))) := ⟨_, rfl⟩
      replace H : (some (y279, t278)) = some (r1, r2) := by first | (rw [hy279]; with_reducible exact H) | (have H2_ := (Option.bind_some _ _).symm.trans H; rw [hy279]; with_reducible exact H2_) | (have H2_ := (Option.bind_some _ _).symm.trans H; with_reducible exact H2_) | with_reducible exact H | (rw [hy279]; exact H) | exact H
      have Ny279 := ak_ hy279
      clear hy279
      simp only [some.injEq, Prod.mk.injEq] at H
      obtain ⟨rfl, rfl⟩ := H
      go_enter func17, ntmps17
      go_wp2_with (first | ((with_reducible refine gate_dst (N := 3) rfl ?_); refine box_event ?hg (N := 3) ?hd (cs := #[.int .u64 a1_0, .int .u64 a1_1]) (t := 25) ?hr ?_; (case hd => rfl); (case hg => rfl); (case hr => first | (go_simp; done) | (go_simp; rfl)); intro gb263 hg w22 hbox hb; have n0_ := ak_ (bt_ (bl_ HB) hb); have n1_ := ak_ (hbox); have n2_ := ak_ ((gs_ hg HB)); have n3_ := ak_ ((gs_ hg HB)); clear HB; have HB := n0_; have BK263 := n1_; have GW263 := n2_; have GE263 := n3_; clear n0_ n1_ n2_ n3_; clear hb hbox hg; have hcz23_0 : w22.cell? ⟨gb263, 0, none⟩ = some (.int .u64 a1_0) := (kc_ BK263.out 0).trans rfl; have hcz23_1 : w22.cell? ⟨gb263, 1, none⟩ = some (.int .u64 a1_1) := (kc_ BK263.out 1).trans rfl; have hfz23_0 := kf_ BK263.out 0; have hfz23_1 := kf_ BK263.out 1) | ((with_reducible refine gate_callee (f := 29) rfl ?_); refine goesL_ (some 16) rfl rfl func29 (by kernel_rfl) rfl #[.int .i64 a0, .agg #[.int .u64 a1_0, .int .u64 a1_1]] rfl (by (try simp only [map_toArray, map_cons, map_nil]); first | done | rfl) ?_; (with_reducible refine (sub_Useful.calls k a0 a1_0 a1_1 false t265 _ A3.out).mono ?_); rintro e w24 ⟨rfl, hb⟩; refine ⟨_, rfl, ?_⟩; have n0_ := ak_ (kb_ (g := gb263) (o := .cells #[.int .u64 a1_0, .int .u64 a1_1] 25 (0, 0)) (kl_ BK263) hb); have n1_ := ak_ (bt_ (by repeat (first | (with_reducible first | exact HB.out | apply ba_ | apply bn_ | apply bd_ | refine below_set ?_ GE263.out) | exact HB.out)) hb); clear BK263; clear HB; have BK263 := n0_; have HB := n1_; clear n0_ n1_; (try clear hb); (try clear hk); have hcz25_0 : w24.cell? ⟨gb263, 0, none⟩ = some (.int .u64 a1_0) := (kc_ BK263.out 0).trans rfl; have hcz25_1 : w24.cell? ⟨gb263, 1, none⟩ = some (.int .u64 a1_1) := (kc_ BK263.out 1).trans rfl; have hfz25_0 := kf_ BK263.out 0; have hfz25_1 := kf_ BK263.out 1) | ((with_reducible refine gate_callee (f := 43) rfl ?_); refine goesL_ (some 35) rfl rfl func43 (by kernel_rfl) rfl #[.int .i64 a0, .agg #[.int .u64 a1_0, .int .u64 a1_1]] rfl (by (try simp only [map_toArray, map_cons, map_nil]); first | done | rfl) ?_; (with_reducible refine (sub_depths.calls k a0 a1_0 a1_1 t272 t273 t274 t275 t276 _ A19.out).mono ?_); rintro e w26 ⟨rfl, hb⟩; refine ⟨_, rfl, ?_⟩; have n0_ := ak_ (kb_ (g := gb263) (o := .cells #[.int .u64 a1_0, .int .u64 a1_1] 25 (0, 0)) (kl_ BK263) hb); have n1_ := ak_ (bt_ (by repeat (first | (with_reducible first | exact HB.out | apply ba_ | apply bn_ | apply bd_ | refine below_set ?_ GE263.out) | exact HB.out)) hb); clear BK263; clear HB; have BK263 := n0_; have HB := n1_; clear n0_ n1_; (try clear hb); (try clear hk); have hcz27_0 : w26.cell? ⟨gb263, 0, none⟩ = some (.int .u64 a1_0) := (kc_ BK263.out 0).trans rfl; have hcz27_1 : w26.cell? ⟨gb263, 1, none⟩ = some (.int .u64 a1_1) := (kc_ BK263.out 1).trans rfl; have hfz27_0 := kf_ BK263.out 0; have hfz27_1 := kf_ BK263.out 1) | ((with_reducible refine gate_callee (f := 44) rfl ?_); refine goesL_ (some 49) rfl rfl func44 (by kernel_rfl) rfl #[.int .i64 a0, .int .u64 a1_1, .int .i64 t274] rfl (by (try simp only [map_toArray, map_cons, map_nil]); first | done | rfl) ?_; (with_reducible refine (node_Up.calls k a0 a1_1 t274 t277 t278 _ A21.out).mono ?_); rintro e w' ⟨rfl, ⟨nd, rfl⟩⟩; refine ⟨_, rfl, ?_⟩) | ((with_reducible refine gate_dst (N := 60) rfl ?_); refine Kd.R_lit k25 _ 25 ?hg (N := 60) ?hd (xs := ([(⟨a1_0, t277⟩ : S25), (⟨t277, a1_1⟩ : S25)] : List (S25))) (inner := [.int .u64 a1_0, .int .u64 t277, .int .u64 t277, .int .u64 a1_1]) (ok := fun _ => True) (okp := fun _ => True) ?hr ?hp (fun _ hk => hk) trivial (Below.refl _ _) (Nat.le_refl _) (by simp) ?_; (case hd => rfl); (case hg => rfl); (case hr => first | (go_simp; done) | (go_simp; rfl)); (case hp => exact (Reps.c2 (show Kd.M k25 _ _ _ (⟨a1_0, t277⟩ : S25) [.int .u64 a1_0, .int .u64 t277] from (k25_mkM _ _ _ (⟨a1_0, t277⟩ : S25) )) (Reps.c2 (show Kd.M k25 _ _ _ (⟨t277, a1_1⟩ : S25) [.int .u64 t277, .int .u64 a1_1] from (k25_mkM _ _ _ (⟨t277, a1_1⟩ : S25) )) (Reps.none _ _)))); intro v280 w28 ho29 hb hg_ hnew_; clear hg_ hnew_; (first | rw [← Ny279.out] at ho29 | (simp only [Int.reduceToNat] at ho29; rw [← Ny279.out] at ho29)); have n0_ := ak_ (Kd.R_lower (Kd.R_newB ho29 (g := gb263) (o := .cells #[.int .u64 a1_0, .int .u64 a1_1] 25 (0, 0)) (kl_ BK263)) (bz_ (by repeat (first | (with_reducible first | exact HB.out | apply ba_ | apply bn_ | apply bd_ | refine below_set ?_ GE263.out) | exact HB.out)))); have n1_ := ak_ (kb_ (g := gb263) (o := .cells #[.int .u64 a1_0, .int .u64 a1_1] 25 (0, 0)) (kl_ BK263) hb); have n2_ := ak_ (bt_ (by repeat (first | (with_reducible first | exact HB.out | apply ba_ | apply bn_ | apply bd_ | refine below_set ?_ GE263.out) | exact HB.out)) hb); clear BK263; clear HB; have HO281 := n0_; have BK263 := n1_; have HB := n2_; clear n0_ n1_ n2_; clear hb ho29))
      go_ret2
      exact ⟨_, by first | rfl | (simp <;> rfl) | (simp [*] <;> rfl), by (with_reducible repeat (first | apply Kd.R_alloc | apply Kd.R_drewN | apply Kd.R_drew)); exact Kd.R_mono HO281.out (fun _ hk => trivial), by repeat (first | (with_reducible first | exact HB.out | apply ba_ | apply bn_ | apply bd_ | refine below_set ?_ GE263.out) | exact HB.out)⟩
     ·rw [if_neg c20] at H
      have c20b0 : (t276 == 0) = false := beq_eq_false_iff_ne.mpr c20
      have c20b1 : (t276 != 0) = true := bne_iff_ne.mpr c20
      simp only [some.injEq, Prod.mk.injEq] at H
      obtain ⟨rfl, rfl⟩ := H
      go_enter func17, ntmps17
      go_wp2_with (first | ((with_reducible refine gate_dst (N := 3) rfl ?_); refine box_event ?hg (N := 3) ?hd (cs := #[.int .u64 a1_0, .int .u64 a1_1]) (t := 25) ?hr ?_; (case hd => rfl); (case hg => rfl); (case hr => first | (go_simp; done) | (go_simp; rfl)); intro gb263 hg w30 hbox hb; have n0_ := ak_ (bt_ (bl_ HB) hb); have n1_ := ak_ (hbox); have n2_ := ak_ ((gs_ hg HB)); have n3_ := ak_ ((gs_ hg HB)); clear HB; have HB := n0_; have BK263 := n1_; have GW263 := n2_; have GE263 := n3_; clear n0_ n1_ n2_ n3_; clear hb hbox hg; have hcz31_0 : w30.cell? ⟨gb263, 0, none⟩ = some (.int .u64 a1_0) := (kc_ BK263.out 0).trans rfl; have hcz31_1 : w30.cell? ⟨gb263, 1, none⟩ = some (.int .u64 a1_1) := (kc_ BK263.out 1).trans rfl; have hfz31_0 := kf_ BK263.out 0; have hfz31_1 := kf_ BK263.out 1) | ((with_reducible refine gate_callee (f := 29) rfl ?_); refine goesL_ (some 16) rfl rfl func29 (by kernel_rfl) rfl #[.int .i64 a0, .agg #[.int .u64 a1_0, .int .u64 a1_1]] rfl (by (try simp only [map_toArray, map_cons, map_nil]); first | done | rfl) ?_; (with_reducible refine (sub_Useful.calls k a0 a1_0 a1_1 false t265 _ A3.out).mono ?_); rintro e w32 ⟨rfl, hb⟩; refine ⟨_, rfl, ?_⟩; have n0_ := ak_ (kb_ (g := gb263) (o := .cells #[.int .u64 a1_0, .int .u64 a1_1] 25 (0, 0)) (kl_ BK263) hb); have n1_ := ak_ (bt_ (by repeat (first | (with_reducible first | exact HB.out | apply ba_ | apply bn_ | apply bd_ | refine below_set ?_ GE263.out) | exact HB.out)) hb); clear BK263; clear HB; have BK263 := n0_; have HB := n1_; clear n0_ n1_; (try clear hb); (try clear hk); have hcz33_0 : w32.cell? ⟨gb263, 0, none⟩ = some (.int .u64 a1_0) := (kc_ BK263.out 0).trans rfl; have hcz33_1 : w32.cell? ⟨gb263, 1, none⟩ = some (.int .u64 a1_1) := (kc_ BK263.out 1).trans rfl; have hfz33_0 := kf_ BK263.out 0; have hfz33_1 := kf_ BK263.out 1) | ((with_reducible refine gate_callee (f := 43) rfl ?_); refine goesL_ (some 35) rfl rfl func43 (by kernel_rfl) rfl #[.int .i64 a0, .agg #[.int .u64 a1_0, .int .u64 a1_1]] rfl (by (try simp only [map_toArray, map_cons, map_nil]); first | done | rfl) ?_; (with_reducible refine (sub_depths.calls k a0 a1_0 a1_1 t272 t273 t274 t275 t276 _ A19.out).mono ?_); rintro e w34 ⟨rfl, hb⟩; refine ⟨_, rfl, ?_⟩; have n0_ := ak_ (kb_ (g := gb263) (o := .cells #[.int .u64 a1_0, .int .u64 a1_1] 25 (0, 0)) (kl_ BK263) hb); have n1_ := ak_ (bt_ (by repeat (first | (with_reducible first | exact HB.out | apply ba_ | apply bn_ | apply bd_ | refine below_set ?_ GE263.out) | exact HB.out)) hb); clear BK263; clear HB; have BK263 := n0_; have HB := n1_; clear n0_ n1_; (try clear hb); (try clear hk)))
      go_ret2
      exact ⟨_, by first | rfl | (simp <;> rfl) | (simp [*] <;> rfl), by first | exact Kd.R_nil _ _ _ _ _ | exact Kd.N_nil _ _ _ _ _ | exact Kd.V_nil _ _ _ _ _ | exact Kd.Q_nil _ _ _ _ _ | exact Kd.S_nil _ _ _ _ _, by repeat (first | (with_reducible first | exact HB.out | apply ba_ | apply bn_ | apply bd_ | refine below_set ?_ GE263.out) | exact HB.out)⟩
  ·rw [if_neg c4] at H
   have c4b0 : (t265 == 0) = false := beq_eq_false_iff_ne.mpr c4
   have c4b1 : (t265 != 0) = true := bne_iff_ne.mpr c4
   simp only [some.injEq, Prod.mk.injEq] at H
   obtain ⟨rfl, rfl⟩ := H
   go_enter func17, ntmps17
   go_wp2_with (first | ((with_reducible refine gate_dst (N := 3) rfl ?_); refine box_event ?hg (N := 3) ?hd (cs := #[.int .u64 a1_0, .int .u64 a1_1]) (t := 25) ?hr ?_; (case hd => rfl); (case hg => rfl); (case hr => first | (go_simp; done) | (go_simp; rfl)); intro gb263 hg w35 hbox hb; have n0_ := ak_ (bt_ (bl_ HB) hb); have n1_ := ak_ (hbox); have n2_ := ak_ ((gs_ hg HB)); have n3_ := ak_ ((gs_ hg HB)); clear HB; have HB := n0_; have BK263 := n1_; have GW263 := n2_; have GE263 := n3_; clear n0_ n1_ n2_ n3_; clear hb hbox hg; have hcz36_0 : w35.cell? ⟨gb263, 0, none⟩ = some (.int .u64 a1_0) := (kc_ BK263.out 0).trans rfl; have hcz36_1 : w35.cell? ⟨gb263, 1, none⟩ = some (.int .u64 a1_1) := (kc_ BK263.out 1).trans rfl; have hfz36_0 := kf_ BK263.out 0; have hfz36_1 := kf_ BK263.out 1) | ((with_reducible refine gate_callee (f := 29) rfl ?_); refine goesL_ (some 16) rfl rfl func29 (by kernel_rfl) rfl #[.int .i64 a0, .agg #[.int .u64 a1_0, .int .u64 a1_1]] rfl (by (try simp only [map_toArray, map_cons, map_nil]); first | done | rfl) ?_; (with_reducible refine (sub_Useful.calls k a0 a1_0 a1_1 t264 t265 _ A3.out).mono ?_); rintro e w37 ⟨rfl, hb⟩; refine ⟨_, rfl, ?_⟩; have n0_ := ak_ (kb_ (g := gb263) (o := .cells #[.int .u64 a1_0, .int .u64 a1_1] 25 (0, 0)) (kl_ BK263) hb); have n1_ := ak_ (bt_ (by repeat (first | (with_reducible first | exact HB.out | apply ba_ | apply bn_ | apply bd_ | refine below_set ?_ GE263.out) | exact HB.out)) hb); clear BK263; clear HB; have BK263 := n0_; have HB := n1_; clear n0_ n1_; (try clear hb); (try clear hk)))
   go_ret2
   exact ⟨_, by first | rfl | (simp <;> rfl) | (simp [*] <;> rfl), by first | exact Kd.R_nil _ _ _ _ _ | exact Kd.N_nil _ _ _ _ _ | exact Kd.V_nil _ _ _ _ _ | exact Kd.Q_nil _ _ _ _ _ | exact Kd.S_nil _ _ _ _ _, by repeat (first | (with_reducible first | exact HB.out | apply ba_ | apply bn_ | apply bd_ | refine below_set ?_ GE263.out) | exact HB.out)⟩
end Go.Proofs.YtmffkfakcbopcaaGreat.MP
