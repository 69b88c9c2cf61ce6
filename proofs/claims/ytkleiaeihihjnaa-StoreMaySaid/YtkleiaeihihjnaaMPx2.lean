-- written by a program of this session (wip/tools/mprint.sh) for this seat
import Derived.Test.YtkleiaeihihjnaaMPx0
import Derived.WalkMore
import Derived.Carry
import Derived.Maps.OwnSet
import Derived.Maps.OwnOps
import Derived.DeepKeys4
import Derived.WideKeyEntry
namespace Go.Proofs.Ytkleiaeihihjnaa.MP
open Go.RowKit Go.Proofs.YtkleiaeihihjnaaW.PrintWords Go.Proofs.YtkleiaeihihjnaaW.PrintLast Go.Proofs.YtkleiaeihihjnaaW.PrintMore
open Option (bind_eq_some_iff some.injEq)
open _root_.Go.Proofs.Try
open List (setIfInBounds_toArray set_cons_zero set_cons_succ map_toArray map_cons map_nil length_drop length_take)
attribute [local go_sem] max2_int min2_int max_two min_two max_three min_three max_four min_four
set_option linter.unusedVariables false
set_option linter.unusedSimpArgs false
def bA2 (k n : Nat) : Array Bool := (Array.range n).map fun i => decide (i < k)
def node_high.f (a0 : Int) : Option (Bool) := if a0 ≥ 1 then (some (decide (a0 ≤ 32))) else (some false)
set_option maxHeartbeats 8000000 in
set_option maxRecDepth 100000 in
theorem node_high.calls (a0 : Int) (r : Bool) (w : World) (h : node_high.f a0 = some r) :
   Calls Try.prog 74 #[.int .i64 a0] w fun e w' => e = .returned (.bool r) ∧ Drawn0 w w' := by
  have H : (if a0 ≥ 1 then (some (decide (a0 ≤ 32))) else (some false)) = some r := h
  clear h
  by_cases c2 : a0 ≥ 1
  ·rw [if_pos c2] at H
   have c2b0 : decide (1 ≤ a0) = true := decide_eq_true c2
   clear c2
   obtain rfl := Option.some.inj H
   go_enter func74, ntmps74
   go_wp2
   go_ret
   exact ⟨by first | rfl | (simp; done) | (simp [*]; done), by repeat (first | exact Drawn0.refl _ | apply Drawn0.step)⟩
  ·rw [if_neg c2] at H
   have c2b0 : decide (1 ≤ a0) = false := decide_eq_false c2
   clear c2
   obtain rfl := Option.some.inj H
   go_enter func74, ntmps74
   go_wp2
   go_ret
   exact ⟨by first | rfl | (simp; done) | (simp [*]; done), by repeat (first | exact Drawn0.refl _ | apply Drawn0.step)⟩
def bits_Len64.j0 : Nat → Int → Int → Option (Int)
  | 0, _, _ => none
  | k + 1, x0, x2 => if x0 ≥ 65536 then (if (x0 / 65536) ≥ 256 then (if 0 ≤ (((x0 / 65536) / 256) % 256) then (if (((x0 / 65536) / 256) % 256) < 256 then (some (wrap64 ((wrap64 ((wrap64 (x2 + 16)) + 8)) + (wrap64 (bt (⟨#[0, 1, 2, 2, 3, 3, 3, 3, 4, 4, 4, 4, 4, 4, 4, 4, 5, 5, 5, 5, 5, 5, 5, 5, 5, 5, 5, 5, 5, 5, 5, 5, 6, 6, 6, 6, 6, 6, 6, 6, 6, 6, 6, 6, 6, 6, 6, 6, 6, 6, 6, 6, 6, 6, 6, 6, 6, 6, 6, 6, 6, 6, 6, 6, 7, 7, 7, 7, 7, 7, 7, 7, 7, 7, 7, 7, 7, 7, 7, 7, 7, 7, 7, 7, 7, 7, 7, 7, 7, 7, 7, 7, 7, 7, 7, 7, 7, 7, 7, 7, 7, 7, 7, 7, 7, 7, 7, 7, 7, 7, 7, 7, 7, 7, 7, 7, 7, 7, 7, 7, 7, 7, 7, 7, 7, 7, 7, 7, 8, 8, 8, 8, 8, 8, 8, 8, 8, 8, 8, 8, 8, 8, 8, 8, 8, 8, 8, 8, 8, 8, 8, 8, 8, 8, 8, 8, 8, 8, 8, 8, 8, 8, 8, 8, 8, 8, 8, 8, 8, 8, 8, 8, 8, 8, 8, 8, 8, 8, 8, 8, 8, 8, 8, 8, 8, 8, 8, 8, 8, 8, 8, 8, 8, 8, 8, 8, 8, 8, 8, 8, 8, 8, 8, 8, 8, 8, 8, 8, 8, 8, 8, 8, 8, 8, 8, 8, 8, 8, 8, 8, 8, 8, 8, 8, 8, 8, 8, 8, 8, 8, 8, 8, 8, 8, 8, 8, 8, 8, 8, 8, 8, 8, 8, 8, 8, 8, 8, 8, 8, 8, 8, 8, 8, 8, 8, 8]⟩ : ByteArray) (((x0 / 65536) / 256) % 256)))))) else (none)) else (none)) else (if 0 ≤ ((x0 / 65536) % 256) then (if ((x0 / 65536) % 256) < 256 then (some (wrap64 ((wrap64 (x2 + 16)) + (wrap64 (bt (⟨#[0, 1, 2, 2, 3, 3, 3, 3, 4, 4, 4, 4, 4, 4, 4, 4, 5, 5, 5, 5, 5, 5, 5, 5, 5, 5, 5, 5, 5, 5, 5, 5, 6, 6, 6, 6, 6, 6, 6, 6, 6, 6, 6, 6, 6, 6, 6, 6, 6, 6, 6, 6, 6, 6, 6, 6, 6, 6, 6, 6, 6, 6, 6, 6, 7, 7, 7, 7, 7, 7, 7, 7, 7, 7, 7, 7, 7, 7, 7, 7, 7, 7, 7, 7, 7, 7, 7, 7, 7, 7, 7, 7, 7, 7, 7, 7, 7, 7, 7, 7, 7, 7, 7, 7, 7, 7, 7, 7, 7, 7, 7, 7, 7, 7, 7, 7, 7, 7, 7, 7, 7, 7, 7, 7, 7, 7, 7, 7, 8, 8, 8, 8, 8, 8, 8, 8, 8, 8, 8, 8, 8, 8, 8, 8, 8, 8, 8, 8, 8, 8, 8, 8, 8, 8, 8, 8, 8, 8, 8, 8, 8, 8, 8, 8, 8, 8, 8, 8, 8, 8, 8, 8, 8, 8, 8, 8, 8, 8, 8, 8, 8, 8, 8, 8, 8, 8, 8, 8, 8, 8, 8, 8, 8, 8, 8, 8, 8, 8, 8, 8, 8, 8, 8, 8, 8, 8, 8, 8, 8, 8, 8, 8, 8, 8, 8, 8, 8, 8, 8, 8, 8, 8, 8, 8, 8, 8, 8, 8, 8, 8, 8, 8, 8, 8, 8, 8, 8, 8, 8, 8, 8, 8, 8, 8, 8, 8, 8, 8, 8, 8, 8, 8, 8, 8, 8, 8]⟩ : ByteArray) ((x0 / 65536) % 256)))))) else (none)) else (none))) else (if x0 ≥ 256 then (if 0 ≤ ((x0 / 256) % 256) then (if ((x0 / 256) % 256) < 256 then (some (wrap64 ((wrap64 (x2 + 8)) + (wrap64 (bt (⟨#[0, 1, 2, 2, 3, 3, 3, 3, 4, 4, 4, 4, 4, 4, 4, 4, 5, 5, 5, 5, 5, 5, 5, 5, 5, 5, 5, 5, 5, 5, 5, 5, 6, 6, 6, 6, 6, 6, 6, 6, 6, 6, 6, 6, 6, 6, 6, 6, 6, 6, 6, 6, 6, 6, 6, 6, 6, 6, 6, 6, 6, 6, 6, 6, 7, 7, 7, 7, 7, 7, 7, 7, 7, 7, 7, 7, 7, 7, 7, 7, 7, 7, 7, 7, 7, 7, 7, 7, 7, 7, 7, 7, 7, 7, 7, 7, 7, 7, 7, 7, 7, 7, 7, 7, 7, 7, 7, 7, 7, 7, 7, 7, 7, 7, 7, 7, 7, 7, 7, 7, 7, 7, 7, 7, 7, 7, 7, 7, 8, 8, 8, 8, 8, 8, 8, 8, 8, 8, 8, 8, 8, 8, 8, 8, 8, 8, 8, 8, 8, 8, 8, 8, 8, 8, 8, 8, 8, 8, 8, 8, 8, 8, 8, 8, 8, 8, 8, 8, 8, 8, 8, 8, 8, 8, 8, 8, 8, 8, 8, 8, 8, 8, 8, 8, 8, 8, 8, 8, 8, 8, 8, 8, 8, 8, 8, 8, 8, 8, 8, 8, 8, 8, 8, 8, 8, 8, 8, 8, 8, 8, 8, 8, 8, 8, 8, 8, 8, 8, 8, 8, 8, 8, 8, 8, 8, 8, 8, 8, 8, 8, 8, 8, 8, 8, 8, 8, 8, 8, 8, 8, 8, 8, 8, 8, 8, 8, 8, 8, 8, 8, 8, 8, 8, 8, 8, 8]⟩ : ByteArray) ((x0 / 256) % 256)))))) else (none)) else (none)) else (if 0 ≤ ((x0) % 256) then (if ((x0) % 256) < 256 then (some (wrap64 (x2 + (wrap64 (bt (⟨#[0, 1, 2, 2, 3, 3, 3, 3, 4, 4, 4, 4, 4, 4, 4, 4, 5, 5, 5, 5, 5, 5, 5, 5, 5, 5, 5, 5, 5, 5, 5, 5, 6, 6, 6, 6, 6, 6, 6, 6, 6, 6, 6, 6, 6, 6, 6, 6, 6, 6, 6, 6, 6, 6, 6, 6, 6, 6, 6, 6, 6, 6, 6, 6, 7, 7, 7, 7, 7, 7, 7, 7, 7, 7, 7, 7, 7, 7, 7, 7, 7, 7, 7, 7, 7, 7, 7, 7, 7, 7, 7, 7, 7, 7, 7, 7, 7, 7, 7, 7, 7, 7, 7, 7, 7, 7, 7, 7, 7, 7, 7, 7, 7, 7, 7, 7, 7, 7, 7, 7, 7, 7, 7, 7, 7, 7, 7, 7, 8, 8, 8, 8, 8, 8, 8, 8, 8, 8, 8, 8, 8, 8, 8, 8, 8, 8, 8, 8, 8, 8, 8, 8, 8, 8, 8, 8, 8, 8, 8, 8, 8, 8, 8, 8, 8, 8, 8, 8, 8, 8, 8, 8, 8, 8, 8, 8, 8, 8, 8, 8, 8, 8, 8, 8, 8, 8, 8, 8, 8, 8, 8, 8, 8, 8, 8, 8, 8, 8, 8, 8, 8, 8, 8, 8, 8, 8, 8, 8, 8, 8, 8, 8, 8, 8, 8, 8, 8, 8, 8, 8, 8, 8, 8, 8, 8, 8, 8, 8, 8, 8, 8, 8, 8, 8, 8, 8, 8, 8, 8, 8, 8, 8, 8, 8, 8, 8, 8, 8, 8, 8, 8, 8, 8, 8, 8, 8]⟩ : ByteArray) ((x0) % 256)))))) else (none)) else (none)))
def bits_Len64.f (k : Nat) (a0 : Int) : Option (Int) := if a0 ≥ 4294967296 then (bits_Len64.j0 k (a0 / 4294967296) 32) else (bits_Len64.j0 k a0 0)
theorem bits_Len64.mono_l : ∀ k, (∀ y0 y1, LeO (bits_Len64.j0 k y0 y1) (bits_Len64.j0 (k + 1) y0 y1))
  | 0 => fun _ _ r h => by simp [bits_Len64.j0] at h
  | k + 1 => by
   have ih0 := bits_Len64.mono_l k
   ·intro y0 y1
    unfold bits_Len64.j0
    repeat' first | (with_reducible first | exact ih0 .. | exact LeO.refl _ | exact LeO.none _ | refine LeO.ite ?_ ?_ | refine LeO.bind ?_ (fun _ => ?_)) | exact ih0 .. | refine LeO.ite ?_ ?_ | refine LeO.bind ?_ (fun _ => ?_)
theorem bits_Len64.mono : ∀ a0 k, LeO (bits_Len64.f k a0) (bits_Len64.f (k + 1) a0) := by
  intro a0 k
  have ih0 := bits_Len64.mono_l k
  unfold bits_Len64.f
  repeat' first | (with_reducible first | exact ih0 .. | exact LeO.refl _ | exact LeO.none _ | refine LeO.ite ?_ ?_ | refine LeO.bind ?_ (fun _ => ?_)) | exact ih0 .. | refine LeO.ite ?_ ?_ | refine LeO.bind ?_ (fun _ => ?_)
set_option maxHeartbeats 8000000 in
set_option maxRecDepth 100000 in
theorem bits_Len64.calls (k : Nat) (a0 : Int) (r : Int) (w : World) (h : bits_Len64.f k a0 = some r) :
   Calls Try.prog 109 #[.int .u64 a0] w fun e w' => e = .returned (.int .i64 r) ∧ Drawn0 w w' := by
  have H : (if a0 ≥ 4294967296 then (bits_Len64.j0 k (a0 / 4294967296) 32) else (bits_Len64.j0 k a0 0)) = some r := h
  clear h
  have HC2 := ak_ H
  clear H
  go_enter func109, ntmps109
  go_upto_if 4 with (fail)
  go_cut [0, 2] (fun v0 v2 wc => ∃ (kq : Nat) (x0_1 : Int) (x2_1 : Int), v0 = .int .u64 x0_1 ∧ v2 = .int .i64 x2_1 ∧ Aside0 (bits_Len64.j0 kq x0_1 x2_1 = some r) ∧ Aside0 (kq ≤ k) ∧ Drawn0 w wc)
  case first =>
   have H := HC2.out
   clear HC2
   by_cases c3 : a0 ≥ 4294967296
   ·rw [if_pos c3] at H
    have c3b0 : decide (4294967296 ≤ a0) = true := decide_eq_true c3
    clear c3
    (first | rw [c3b0] | (simp only [i64_w, i32_w]; rw [c3b0]) | skip)
    have H' := ak_ H
    clear H
    go_wp2
    go_meet
    case rel => exact ⟨_, (a0 / 4294967296), (32), rf_, rf_, H', ⟨by first | omega | exact Nat.le_refl _⟩, by repeat (first | exact Drawn0.refl _ | apply Drawn0.step)⟩
   ·rw [if_neg c3] at H
    have c3b0 : decide (4294967296 ≤ a0) = false := decide_eq_false c3
    clear c3
    (first | rw [c3b0] | (simp only [i64_w, i32_w]; rw [c3b0]) | skip)
    have H' := ak_ H
    clear H
    go_wp2
    go_meet
    case rel => exact ⟨_, (a0), (0), rf_, rf_, H', ⟨by first | omega | exact Nat.le_refl _⟩, by repeat (first | exact Drawn0.refl _ | apply Drawn0.step)⟩
  case rest =>
   clear HC2
   try clear c1
   try clear p2
   try clear c3
   try clear c3b0
   obtain ⟨kq, x0_1, x2_1, rfl, rfl, HA, HJ1, ⟨mc1, rfl⟩⟩ := hcut
   cases kq with
   | zero => exact absurd HA.out (by simp [bits_Len64.j0])
   | succ kj1 =>
    have H := HA.out
    clear HA
    simp only [bits_Len64.j0] at H
    by_cases c4 : x0_1 ≥ 65536
    ·rw [if_pos c4] at H
     have c4b0 : decide (65536 ≤ x0_1) = true := decide_eq_true c4
     clear c4
     by_cases c5 : (x0_1 / 65536) ≥ 256
     ·rw [if_pos c5] at H
      have c5b0 : decide (256 ≤ (x0_1 / 65536)) = true := decide_eq_true c5
      clear c5
      obtain ⟨ji6, hji6⟩ : ∃ j_ : Int, (((x0_1 / 65536) / 256) % 256) = j_ := ⟨_, rfl⟩
      replace H : (if 0 ≤ (ji6) then (if (ji6) < 256 then (some (wrap64 ((wrap64 ((wrap64 (x2_1 + 16)) + 8)) + (wrap64 (bt (⟨#[0, 1, 2, 2, 3, 3, 3, 3, 4, 4, 4, 4, 4, 4, 4, 4, 5, 5, 5, 5, 5, 5, 5, 5, 5, 5, 5, 5, 5, 5, 5, 5, 6, 6, 6, 6, 6, 6, 6, 6, 6, 6, 6, 6, 6, 6, 6, 6, 6, 6, 6, 6, 6, 6, 6, 6, 6, 6, 6, 6, 6, 6, 6, 6, 7, 7, 7, 7, 7, 7, 7, 7, 7, 7, 7, 7, 7, 7, 7, 7, 7, 7, 7, 7, 7, 7, 7, 7, 7, 7, 7, 7, 7, 7, 7, 7, 7, 7, 7, 7, 7, 7, 7, 7, 7, 7, 7, 7, 7, 7, 7, 7, 7, 7, 7, 7, 7, 7, 7, 7, 7, 7, 7, 7, 7, 7, 7, 7, 8, 8, 8, 8, 8, 8, 8, 8, 8, 8, 8, 8, 8, 8, 8, 8, 8, 8, 8, 8, 8, 8, 8, 8, 8, 8, 8, 8, 8, 8, 8, 8, 8, 8, 8, 8, 8, 8, 8, 8, 8, 8, 8, 8, 8, 8, 8, 8, 8, 8, 8, 8, 8, 8, 8, 8, 8, 8, 8, 8, 8, 8, 8, 8, 8, 8, 8, 8, 8, 8, 8, 8, 8, 8, 8, 8, 8, 8, 8, 8, 8, 8, 8, 8, 8, 8, 8, 8, 8, 8, 8, 8, 8, 8, 8, 8, 8, 8, 8, 8, 8, 8, 8, 8, 8, 8, 8, 8, 8, 8, 8, 8, 8, 8, 8, 8, 8, 8, 8, 8, 8, 8, 8, 8, 8, 8, 8, 8]⟩ : ByteArray) (ji6)))))) else (none)) else (none)) = some r := by first | (rw [hji6] at H; exact H) | (simp only [hji6] at H ⊢; exact H)
      by_cases c7 : 0 ≤ (ji6)
      ·rw [if_pos c7] at H
       have c7b0 := decide_eq_true c7
       clear c7
       by_cases c8 : (ji6) < 256
       ·rw [if_pos c8] at H
        have c8b0 := decide_eq_true c8
        clear c8
        obtain rfl := Option.some.inj H
        have p9 : 0 ≤ ((ji6) : Int) := od_ (by first | (with_reducible assumption) | assumption)
        have q9 : (ji6) < (256 : Int) := od_ (by first | (with_reducible assumption) | assumption)
        have hx9 := bt_at (⟨#[0, 1, 2, 2, 3, 3, 3, 3, 4, 4, 4, 4, 4, 4, 4, 4, 5, 5, 5, 5, 5, 5, 5, 5, 5, 5, 5, 5, 5, 5, 5, 5, 6, 6, 6, 6, 6, 6, 6, 6, 6, 6, 6, 6, 6, 6, 6, 6, 6, 6, 6, 6, 6, 6, 6, 6, 6, 6, 6, 6, 6, 6, 6, 6, 7, 7, 7, 7, 7, 7, 7, 7, 7, 7, 7, 7, 7, 7, 7, 7, 7, 7, 7, 7, 7, 7, 7, 7, 7, 7, 7, 7, 7, 7, 7, 7, 7, 7, 7, 7, 7, 7, 7, 7, 7, 7, 7, 7, 7, 7, 7, 7, 7, 7, 7, 7, 7, 7, 7, 7, 7, 7, 7, 7, 7, 7, 7, 7, 8, 8, 8, 8, 8, 8, 8, 8, 8, 8, 8, 8, 8, 8, 8, 8, 8, 8, 8, 8, 8, 8, 8, 8, 8, 8, 8, 8, 8, 8, 8, 8, 8, 8, 8, 8, 8, 8, 8, 8, 8, 8, 8, 8, 8, 8, 8, 8, 8, 8, 8, 8, 8, 8, 8, 8, 8, 8, 8, 8, 8, 8, 8, 8, 8, 8, 8, 8, 8, 8, 8, 8, 8, 8, 8, 8, 8, 8, 8, 8, 8, 8, 8, 8, 8, 8, 8, 8, 8, 8, 8, 8, 8, 8, 8, 8, 8, 8, 8, 8, 8, 8, 8, 8, 8, 8, 8, 8, 8, 8, 8, 8, 8, 8, 8, 8, 8, 8, 8, 8, 8, 8, 8, 8, 8, 8, 8, 8]⟩ : ByteArray) (ji6)
        replace p9 := eq_true p9
        replace q9 := eq_true q9
        go_wp2
        go_ret
        exact ⟨by first | rfl | (simp; done) | (simp only [← hji6] <;> (first | rfl | simp)) | (simp [*]; done), by repeat (first | exact Drawn0.refl _ | apply Drawn0.step)⟩
       ·rw [if_neg c8] at H
        exact absurd H (by simp)
      ·rw [if_neg c7] at H
       exact absurd H (by simp)
     ·rw [if_neg c5] at H
      have c5b0 : decide (256 ≤ (x0_1 / 65536)) = false := decide_eq_false c5
      clear c5
      obtain ⟨ji10, hji10⟩ : ∃ j_ : Int, ((x0_1 / 65536) % 256) = j_ := ⟨_, rfl⟩
      replace H : (if 0 ≤ (ji10) then (if (ji10) < 256 then (some (wrap64 ((wrap64 (x2_1 + 16)) + (wrap64 (bt (⟨#[0, 1, 2, 2, 3, 3, 3, 3, 4, 4, 4, 4, 4, 4, 4, 4, 5, 5, 5, 5, 5, 5, 5, 5, 5, 5, 5, 5, 5, 5, 5, 5, 6, 6, 6, 6, 6, 6, 6, 6, 6, 6, 6, 6, 6, 6, 6, 6, 6, 6, 6, 6, 6, 6, 6, 6, 6, 6, 6, 6, 6, 6, 6, 6, 7, 7, 7, 7, 7, 7, 7, 7, 7, 7, 7, 7, 7, 7, 7, 7, 7, 7, 7, 7, 7, 7, 7, 7, 7, 7, 7, 7, 7, 7, 7, 7, 7, 7, 7, 7, 7, 7, 7, 7, 7, 7, 7, 7, 7, 7, 7, 7, 7, 7, 7, 7, 7, 7, 7, 7, 7, 7, 7, 7, 7, 7, 7, 7, 8, 8, 8, 8, 8, 8, 8, 8, 8, 8, 8, 8, 8, 8, 8, 8, 8, 8, 8, 8, 8, 8, 8, 8, 8, 8, 8, 8, 8, 8, 8, 8, 8, 8, 8, 8, 8, 8, 8, 8, 8, 8, 8, 8, 8, 8, 8, 8, 8, 8, 8, 8, 8, 8, 8, 8, 8, 8, 8, 8, 8, 8, 8, 8, 8, 8, 8, 8, 8, 8, 8, 8, 8, 8, 8, 8, 8, 8, 8, 8, 8, 8, 8, 8, 8, 8, 8, 8, 8, 8, 8, 8, 8, 8, 8, 8, 8, 8, 8, 8, 8, 8, 8, 8, 8, 8, 8, 8, 8, 8, 8, 8, 8, 8, 8, 8, 8, 8, 8, 8, 8, 8, 8, 8, 8, 8, 8, 8]⟩ : ByteArray) (ji10)))))) else (none)) else (none)) = some r := by first | (rw [hji10] at H; exact H) | (simp only [hji10] at H ⊢; exact H)
      by_cases c11 : 0 ≤ (ji10)
      ·rw [if_pos c11] at H
       have c11b0 := decide_eq_true c11
       clear c11
       by_cases c12 : (ji10) < 256
       ·rw [if_pos c12] at H
        have c12b0 := decide_eq_true c12
        clear c12
        obtain rfl := Option.some.inj H
        have p13 : 0 ≤ ((ji10) : Int) := od_ (by first | (with_reducible assumption) | assumption)
        have q13 : (ji10) < (256 : Int) := od_ (by first | (with_reducible assumption) | assumption)
        have hx13 := bt_at (⟨#[0, 1, 2, 2, 3, 3, 3, 3, 4, 4, 4, 4, 4, 4, 4, 4, 5, 5, 5, 5, 5, 5, 5, 5, 5, 5, 5, 5, 5, 5, 5, 5, 6, 6, 6, 6, 6, 6, 6, 6, 6, 6, 6, 6, 6, 6, 6, 6, 6, 6, 6, 6, 6, 6, 6, 6, 6, 6, 6, 6, 6, 6, 6, 6, 7, 7, 7, 7, 7, 7, 7, 7, 7, 7, 7, 7, 7, 7, 7, 7, 7, 7, 7, 7, 7, 7, 7, 7, 7, 7, 7, 7, 7, 7, 7, 7, 7, 7, 7, 7, 7, 7, 7, 7, 7, 7, 7, 7, 7, 7, 7, 7, 7, 7, 7, 7, 7, 7, 7, 7, 7, 7, 7, 7, 7, 7, 7, 7, 8, 8, 8, 8, 8, 8, 8, 8, 8, 8, 8, 8, 8, 8, 8, 8, 8, 8, 8, 8, 8, 8, 8, 8, 8, 8, 8, 8, 8, 8, 8, 8, 8, 8, 8, 8, 8, 8, 8, 8, 8, 8, 8, 8, 8, 8, 8, 8, 8, 8, 8, 8, 8, 8, 8, 8, 8, 8, 8, 8, 8, 8, 8, 8, 8, 8, 8, 8, 8, 8, 8, 8, 8, 8, 8, 8, 8, 8, 8, 8, 8, 8, 8, 8, 8, 8, 8, 8, 8, 8, 8, 8, 8, 8, 8, 8, 8, 8, 8, 8, 8, 8, 8, 8, 8, 8, 8, 8, 8, 8, 8, 8, 8, 8, 8, 8, 8, 8, 8, 8, 8, 8, 8, 8, 8, 8, 8, 8]⟩ : ByteArray) (ji10)
        replace p13 := eq_true p13
        replace q13 := eq_true q13
        go_wp2
        go_ret
        exact ⟨by first | rfl | (simp; done) | (simp only [← hji10] <;> (first | rfl | simp)) | (simp [*]; done), by repeat (first | exact Drawn0.refl _ | apply Drawn0.step)⟩
       ·rw [if_neg c12] at H
        exact absurd H (by simp)
      ·rw [if_neg c11] at H
       exact absurd H (by simp)
    ·rw [if_neg c4] at H
     have c4b0 : decide (65536 ≤ x0_1) = false := decide_eq_false c4
     clear c4
     by_cases c14 : x0_1 ≥ 256
     ·rw [if_pos c14] at H
      have c14b0 : decide (256 ≤ x0_1) = true := decide_eq_true c14
      clear c14
      obtain ⟨ji15, hji15⟩ : ∃ j_ : Int, ((x0_1 / 256) % 256) = j_ := ⟨_, rfl⟩
      replace H : (if 0 ≤ (ji15) then (if (ji15) < 256 then (some (wrap64 ((wrap64 (x2_1 + 8)) + (wrap64 (bt (⟨#[0, 1, 2, 2, 3, 3, 3, 3, 4, 4, 4, 4, 4, 4, 4, 4, 5, 5, 5, 5, 5, 5, 5, 5, 5, 5, 5, 5, 5, 5, 5, 5, 6, 6, 6, 6, 6, 6, 6, 6, 6, 6, 6, 6, 6, 6, 6, 6, 6, 6, 6, 6, 6, 6, 6, 6, 6, 6, 6, 6, 6, 6, 6, 6, 7, 7, 7, 7, 7, 7, 7, 7, 7, 7, 7, 7, 7, 7, 7, 7, 7, 7, 7, 7, 7, 7, 7, 7, 7, 7, 7, 7, 7, 7, 7, 7, 7, 7, 7, 7, 7, 7, 7, 7, 7, 7, 7, 7, 7, 7, 7, 7, 7, 7, 7, 7, 7, 7, 7, 7, 7, 7, 7, 7, 7, 7, 7, 7, 8, 8, 8, 8, 8, 8, 8, 8, 8, 8, 8, 8, 8, 8, 8, 8, 8, 8, 8, 8, 8, 8, 8, 8, 8, 8, 8, 8, 8, 8, 8, 8, 8, 8, 8, 8, 8, 8, 8, 8, 8, 8, 8, 8, 8, 8, 8, 8, 8, 8, 8, 8, 8, 8, 8, 8, 8, 8, 8, 8, 8, 8, 8, 8, 8, 8, 8, 8, 8, 8, 8, 8, 8, 8, 8, 8, 8, 8, 8, 8, 8, 8, 8, 8, 8, 8, 8, 8, 8, 8, 8, 8, 8, 8, 8, 8, 8, 8, 8, 8, 8, 8, 8, 8, 8, 8, 8, 8, 8, 8, 8, 8, 8, 8, 8, 8, 8, 8, 8, 8, 8, 8, 8, 8, 8, 8, 8, 8]⟩ : ByteArray) (ji15)))))) else (none)) else (none)) = some r := by first | (rw [hji15] at H; exact H) | (simp only [hji15] at H ⊢; exact H)
      by_cases c16 : 0 ≤ (ji15)
      ·rw [if_pos c16] at H
       have c16b0 := decide_eq_true c16
       clear c16
       by_cases c17 : (ji15) < 256
       ·rw [if_pos c17] at H
        have c17b0 := decide_eq_true c17
        clear c17
        obtain rfl := Option.some.inj H
        have p18 : 0 ≤ ((ji15) : Int) := od_ (by first | (with_reducible assumption) | assumption)
        have q18 : (ji15) < (256 : Int) := od_ (by first | (with_reducible assumption) | assumption)
        have hx18 := bt_at (⟨#[0, 1, 2, 2, 3, 3, 3, 3, 4, 4, 4, 4, 4, 4, 4, 4, 5, 5, 5, 5, 5, 5, 5, 5, 5, 5, 5, 5, 5, 5, 5, 5, 6, 6, 6, 6, 6, 6, 6, 6, 6, 6, 6, 6, 6, 6, 6, 6, 6, 6, 6, 6, 6, 6, 6, 6, 6, 6, 6, 6, 6, 6, 6, 6, 7, 7, 7, 7, 7, 7, 7, 7, 7, 7, 7, 7, 7, 7, 7, 7, 7, 7, 7, 7, 7, 7, 7, 7, 7, 7, 7, 7, 7, 7, 7, 7, 7, 7, 7, 7, 7, 7, 7, 7, 7, 7, 7, 7, 7, 7, 7, 7, 7, 7, 7, 7, 7, 7, 7, 7, 7, 7, 7, 7, 7, 7, 7, 7, 8, 8, 8, 8, 8, 8, 8, 8, 8, 8, 8, 8, 8, 8, 8, 8, 8, 8, 8, 8, 8, 8, 8, 8, 8, 8, 8, 8, 8, 8, 8, 8, 8, 8, 8, 8, 8, 8, 8, 8, 8, 8, 8, 8, 8, 8, 8, 8, 8, 8, 8, 8, 8, 8, 8, 8, 8, 8, 8, 8, 8, 8, 8, 8, 8, 8, 8, 8, 8, 8, 8, 8, 8, 8, 8, 8, 8, 8, 8, 8, 8, 8, 8, 8, 8, 8, 8, 8, 8, 8, 8, 8, 8, 8, 8, 8, 8, 8, 8, 8, 8, 8, 8, 8, 8, 8, 8, 8, 8, 8, 8, 8, 8, 8, 8, 8, 8, 8, 8, 8, 8, 8, 8, 8, 8, 8, 8, 8]⟩ : ByteArray) (ji15)
        replace p18 := eq_true p18
        replace q18 := eq_true q18
        go_wp2
        go_ret
        exact ⟨by first | rfl | (simp; done) | (simp only [← hji15] <;> (first | rfl | simp)) | (simp [*]; done), by repeat (first | exact Drawn0.refl _ | apply Drawn0.step)⟩
       ·rw [if_neg c17] at H
        exact absurd H (by simp)
      ·rw [if_neg c16] at H
       exact absurd H (by simp)
     ·rw [if_neg c14] at H
      have c14b0 : decide (256 ≤ x0_1) = false := decide_eq_false c14
      clear c14
      obtain ⟨ji19, hji19⟩ : ∃ j_ : Int, ((x0_1) % 256) = j_ := ⟨_, rfl⟩
      replace H : (if 0 ≤ (ji19) then (if (ji19) < 256 then (some (wrap64 (x2_1 + (wrap64 (bt (⟨#[0, 1, 2, 2, 3, 3, 3, 3, 4, 4, 4, 4, 4, 4, 4, 4, 5, 5, 5, 5, 5, 5, 5, 5, 5, 5, 5, 5, 5, 5, 5, 5, 6, 6, 6, 6, 6, 6, 6, 6, 6, 6, 6, 6, 6, 6, 6, 6, 6, 6, 6, 6, 6, 6, 6, 6, 6, 6, 6, 6, 6, 6, 6, 6, 7, 7, 7, 7, 7, 7, 7, 7, 7, 7, 7, 7, 7, 7, 7, 7, 7, 7, 7, 7, 7, 7, 7, 7, 7, 7, 7, 7, 7, 7, 7, 7, 7, 7, 7, 7, 7, 7, 7, 7, 7, 7, 7, 7, 7, 7, 7, 7, 7, 7, 7, 7, 7, 7, 7, 7, 7, 7, 7, 7, 7, 7, 7, 7, 8, 8, 8, 8, 8, 8, 8, 8, 8, 8, 8, 8, 8, 8, 8, 8, 8, 8, 8, 8, 8, 8, 8, 8, 8, 8, 8, 8, 8, 8, 8, 8, 8, 8, 8, 8, 8, 8, 8, 8, 8, 8, 8, 8, 8, 8, 8, 8, 8, 8, 8, 8, 8, 8, 8, 8, 8, 8, 8, 8, 8, 8, 8, 8, 8, 8, 8, 8, 8, 8, 8, 8, 8, 8, 8, 8, 8, 8, 8, 8, 8, 8, 8, 8, 8, 8, 8, 8, 8, 8, 8, 8, 8, 8, 8, 8, 8, 8, 8, 8, 8, 8, 8, 8, 8, 8, 8, 8, 8, 8, 8, 8, 8, 8, 8, 8, 8, 8, 8, 8, 8, 8, 8, 8, 8, 8, 8, 8]⟩ : ByteArray) (ji19)))))) else (none)) else (none)) = some r := by first | (rw [hji19] at H; exact H) | (simp only [hji19] at H ⊢; exact H)
      by_cases c20 : 0 ≤ (ji19)
      ·rw [if_pos c20] at H
       have c20b0 := decide_eq_true c20
       clear c20
       by_cases c21 : (ji19) < 256
       ·rw [if_pos c21] at H
        have c21b0 := decide_eq_true c21
        clear c21
        obtain rfl := Option.some.inj H
        have p22 : 0 ≤ ((ji19) : Int) := od_ (by first | (with_reducible assumption) | assumption)
        have q22 : (ji19) < (256 : Int) := od_ (by first | (with_reducible assumption) | assumption)
        have hx22 := bt_at (⟨#[0, 1, 2, 2, 3, 3, 3, 3, 4, 4, 4, 4, 4, 4, 4, 4, 5, 5, 5, 5, 5, 5, 5, 5, 5, 5, 5, 5, 5, 5, 5, 5, 6, 6, 6, 6, 6, 6, 6, 6, 6, 6, 6, 6, 6, 6, 6, 6, 6, 6, 6, 6, 6, 6, 6, 6, 6, 6, 6, 6, 6, 6, 6, 6, 7, 7, 7, 7, 7, 7, 7, 7, 7, 7, 7, 7, 7, 7, 7, 7, 7, 7, 7, 7, 7, 7, 7, 7, 7, 7, 7, 7, 7, 7, 7, 7, 7, 7, 7, 7, 7, 7, 7, 7, 7, 7, 7, 7, 7, 7, 7, 7, 7, 7, 7, 7, 7, 7, 7, 7, 7, 7, 7, 7, 7, 7, 7, 7, 8, 8, 8, 8, 8, 8, 8, 8, 8, 8, 8, 8, 8, 8, 8, 8, 8, 8, 8, 8, 8, 8, 8, 8, 8, 8, 8, 8, 8, 8, 8, 8, 8, 8, 8, 8, 8, 8, 8, 8, 8, 8, 8, 8, 8, 8, 8, 8, 8, 8, 8, 8, 8, 8, 8, 8, 8, 8, 8, 8, 8, 8, 8, 8, 8, 8, 8, 8, 8, 8, 8, 8, 8, 8, 8, 8, 8, 8, 8, 8, 8, 8, 8, 8, 8, 8, 8, 8, 8, 8, 8, 8, 8, 8, 8, 8, 8, 8, 8, 8, 8, 8, 8, 8, 8, 8, 8, 8, 8, 8, 8, 8, 8, 8, 8, 8, 8, 8, 8, 8, 8, 8, 8, 8, 8, 8, 8, 8]⟩ : ByteArray) (ji19)
        replace p22 := eq_true p22
        replace q22 := eq_true q22
        go_wp2
        go_ret
        exact ⟨by first | rfl | (simp; done) | (simp only [← hji19] <;> (first | rfl | simp)) | (simp [*]; done), by repeat (first | exact Drawn0.refl _ | apply Drawn0.step)⟩
       ·rw [if_neg c21] at H
        exact absurd H (by simp)
      ·rw [if_neg c20] at H
       exact absurd H (by simp)
def node_depth.f (k : Nat) (a0 : Int) : Option (Int) := (bits_Len64.f k a0).bind fun t101 => (some (wrap64 (t101 - 1)))
theorem node_depth.mono : ∀ a0 k, LeO (node_depth.f k a0) (node_depth.f (k + 1) a0) := by
  intro a0 k
  unfold node_depth.f
  repeat' first | (with_reducible first | exact bits_Len64.mono .. | exact LeO.refl _ | exact LeO.none _ | refine LeO.ite ?_ ?_ | refine LeO.bind ?_ (fun _ => ?_)) | exact bits_Len64.mono .. | refine LeO.ite ?_ ?_ | refine LeO.bind ?_ (fun _ => ?_)
set_option maxHeartbeats 8000000 in
set_option maxRecDepth 100000 in
theorem node_depth.calls (k : Nat) (a0 : Int) (r : Int) (w : World) (h : node_depth.f k a0 = some r) :
   Calls Try.prog 95 #[.int .u64 a0] w fun e w' => e = .returned (.int .i64 r) ∧ Drawn0 w w' := by
  have H : ((bits_Len64.f k a0).bind fun t101 => (some (wrap64 (t101 - 1)))) = some r := h
  clear h
  replace H := bind_eq_some_iff.mp H
  obtain ⟨t101, A20, H⟩ := H
  replace H : (some (wrap64 (t101 - 1))) = some r := H
  have A2 := ak_ A20
  clear A20
  obtain rfl := Option.some.inj H
  go_enter func95, ntmps95
  go_wp2_with (first | ((with_reducible refine gate_callee (f := 109) rfl ?_); refine gl_ (some 4) func109 #[.int .u64 a0] ?_; (with_reducible refine (bits_Len64.calls k a0 t101 _ A2.out).mono ?_); rintro e w' ⟨rfl, ⟨nd, rfl⟩⟩; refine ⟨_, rfl, ?_⟩))
  go_ret
  exact ⟨by first | rfl | (simp; done) | (simp [*]; done), by repeat (first | exact Drawn0.refl _ | apply Drawn0.step)⟩
def node_Check.f (k : Nat) (a0 : Int) (a1 : Int) : Option (Int) := (node_high.f a0).bind fun t102 => (if t102 = true then (if a1 < 1 then (some 1) else ((node_depth.f k a1).bind fun t103 => (if t103 > a0 then (some 1) else (some 0)))) else (some 1))
theorem node_Check.mono : ∀ a0 a1 k, LeO (node_Check.f k a0 a1) (node_Check.f (k + 1) a0 a1) := by
  intro a0 a1 k
  unfold node_Check.f
  repeat' first | (with_reducible first | exact node_depth.mono .. | exact LeO.refl _ | exact LeO.none _ | refine LeO.ite ?_ ?_ | refine LeO.bind ?_ (fun _ => ?_)) | exact node_depth.mono .. | refine LeO.ite ?_ ?_ | refine LeO.bind ?_ (fun _ => ?_)
set_option maxHeartbeats 8000000 in
set_option maxRecDepth 100000 in
theorem node_Check.calls (k : Nat) (a0 : Int) (a1 : Int) (r : Int) (w : World) (h : node_Check.f k a0 a1 = some r) :
   Calls Try.prog 72 #[.int .i64 a0, .int .u64 a1] w fun e w' => e = .returned (.int .i64 r) ∧ Drawn0 w w' := by
  have H : ((node_high.f a0).bind fun t102 => (if t102 = true then (if a1 < 1 then (some 1) else ((node_depth.f k a1).bind fun t103 => (if t103 > a0 then (some 1) else (some 0)))) else (some 1))) = some r := h
  clear h
  replace H := bind_eq_some_iff.mp H
  obtain ⟨t102, A30, H⟩ := H
  replace H : (if t102 = true then (if a1 < 1 then (some 1) else ((node_depth.f k a1).bind fun t103 => (if t103 > a0 then (some 1) else (some 0)))) else (some 1)) = some r := H
  have A3 := ak_ A30
  clear A30
  by_cases c4 : t102 = true
  ·subst c4
   have H1 : (if a1 < 1 then (some 1) else ((node_depth.f k a1).bind fun t103 => (if t103 > a0 then (some 1) else (some 0)))) = some r := by rw [if_pos rfl] at H; exact H
   clear H
   have H := H1
   clear H1
   by_cases c5 : a1 < 1
   ·rw [if_pos c5] at H
    have c5b0 := decide_eq_true c5
    clear c5
    obtain rfl := Option.some.inj H
    go_enter func72, ntmps72
    go_wp2_with (first | ((with_reducible refine gate_callee (f := 74) rfl ?_); refine gl_ (some 6) func74 #[.int .i64 a0] ?_; (with_reducible refine (node_high.calls a0 true _ A3.out).mono ?_); rintro e w' ⟨rfl, ⟨nd, rfl⟩⟩; refine ⟨_, rfl, ?_⟩))
    go_ret
    exact ⟨by first | rfl | (simp; done) | (simp [*]; done), by repeat (first | exact Drawn0.refl _ | apply Drawn0.step)⟩
   ·rw [if_neg c5] at H
    have c5b0 := decide_eq_false c5
    clear c5
    replace H := bind_eq_some_iff.mp H
    obtain ⟨t103, A60, H⟩ := H
    replace H : (if t103 > a0 then (some 1) else (some 0)) = some r := H
    have A6 := ak_ A60
    clear A60
    by_cases c7 : t103 > a0
    ·rw [if_pos c7] at H
     have c7b0 : decide (a0 < t103) = true := decide_eq_true c7
     clear c7
     obtain rfl := Option.some.inj H
     go_enter func72, ntmps72
     go_wp2_with (first | ((with_reducible refine gate_callee (f := 74) rfl ?_); refine gl_ (some 6) func74 #[.int .i64 a0] ?_; (with_reducible refine (node_high.calls a0 true _ A3.out).mono ?_); rintro e w' ⟨rfl, ⟨nd, rfl⟩⟩; refine ⟨_, rfl, ?_⟩) | (go_at_call 95; (with_reducible refine (node_depth.calls k a1 t103 _ A6.out).mono ?_); rintro e w' ⟨rfl, ⟨nd, rfl⟩⟩))
     go_ret
     exact ⟨by first | rfl | (simp; done) | (simp [*]; done), by repeat (first | exact Drawn0.refl _ | apply Drawn0.step)⟩
    ·rw [if_neg c7] at H
     have c7b0 : decide (a0 < t103) = false := decide_eq_false c7
     clear c7
     obtain rfl := Option.some.inj H
     go_enter func72, ntmps72
     go_wp2_with (first | ((with_reducible refine gate_callee (f := 74) rfl ?_); refine gl_ (some 6) func74 #[.int .i64 a0] ?_; (with_reducible refine (node_high.calls a0 true _ A3.out).mono ?_); rintro e w' ⟨rfl, ⟨nd, rfl⟩⟩; refine ⟨_, rfl, ?_⟩) | (go_at_call 95; (with_reducible refine (node_depth.calls k a1 t103 _ A6.out).mono ?_); rintro e w' ⟨rfl, ⟨nd, rfl⟩⟩))
     go_ret
     exact ⟨by first | rfl | (simp; done) | (simp [*]; done), by repeat (first | exact Drawn0.refl _ | apply Drawn0.step)⟩
  ·replace c4 := Bool.eq_false_iff.mpr c4
   subst c4
   have H1 : (some 1) = some r := by rw [if_neg (show ¬ (false = true) by decide)] at H; exact H
   clear H
   have H := H1
   clear H1
   obtain rfl := Option.some.inj H
   go_enter func72, ntmps72
   go_wp2_with (first | ((with_reducible refine gate_callee (f := 74) rfl ?_); refine gl_ (some 6) func74 #[.int .i64 a0] ?_; (with_reducible refine (node_high.calls a0 false _ A3.out).mono ?_); rintro e w' ⟨rfl, ⟨nd, rfl⟩⟩; refine ⟨_, rfl, ?_⟩))
   go_ret
   exact ⟨by first | rfl | (simp; done) | (simp [*]; done), by repeat (first | exact Drawn0.refl _ | apply Drawn0.step)⟩
def sub_Step.l0 : Nat → Int → Int → Option (Int × Int)
  | 0, _, _ => none
  | k + 1, x0, x5 => if (wrap64 (x5 * x5)) < x0 then (sub_Step.l0 k x0 (wrap64 (x5 + 1))) else (some (x5, 0))
def sub_Step.f (k : Nat) (a0 : Int) : Option (Int × Int) := (node_Check.f k a0 1).bind fun t104 => (if t104 = 0 then (sub_Step.l0 k a0 1) else (some (0, t104)))
theorem sub_Step.mono_l : ∀ k, (∀ y0 y1, LeO (sub_Step.l0 k y0 y1) (sub_Step.l0 (k + 1) y0 y1))
  | 0 => fun _ _ r h => by simp [sub_Step.l0] at h
  | k + 1 => by
   have ih0 := sub_Step.mono_l k
   ·intro y0 y1
    unfold sub_Step.l0
    repeat' first | (with_reducible first | exact ih0 .. | exact node_Check.mono .. | exact LeO.refl _ | exact LeO.none _ | refine LeO.ite ?_ ?_ | refine LeO.bind ?_ (fun _ => ?_)) | exact ih0 .. | exact node_Check.mono .. | refine LeO.ite ?_ ?_ | refine LeO.bind ?_ (fun _ => ?_)
theorem sub_Step.mono : ∀ a0 k, LeO (sub_Step.f k a0) (sub_Step.f (k + 1) a0) := by
  intro a0 k
  have ih0 := sub_Step.mono_l k
  unfold sub_Step.f
  repeat' first | (with_reducible first | exact ih0 .. | exact node_Check.mono .. | exact LeO.refl _ | exact LeO.none _ | refine LeO.ite ?_ ?_ | refine LeO.bind ?_ (fun _ => ?_)) | exact ih0 .. | exact node_Check.mono .. | refine LeO.ite ?_ ?_ | refine LeO.bind ?_ (fun _ => ?_)
set_option maxHeartbeats 8000000 in
set_option maxRecDepth 100000 in
theorem sub_Step.calls (k : Nat) (a0 : Int) (r1 : Int) (r2 : Int) (w : World) (h : sub_Step.f k a0 = some (r1, r2)) :
   Calls Try.prog 52 #[.int .i64 a0] w fun e w' => e = .returned (.tuple #[.int .i64 r1, .int .i64 r2]) ∧ Drawn0 w w' := by
  have H : ((node_Check.f k a0 1).bind fun t104 => (if t104 = 0 then (sub_Step.l0 k a0 1) else (some (0, t104)))) = some (r1, r2) := h
  clear h
  replace H := bind_eq_some_iff.mp H
  obtain ⟨t104, A20, H⟩ := H
  replace H : (if t104 = 0 then (sub_Step.l0 k a0 1) else (some (0, t104))) = some (r1, r2) := H
  have A2 := ak_ A20
  clear A20
  by_cases c3 : t104 = 0
  ·rw [if_pos c3] at H
   have c3b0 : (t104 == 0) = true := beq_iff_eq.mpr c3
   have c3b1 : (t104 != 0) = false := bne_eq_false_iff_eq.mpr c3
   clear c3
   have H' := ak_ H
   clear H
   go_enter func52, ntmps52
   go_wp2_with (first | ((with_reducible refine gate_callee (f := 72) rfl ?_); refine gl_ (some 7) func72 #[.int .i64 a0, .int .u64 1] ?_; (with_reducible refine (node_Check.calls k a0 1 t104 _ A2.out).mono ?_); rintro e w' ⟨rfl, ⟨nd, rfl⟩⟩; refine ⟨_, rfl, ?_⟩))
   go_loopg [5] k (fun kq v5 w' => ∃ (x5_1 : Int), v5 = .int .i64 x5_1 ∧ Aside0 (sub_Step.l0 kq a0 x5_1 = some (r1, r2)) ∧ Aside0 (kq ≤ k) ∧ Drawn0 w w')
   case atStart => exact ⟨(1), rf_, H', ⟨Nat.le_refl _⟩, by repeat (first | exact Drawn0.refl _ | apply Drawn0.step)⟩
   case round =>
    clear H'
    try clear p2
    try clear c3
    try clear c3b0
    try clear c3b1
    obtain ⟨x5_1, rfl, HA, HK1, ⟨m1, rfl⟩⟩ := hrel
    cases gk with
    | zero => exact absurd HA.out (by simp [sub_Step.l0])
    | succ k1 =>
     have H := HA.out
     clear HA
     simp only [sub_Step.l0] at H
     by_cases c4 : (wrap64 (x5_1 * x5_1)) < a0
     ·rw [if_pos c4] at H
      have c4b0 := decide_eq_true c4
      clear c4
      have H' := ak_ H
      clear H
      go_wp2
      go_roundg k1
      case measure => have := HK1.out; omega
      case rel => exact ⟨(wrap64 (x5_1 + 1)), rf_, H', ⟨by have := HK1.out; omega⟩, by repeat (first | exact Drawn0.refl _ | apply Drawn0.step)⟩
     ·rw [if_neg c4] at H
      have c4b0 := decide_eq_false c4
      clear c4
      simp only [some.injEq, Prod.mk.injEq] at H
      obtain ⟨rfl, rfl⟩ := H
      go_wp2
      go_ret2
      exact ⟨by first | rfl | (simp; done) | (simp [*]; done), by repeat (first | exact Drawn0.refl _ | apply Drawn0.step)⟩
  ·rw [if_neg c3] at H
   have c3b0 : (t104 == 0) = false := beq_eq_false_iff_ne.mpr c3
   have c3b1 : (t104 != 0) = true := bne_iff_ne.mpr c3
   simp only [some.injEq, Prod.mk.injEq] at H
   obtain ⟨rfl, rfl⟩ := H
   go_enter func52, ntmps52
   go_wp2_with (first | ((with_reducible refine gate_callee (f := 72) rfl ?_); refine gl_ (some 7) func72 #[.int .i64 a0, .int .u64 1] ?_; (with_reducible refine (node_Check.calls k a0 1 t104 _ A2.out).mono ?_); rintro e w' ⟨rfl, ⟨nd, rfl⟩⟩; refine ⟨_, rfl, ?_⟩))
   go_ret2
   exact ⟨by first | rfl | (simp; done) | (simp [*]; done), by repeat (first | exact Drawn0.refl _ | apply Drawn0.step)⟩
def layer_Pairs.l0 : Nat → Int → Int → Int → Int → Int → Option (Int × Int)
  | 0, _, _, _, _, _ => none
  | k + 1, x0, x2, x4, x16, x17 => if x17 < x16 then (if x4 = 0 then (none) else (if (Int.tmod x17 x4) = 0 then (layer_Pairs.l0 k x0 (wrap64 (x2 + (wrap64 (x0 - x17)))) x4 x16 (wrap64 (x17 + 1))) else (layer_Pairs.l0 k x0 (wrap64 (x2 + (wrap64 ((mn (wrap64 ((wrap64 ((wrap64 (Int.tdiv x17 x4)) + 1)) * x4)) x0) - x17)))) x4 x16 (wrap64 (x17 + 1))))) else (some (x2, 0))
def layer_Pairs.f (k : Nat) (a0 : Int) : Option (Int × Int) := (sub_Step.f k a0).bind fun bt105 => (if bt105.2 = 0 then (layer_Pairs.l0 k a0 0 bt105.1 a0 0) else (some (0, bt105.2)))
theorem layer_Pairs.mono_l : ∀ k, (∀ y0 y1 y2 y3 y4, LeO (layer_Pairs.l0 k y0 y1 y2 y3 y4) (layer_Pairs.l0 (k + 1) y0 y1 y2 y3 y4))
  | 0 => fun _ _ _ _ _ r h => by simp [layer_Pairs.l0] at h
  | k + 1 => by
   have ih0 := layer_Pairs.mono_l k
   ·intro y0 y1 y2 y3 y4
    unfold layer_Pairs.l0
    repeat' first | (with_reducible first | exact ih0 .. | exact sub_Step.mono .. | exact LeO.refl _ | exact LeO.none _ | refine LeO.ite ?_ ?_ | refine LeO.bind ?_ (fun _ => ?_)) | exact ih0 .. | exact sub_Step.mono .. | refine LeO.ite ?_ ?_ | refine LeO.bind ?_ (fun _ => ?_)
theorem layer_Pairs.mono : ∀ a0 k, LeO (layer_Pairs.f k a0) (layer_Pairs.f (k + 1) a0) := by
  intro a0 k
  have ih0 := layer_Pairs.mono_l k
  unfold layer_Pairs.f
  repeat' first | (with_reducible first | exact ih0 .. | exact sub_Step.mono .. | exact LeO.refl _ | exact LeO.none _ | refine LeO.ite ?_ ?_ | refine LeO.bind ?_ (fun _ => ?_)) | exact ih0 .. | exact sub_Step.mono .. | refine LeO.ite ?_ ?_ | refine LeO.bind ?_ (fun _ => ?_)
set_option maxHeartbeats 8000000 in
set_option maxRecDepth 100000 in
theorem layer_Pairs.calls (k : Nat) (a0 : Int) (r1 : Int) (r2 : Int) (w : World) (h : layer_Pairs.f k a0 = some (r1, r2)) :
   Calls Try.prog 23 #[.int .i64 a0] w fun e w' => e = .returned (.tuple #[.int .i64 r1, .int .i64 r2]) ∧ Below w.heap.size w w' := by
  have HB := ak_ (Below.refl w.heap.size w)
  have H : ((sub_Step.f k a0).bind fun bt105 => (if bt105.2 = 0 then (layer_Pairs.l0 k a0 0 bt105.1 a0 0) else (some (0, bt105.2)))) = some (r1, r2) := h
  clear h
  replace H := bind_eq_some_iff.mp H
  obtain ⟨⟨t105, t106⟩, A20, H⟩ := H
  replace H : (if t106 = 0 then (layer_Pairs.l0 k a0 0 t105 a0 0) else (some (0, t106))) = some (r1, r2) := H
  have A2 := ak_ A20
  clear A20
  by_cases c3 : t106 = 0
  ·rw [if_pos c3] at H
   have c3b0 : (t106 == 0) = true := beq_iff_eq.mpr c3
   have c3b1 : (t106 != 0) = false := bne_eq_false_iff_eq.mpr c3
   clear c3
   have H' := ak_ H
   clear H
   go_enter func23, ntmps23
   go_wp2_with (first | ((with_reducible refine gate_callee (f := 52) rfl ?_); refine gl_ (some 10) func52 #[.int .i64 a0] ?_; (with_reducible refine (sub_Step.calls k a0 t105 t106 _ A2.out).mono ?_); rintro e w' ⟨rfl, ⟨nd, rfl⟩⟩; refine ⟨_, rfl, ?_⟩))
   go_loopg [2, 17] k (fun kq v2 v17 w' => ∃ (x2_1 : Int) (x17_1 : Int), v2 = .int .i64 x2_1 ∧ v17 = .int .i64 x17_1 ∧ Aside0 (layer_Pairs.l0 kq a0 x2_1 t105 a0 x17_1 = some (r1, r2)) ∧ Aside0 (kq ≤ k) ∧ Aside0 (Below w.heap.size w w'))
   case atStart => exact ⟨(0), (0), rf_, rf_, H', ⟨Nat.le_refl _⟩, ⟨bl_ HB⟩⟩
   case round =>
    clear H'
    try clear c2
    try clear p2
    try clear c3
    try clear c3b0
    try clear c3b1
    obtain ⟨x2_1, x17_1, rfl, rfl, HA, HK1, HB⟩ := hrel
    cases gk with
    | zero => exact absurd HA.out (by simp [layer_Pairs.l0])
    | succ k1 =>
     have H := HA.out
     clear HA
     simp only [layer_Pairs.l0] at H
     by_cases c4 : x17_1 < a0
     ·rw [if_pos c4] at H
      have c4b0 := decide_eq_true c4
      clear c4
      by_cases c5 : t105 = 0
      ·rw [if_pos c5] at H
       exact absurd H (by simp)
      ·rw [if_neg c5] at H
       have c5b0 : (t105 == 0) = false := beq_eq_false_iff_ne.mpr c5
       have c5b1 : (t105 != 0) = true := bne_iff_ne.mpr c5
       obtain ⟨ji6, hji6⟩ : ∃ j_ : Int, (mn (wrap64 ((wrap64 ((wrap64 (Int.tdiv x17_1 t105)) + 1)) * t105)) a0) = j_ := ⟨_, rfl⟩
       replace H : (if (Int.tmod x17_1 t105) = 0 then (layer_Pairs.l0 k1 a0 (wrap64 (x2_1 + (wrap64 (a0 - x17_1)))) t105 a0 (wrap64 (x17_1 + 1))) else (layer_Pairs.l0 k1 a0 (wrap64 (x2_1 + (wrap64 ((ji6) - x17_1)))) t105 a0 (wrap64 (x17_1 + 1)))) = some (r1, r2) := by first | (rw [hji6] at H; exact H) | (simp only [hji6] at H ⊢; exact H)
       have hji6_ : (if a0 < (wrap64 ((wrap64 ((wrap64 (Int.tdiv x17_1 t105)) + 1)) * t105)) then a0 else (wrap64 ((wrap64 ((wrap64 (Int.tdiv x17_1 t105)) + 1)) * t105))) = ji6 := hji6
       by_cases c7 : (Int.tmod x17_1 t105) = 0
       ·rw [if_pos c7] at H
        have c7b0 : ((Int.tmod x17_1 t105) == 0) = true := beq_iff_eq.mpr c7
        have c7b1 : ((Int.tmod x17_1 t105) != 0) = false := bne_eq_false_iff_eq.mpr c7
        clear c7
        have H' := ak_ H
        clear H
        go_wp2
        go_roundg k1
        case measure => have := HK1.out; omega
        case rel => exact ⟨(wrap64 (x2_1 + (wrap64 (a0 - x17_1)))), (wrap64 (x17_1 + 1)), rf_, rf_, H', ⟨by have := HK1.out; omega⟩, ⟨bl_ HB⟩⟩
       ·rw [if_neg c7] at H
        have c7b0 : ((Int.tmod x17_1 t105) == 0) = false := beq_eq_false_iff_ne.mpr c7
        have c7b1 : ((Int.tmod x17_1 t105) != 0) = true := bne_iff_ne.mpr c7
        have H' := ak_ H
        clear H
        go_wp2
        go_roundg k1
        case measure => have := HK1.out; omega
        case rel => exact ⟨(wrap64 (x2_1 + (wrap64 ((ji6) - x17_1)))), (wrap64 (x17_1 + 1)), (by first | rfl | (simp; done) | (simp only [← hji6] <;> (first | rfl | simp)) | (simp [*]; done)), rf_, H', ⟨by have := HK1.out; omega⟩, ⟨bl_ HB⟩⟩
     ·rw [if_neg c4] at H
      have c4b0 := decide_eq_false c4
      clear c4
      simp only [some.injEq, Prod.mk.injEq] at H
      obtain ⟨rfl, rfl⟩ := H
      go_wp2
      go_ret2
      exact ea_ (bl_ HB)
  ·rw [if_neg c3] at H
   have c3b0 : (t106 == 0) = false := beq_eq_false_iff_ne.mpr c3
   have c3b1 : (t106 != 0) = true := bne_iff_ne.mpr c3
   simp only [some.injEq, Prod.mk.injEq] at H
   obtain ⟨rfl, rfl⟩ := H
   go_enter func23, ntmps23
   go_wp2_with (first | ((with_reducible refine gate_callee (f := 52) rfl ?_); refine gl_ (some 10) func52 #[.int .i64 a0] ?_; (with_reducible refine (sub_Step.calls k a0 t105 t106 _ A2.out).mono ?_); rintro e w' ⟨rfl, ⟨nd, rfl⟩⟩; refine ⟨_, rfl, ?_⟩))
   go_ret2
   exact ea_ (bl_ HB)
def store_Many.f (k : Nat) (a0 : Int) (a1 : Int) : Option (Int × Int) := (layer_Pairs.f k a0).bind fun bt107 => (if bt107.2 = 0 then (if a1 = 1 then (some (wrap64 (a0 + 1), 0)) else (if a1 = 2 then (some (wrap64 ((wrap64 (Int.tdiv (wrap64 (a0 * (wrap64 (a0 + 1)))) 2)) + 1), 0)) else (if a1 = 3 then (some (wrap64 (bt107.1 + 1), 0)) else (some (0, 1))))) else (some (0, bt107.2)))
theorem store_Many.mono : ∀ a0 a1 k, LeO (store_Many.f k a0 a1) (store_Many.f (k + 1) a0 a1) := by
  intro a0 a1 k
  unfold store_Many.f
  repeat' first | (with_reducible first | exact layer_Pairs.mono .. | exact LeO.refl _ | exact LeO.none _ | refine LeO.ite ?_ ?_ | refine LeO.bind ?_ (fun _ => ?_)) | exact layer_Pairs.mono .. | refine LeO.ite ?_ ?_ | refine LeO.bind ?_ (fun _ => ?_)
set_option maxHeartbeats 8000000 in
set_option maxRecDepth 100000 in
theorem store_Many.calls (k : Nat) (a0 : Int) (a1 : Int) (r1 : Int) (r2 : Int) (w : World) (h : store_Many.f k a0 a1 = some (r1, r2)) :
   Calls Try.prog 8 #[.int .i64 a0, .int .i64 a1] w fun e w' => e = .returned (.tuple #[.int .i64 r1, .int .i64 r2]) ∧ Below w.heap.size w w' := by
  have HB := ak_ (Below.refl w.heap.size w)
  have H : ((layer_Pairs.f k a0).bind fun bt107 => (if bt107.2 = 0 then (if a1 = 1 then (some (wrap64 (a0 + 1), 0)) else (if a1 = 2 then (some (wrap64 ((wrap64 (Int.tdiv (wrap64 (a0 * (wrap64 (a0 + 1)))) 2)) + 1), 0)) else (if a1 = 3 then (some (wrap64 (bt107.1 + 1), 0)) else (some (0, 1))))) else (some (0, bt107.2)))) = some (r1, r2) := h
  clear h
  replace H := bind_eq_some_iff.mp H
  obtain ⟨⟨t107, t108⟩, A30, H⟩ := H
  replace H : (if t108 = 0 then (if a1 = 1 then (some (wrap64 (a0 + 1), 0)) else (if a1 = 2 then (some (wrap64 ((wrap64 (Int.tdiv (wrap64 (a0 * (wrap64 (a0 + 1)))) 2)) + 1), 0)) else (if a1 = 3 then (some (wrap64 (t107 + 1), 0)) else (some (0, 1))))) else (some (0, t108))) = some (r1, r2) := H
  have A3 := ak_ A30
  clear A30
  by_cases c4 : t108 = 0
  ·rw [if_pos c4] at H
   have c4b0 : (t108 == 0) = true := beq_iff_eq.mpr c4
   have c4b1 : (t108 != 0) = false := bne_eq_false_iff_eq.mpr c4
   clear c4
   by_cases c5 : a1 = 1
   ·rw [if_pos c5] at H
    have c5b0 : (a1 == 1) = true := beq_iff_eq.mpr c5
    have c5b1 : (a1 != 1) = false := bne_eq_false_iff_eq.mpr c5
    clear c5
    simp only [some.injEq, Prod.mk.injEq] at H
    obtain ⟨rfl, rfl⟩ := H
    go_enter func8, ntmps8
    go_wp2_with (first | ((with_reducible refine gate_callee (f := 23) rfl ?_); refine gl_ (some 10) func23 #[.int .i64 a0] ?_; (with_reducible refine (layer_Pairs.calls k a0 t107 t108 _ A3.out).mono ?_); rintro e w6 ⟨rfl, hb⟩; refine ⟨_, rfl, ?_⟩; replace HB := ak_ (bt_ (bl_ HB) hb); (try clear hb); (try clear hk)))
    go_ret2
    exact ea_ (bl_ HB)
   ·rw [if_neg c5] at H
    have c5b0 : (a1 == 1) = false := beq_eq_false_iff_ne.mpr c5
    have c5b1 : (a1 != 1) = true := bne_iff_ne.mpr c5
    by_cases c7 : a1 = 2
    ·rw [if_pos c7] at H
     have c7b0 : (a1 == 2) = true := beq_iff_eq.mpr c7
     have c7b1 : (a1 != 2) = false := bne_eq_false_iff_eq.mpr c7
     clear c7
     simp only [some.injEq, Prod.mk.injEq] at H
     obtain ⟨rfl, rfl⟩ := H
     go_enter func8, ntmps8
     go_wp2_with (first | ((with_reducible refine gate_callee (f := 23) rfl ?_); refine gl_ (some 10) func23 #[.int .i64 a0] ?_; (with_reducible refine (layer_Pairs.calls k a0 t107 t108 _ A3.out).mono ?_); rintro e w8 ⟨rfl, hb⟩; refine ⟨_, rfl, ?_⟩; replace HB := ak_ (bt_ (bl_ HB) hb); (try clear hb); (try clear hk)))
     go_ret2
     exact ea_ (bl_ HB)
    ·rw [if_neg c7] at H
     have c7b0 : (a1 == 2) = false := beq_eq_false_iff_ne.mpr c7
     have c7b1 : (a1 != 2) = true := bne_iff_ne.mpr c7
     by_cases c9 : a1 = 3
     ·rw [if_pos c9] at H
      have c9b0 : (a1 == 3) = true := beq_iff_eq.mpr c9
      have c9b1 : (a1 != 3) = false := bne_eq_false_iff_eq.mpr c9
      clear c9
      simp only [some.injEq, Prod.mk.injEq] at H
      obtain ⟨rfl, rfl⟩ := H
      go_enter func8, ntmps8
      go_wp2_with (first | ((with_reducible refine gate_callee (f := 23) rfl ?_); refine gl_ (some 10) func23 #[.int .i64 a0] ?_; (with_reducible refine (layer_Pairs.calls k a0 t107 t108 _ A3.out).mono ?_); rintro e w10 ⟨rfl, hb⟩; refine ⟨_, rfl, ?_⟩; replace HB := ak_ (bt_ (bl_ HB) hb); (try clear hb); (try clear hk)))
      go_ret2
      exact ea_ (bl_ HB)
     ·rw [if_neg c9] at H
      have c9b0 : (a1 == 3) = false := beq_eq_false_iff_ne.mpr c9
      have c9b1 : (a1 != 3) = true := bne_iff_ne.mpr c9
      simp only [some.injEq, Prod.mk.injEq] at H
      obtain ⟨rfl, rfl⟩ := H
      go_enter func8, ntmps8
      go_wp2_with (first | ((with_reducible refine gate_callee (f := 23) rfl ?_); refine gl_ (some 10) func23 #[.int .i64 a0] ?_; (with_reducible refine (layer_Pairs.calls k a0 t107 t108 _ A3.out).mono ?_); rintro e w11 ⟨rfl, hb⟩; refine ⟨_, rfl, ?_⟩; replace HB := ak_ (bt_ (bl_ HB) hb); (try clear hb); (try clear hk)))
      go_ret2
      exact ea_ (bl_ HB)
  ·rw [if_neg c4] at H
   have c4b0 : (t108 == 0) = false := beq_eq_false_iff_ne.mpr c4
   have c4b1 : (t108 != 0) = true := bne_iff_ne.mpr c4
   simp only [some.injEq, Prod.mk.injEq] at H
   obtain ⟨rfl, rfl⟩ := H
   go_enter func8, ntmps8
   go_wp2_with (first | ((with_reducible refine gate_callee (f := 23) rfl ?_); refine gl_ (some 10) func23 #[.int .i64 a0] ?_; (with_reducible refine (layer_Pairs.calls k a0 t107 t108 _ A3.out).mono ?_); rintro e w12 ⟨rfl, hb⟩; refine ⟨_, rfl, ?_⟩; replace HB := ak_ (bt_ (bl_ HB) hb); (try clear hb); (try clear hk)))
   go_ret2
   exact ea_ (bl_ HB)
def node_Leaf.f (a0 : Int) (a1 : Int) : Option (Int × Int) := (node_high.f a0).bind fun t109 => (if t109 = true then (if 0 ≤ a0 then (if (shr .u64 a1 a0) > 0 then (some (0, 4)) else (some (Go.bits .or .u64 (shl .u64 1 a0) a1, 0))) else (none)) else (some (0, 1)))
set_option maxHeartbeats 8000000 in
set_option maxRecDepth 100000 in
theorem node_Leaf.calls (a0 : Int) (a1 : Int) (r1 : Int) (r2 : Int) (w : World) (h : node_Leaf.f a0 a1 = some (r1, r2)) :
   Calls Try.prog 42 #[.int .i64 a0, .int .u64 a1] w fun e w' => e = .returned (.tuple #[.int .u64 r1, .int .i64 r2]) ∧ Drawn0 w w' := by
  have H : ((node_high.f a0).bind fun t109 => (if t109 = true then (if 0 ≤ a0 then (if (shr .u64 a1 a0) > 0 then (some (0, 4)) else (some (Go.bits .or .u64 (shl .u64 1 a0) a1, 0))) else (none)) else (some (0, 1)))) = some (r1, r2) := h
  clear h
  replace H := bind_eq_some_iff.mp H
  obtain ⟨t109, A30, H⟩ := H
  replace H : (if t109 = true then (if 0 ≤ a0 then (if (shr .u64 a1 a0) > 0 then (some (0, 4)) else (some (Go.bits .or .u64 (shl .u64 1 a0) a1, 0))) else (none)) else (some (0, 1))) = some (r1, r2) := H
  have A3 := ak_ A30
  clear A30
  by_cases c4 : t109 = true
  ·subst c4
   have H1 : (if 0 ≤ a0 then (if (shr .u64 a1 a0) > 0 then (some (0, 4)) else (some (Go.bits .or .u64 (shl .u64 1 a0) a1, 0))) else (none)) = some (r1, r2) := by rw [if_pos rfl] at H; exact H
   clear H
   have H := H1
   clear H1
   by_cases c5 : 0 ≤ a0
   ·rw [if_pos c5] at H
    have c5b0 := eq_true c5
    have c5b1 := decide_eq_true c5
    clear c5
    obtain ⟨ji6, hji6⟩ : ∃ j_ : Int, (shr .u64 a1 a0) = j_ := ⟨_, rfl⟩
    replace H : (if (ji6) > 0 then (some (0, 4)) else (some (Go.bits .or .u64 (shl .u64 1 a0) a1, 0))) = some (r1, r2) := by first | (rw [hji6] at H; exact H) | (simp only [hji6] at H ⊢; exact H)
    (try rw [hji6] at A3)
    have hji6_ : (a1 / 2 ^ min a0.toNat 64) = ji6 := hji6
    have hji6z : a0 ≤ 64 → (a1 / 2 ^ a0.toNat) = ji6 := shr_small hji6
    by_cases c7 : (ji6) > 0
    ·rw [if_pos c7] at H
     have c7b0 : decide (0 < (ji6)) = true := decide_eq_true c7
     clear c7
     simp only [some.injEq, Prod.mk.injEq] at H
     obtain ⟨rfl, rfl⟩ := H
     go_enter func42, ntmps42
     go_wp2_with (first | ((with_reducible refine gate_callee (f := 74) rfl ?_); refine gl_ (some 8) func74 #[.int .i64 a0] ?_; (with_reducible refine (node_high.calls a0 true _ A3.out).mono ?_); rintro e w' ⟨rfl, ⟨nd, rfl⟩⟩; refine ⟨_, rfl, ?_⟩))
     go_ret2
     exact ⟨by first | rfl | (simp; done) | (simp only [← hji6] <;> (first | rfl | simp)) | (simp [*]; done), by repeat (first | exact Drawn0.refl _ | apply Drawn0.step)⟩
    ·rw [if_neg c7] at H
     have c7b0 : decide (0 < (ji6)) = false := decide_eq_false c7
     clear c7
     have c8b0 := eq_true (od_ (by first | (with_reducible assumption) | assumption) : 0 ≤ a0)
     obtain ⟨ji9, hji9⟩ : ∃ j_ : Int, (shl .u64 1 a0) = j_ := ⟨_, rfl⟩
     replace H : (some (Go.bits .or .u64 (ji9) a1, 0)) = some (r1, r2) := by first | (rw [hji9] at H; exact H) | (simp only [hji9] at H ⊢; exact H)
     (try rw [hji9] at A3)
     have hji9_ : (IntKind.u64.wrap (1 * 2 ^ min a0.toNat 64)) = ji9 := hji9
     have hji9z : a0 ≤ 64 → (IntKind.u64.wrap (1 * 2 ^ a0.toNat)) = ji9 := shl_small hji9
     have hji9u : (IntKind.u64.wrap (2 ^ min a0.toNat 64)) = ji9 := by have h_ := hji9_; rw [Int.one_mul] at h_; exact h_
     have hji9v : a0 ≤ 64 → (IntKind.u64.wrap (2 ^ a0.toNat)) = ji9 := fun hle_ => by have h_ := hji9z hle_; rw [Int.one_mul] at h_; exact h_
     simp only [some.injEq, Prod.mk.injEq] at H
     obtain ⟨rfl, rfl⟩ := H
     go_enter func42, ntmps42
     go_wp2_with (first | ((with_reducible refine gate_callee (f := 74) rfl ?_); refine gl_ (some 8) func74 #[.int .i64 a0] ?_; (with_reducible refine (node_high.calls a0 true _ A3.out).mono ?_); rintro e w' ⟨rfl, ⟨nd, rfl⟩⟩; refine ⟨_, rfl, ?_⟩))
     go_ret2
     exact ⟨by first | rfl | (simp; done) | (simp only [← hji6, ← hji9] <;> (first | rfl | simp)) | (simp [*]; done), by repeat (first | exact Drawn0.refl _ | apply Drawn0.step)⟩
   ·rw [if_neg c5] at H
    exact absurd H (by simp)
  ·replace c4 := Bool.eq_false_iff.mpr c4
   subst c4
   have H1 : (some (0, 1)) = some (r1, r2) := by rw [if_neg (show ¬ (false = true) by decide)] at H; exact H
   clear H
   have H := H1
   clear H1
   simp only [some.injEq, Prod.mk.injEq] at H
   obtain ⟨rfl, rfl⟩ := H
   go_enter func42, ntmps42
   go_wp2_with (first | ((with_reducible refine gate_callee (f := 74) rfl ?_); refine gl_ (some 8) func74 #[.int .i64 a0] ?_; (with_reducible refine (node_high.calls a0 false _ A3.out).mono ?_); rintro e w' ⟨rfl, ⟨nd, rfl⟩⟩; refine ⟨_, rfl, ?_⟩))
   go_ret2
   exact ⟨by first | rfl | (simp; done) | (simp [*]; done), by repeat (first | exact Drawn0.refl _ | apply Drawn0.step)⟩
def node_both.f (k : Nat) (a0 : Int) (a1 : Int) (a2 : Int) : Option (Int) := (node_Check.f k a0 a1).bind fun t110 => (if t110 = 0 then ((node_Check.f k a0 a2).bind fun t111 => (if t111 = 0 then (some 0) else (some 1))) else (some 1))
theorem node_both.mono : ∀ a0 a1 a2 k, LeO (node_both.f k a0 a1 a2) (node_both.f (k + 1) a0 a1 a2) := by
  intro a0 a1 a2 k
  unfold node_both.f
  repeat' first | (with_reducible first | exact node_Check.mono .. | exact LeO.refl _ | exact LeO.none _ | refine LeO.ite ?_ ?_ | refine LeO.bind ?_ (fun _ => ?_)) | exact node_Check.mono .. | refine LeO.ite ?_ ?_ | refine LeO.bind ?_ (fun _ => ?_)
set_option maxHeartbeats 8000000 in
set_option maxRecDepth 100000 in
theorem node_both.calls (k : Nat) (a0 : Int) (a1 : Int) (a2 : Int) (r : Int) (w : World) (h : node_both.f k a0 a1 a2 = some r) :
   Calls Try.prog 101 #[.int .i64 a0, .int .u64 a1, .int .u64 a2] w fun e w' => e = .returned (.int .i64 r) ∧ Drawn0 w w' := by
  have H : ((node_Check.f k a0 a1).bind fun t110 => (if t110 = 0 then ((node_Check.f k a0 a2).bind fun t111 => (if t111 = 0 then (some 0) else (some 1))) else (some 1))) = some r := h
  clear h
  replace H := bind_eq_some_iff.mp H
  obtain ⟨t110, A40, H⟩ := H
  replace H : (if t110 = 0 then ((node_Check.f k a0 a2).bind fun t111 => (if t111 = 0 then (some 0) else (some 1))) else (some 1)) = some r := H
  have A4 := ak_ A40
  clear A40
  by_cases c5 : t110 = 0
  ·rw [if_pos c5] at H
   have c5b0 : (t110 == 0) = true := beq_iff_eq.mpr c5
   have c5b1 : (t110 != 0) = false := bne_eq_false_iff_eq.mpr c5
   clear c5
   replace H := bind_eq_some_iff.mp H
   obtain ⟨t111, A60, H⟩ := H
   replace H : (if t111 = 0 then (some 0) else (some 1)) = some r := H
   have A6 := ak_ A60
   clear A60
   by_cases c7 : t111 = 0
   ·rw [if_pos c7] at H
    have c7b0 : (t111 == 0) = true := beq_iff_eq.mpr c7
    have c7b1 : (t111 != 0) = false := bne_eq_false_iff_eq.mpr c7
    clear c7
    obtain rfl := Option.some.inj H
    go_enter func101, ntmps101
    go_wp2_with (first | ((with_reducible refine gate_callee (f := 72) rfl ?_); refine gl_ (some 9) func72 #[.int .i64 a0, .int .u64 a1] ?_; (with_reducible refine (node_Check.calls k a0 a1 t110 _ A4.out).mono ?_); rintro e w' ⟨rfl, ⟨nd, rfl⟩⟩; refine ⟨_, rfl, ?_⟩) | (go_at_call 72; (with_reducible refine (node_Check.calls k a0 a2 t111 _ A6.out).mono ?_); rintro e w' ⟨rfl, ⟨nd, rfl⟩⟩))
    go_ret
    exact ⟨by first | rfl | (simp; done) | (simp [*]; done), by repeat (first | exact Drawn0.refl _ | apply Drawn0.step)⟩
   ·rw [if_neg c7] at H
    have c7b0 : (t111 == 0) = false := beq_eq_false_iff_ne.mpr c7
    have c7b1 : (t111 != 0) = true := bne_iff_ne.mpr c7
    obtain rfl := Option.some.inj H
    go_enter func101, ntmps101
    go_wp2_with (first | ((with_reducible refine gate_callee (f := 72) rfl ?_); refine gl_ (some 9) func72 #[.int .i64 a0, .int .u64 a1] ?_; (with_reducible refine (node_Check.calls k a0 a1 t110 _ A4.out).mono ?_); rintro e w' ⟨rfl, ⟨nd, rfl⟩⟩; refine ⟨_, rfl, ?_⟩) | (go_at_call 72; (with_reducible refine (node_Check.calls k a0 a2 t111 _ A6.out).mono ?_); rintro e w' ⟨rfl, ⟨nd, rfl⟩⟩))
    go_ret
    exact ⟨by first | rfl | (simp; done) | (simp [*]; done), by repeat (first | exact Drawn0.refl _ | apply Drawn0.step)⟩
  ·rw [if_neg c5] at H
   have c5b0 : (t110 == 0) = false := beq_eq_false_iff_ne.mpr c5
   have c5b1 : (t110 != 0) = true := bne_iff_ne.mpr c5
   obtain rfl := Option.some.inj H
   go_enter func101, ntmps101
   go_wp2_with (first | ((with_reducible refine gate_callee (f := 72) rfl ?_); refine gl_ (some 9) func72 #[.int .i64 a0, .int .u64 a1] ?_; (with_reducible refine (node_Check.calls k a0 a1 t110 _ A4.out).mono ?_); rintro e w' ⟨rfl, ⟨nd, rfl⟩⟩; refine ⟨_, rfl, ?_⟩))
   go_ret
   exact ⟨by first | rfl | (simp; done) | (simp [*]; done), by repeat (first | exact Drawn0.refl _ | apply Drawn0.step)⟩
def node_above.f (k : Nat) (a0 : Int) (a1 : Int) : Option (Bool) := (node_depth.f k a0).bind fun t112 => ((node_depth.f k a1).bind fun t113 => (if t112 ≤ t113 then ((node_depth.f k a1).bind fun t114 => ((node_depth.f k a0).bind fun t115 => (if 0 ≤ (wrap64 (t114 - t115)) then (some ((shr .u64 a1 (wrap64 (t114 - t115))) == a0)) else (none)))) else (some false)))
theorem node_above.mono : ∀ a0 a1 k, LeO (node_above.f k a0 a1) (node_above.f (k + 1) a0 a1) := by
  intro a0 a1 k
  unfold node_above.f
  repeat' first | (with_reducible first | exact node_depth.mono .. | exact LeO.refl _ | exact LeO.none _ | refine LeO.ite ?_ ?_ | refine LeO.bind ?_ (fun _ => ?_)) | exact node_depth.mono .. | refine LeO.ite ?_ ?_ | refine LeO.bind ?_ (fun _ => ?_)
set_option maxHeartbeats 8000000 in
set_option maxRecDepth 100000 in
theorem node_above.calls (k : Nat) (a0 : Int) (a1 : Int) (r : Bool) (w : World) (h : node_above.f k a0 a1 = some r) :
   Calls Try.prog 102 #[.int .u64 a0, .int .u64 a1] w fun e w' => e = .returned (.bool r) ∧ Drawn0 w w' := by
  have H : ((node_depth.f k a0).bind fun t112 => ((node_depth.f k a1).bind fun t113 => (if t112 ≤ t113 then ((node_depth.f k a1).bind fun t114 => ((node_depth.f k a0).bind fun t115 => (if 0 ≤ (wrap64 (t114 - t115)) then (some ((shr .u64 a1 (wrap64 (t114 - t115))) == a0)) else (none)))) else (some false)))) = some r := h
  clear h
  replace H := bind_eq_some_iff.mp H
  obtain ⟨t112, A30, H⟩ := H
  replace H : ((node_depth.f k a1).bind fun t113 => (if t112 ≤ t113 then ((node_depth.f k a1).bind fun t114 => ((node_depth.f k a0).bind fun t115 => (if 0 ≤ (wrap64 (t114 - t115)) then (some ((shr .u64 a1 (wrap64 (t114 - t115))) == a0)) else (none)))) else (some false))) = some r := H
  have A3 := ak_ A30
  clear A30
  replace H := bind_eq_some_iff.mp H
  obtain ⟨t113, A40, H⟩ := H
  replace H : (if t112 ≤ t113 then ((node_depth.f k a1).bind fun t114 => ((node_depth.f k a0).bind fun t115 => (if 0 ≤ (wrap64 (t114 - t115)) then (some ((shr .u64 a1 (wrap64 (t114 - t115))) == a0)) else (none)))) else (some false)) = some r := H
  have A4 := ak_ A40
  clear A40
  by_cases c5 : t112 ≤ t113
  ·rw [if_pos c5] at H
   have c5b0 := decide_eq_true c5
   clear c5
   replace H := bind_eq_some_iff.mp H
   obtain ⟨t114, A60, H⟩ := H
   replace H : ((node_depth.f k a0).bind fun t115 => (if 0 ≤ (wrap64 (t114 - t115)) then (some ((shr .u64 a1 (wrap64 (t114 - t115))) == a0)) else (none))) = some r := H
   have A6 := ak_ A60
   clear A60
   replace H := bind_eq_some_iff.mp H
   obtain ⟨t115, A70, H⟩ := H
   replace H : (if 0 ≤ (wrap64 (t114 - t115)) then (some ((shr .u64 a1 (wrap64 (t114 - t115))) == a0)) else (none)) = some r := H
   have A7 := ak_ A70
   clear A70
   obtain ⟨ji8, hji8⟩ : ∃ j_ : Int, (wrap64 (t114 - t115)) = j_ := ⟨_, rfl⟩
   replace H : (if 0 ≤ (ji8) then (some ((shr .u64 a1 (ji8)) == a0)) else (none)) = some r := by first | (rw [hji8] at H; exact H) | (simp only [hji8] at H ⊢; exact H)
   (try rw [hji8] at A3)
   (try rw [hji8] at A4)
   (try rw [hji8] at A6)
   (try rw [hji8] at A7)
   have hji8w : (IntKind.i64.wrap (t114 - t115)) = ji8 := (i64_w _).trans hji8
   by_cases c9 : 0 ≤ (ji8)
   ·rw [if_pos c9] at H
    have c9b0 := eq_true c9
    have c9b1 := decide_eq_true c9
    clear c9
    obtain ⟨ji10, hji10⟩ : ∃ j_ : Int, (shr .u64 a1 (ji8)) = j_ := ⟨_, rfl⟩
    replace H : (some ((ji10) == a0)) = some r := by first | (rw [hji10] at H; exact H) | (simp only [hji10] at H ⊢; exact H)
    (try rw [hji10] at A3)
    (try rw [hji10] at A4)
    (try rw [hji10] at A6)
    (try rw [hji10] at A7)
    have hji10_ : (a1 / 2 ^ min (ji8).toNat 64) = ji10 := hji10
    have hji10z : (ji8) ≤ 64 → (a1 / 2 ^ (ji8).toNat) = ji10 := shr_small hji10
    obtain rfl := Option.some.inj H
    go_enter func102, ntmps102
    go_wp2_with (first | ((with_reducible refine gate_callee (f := 95) rfl ?_); refine gl_ (some 6) func95 #[.int .u64 a0] ?_; (with_reducible refine (node_depth.calls k a0 t112 _ A3.out).mono ?_); rintro e w' ⟨rfl, ⟨nd, rfl⟩⟩; refine ⟨_, rfl, ?_⟩) | ((with_reducible refine gate_callee (f := 95) rfl ?_); refine gl_ (some 8) func95 #[.int .u64 a1] ?_; (with_reducible refine (node_depth.calls k a1 t113 _ A4.out).mono ?_); rintro e w' ⟨rfl, ⟨nd, rfl⟩⟩; refine ⟨_, rfl, ?_⟩) | (go_at_call 95; (with_reducible refine (node_depth.calls k a1 t114 _ A6.out).mono ?_); rintro e w' ⟨rfl, ⟨nd, rfl⟩⟩) | (go_at_call 95; (with_reducible refine (node_depth.calls k a0 t115 _ A7.out).mono ?_); rintro e w' ⟨rfl, ⟨nd, rfl⟩⟩))
    go_ret
    exact ⟨by first | rfl | (simp; done) | (simp only [← hji8, ← hji10] <;> (first | rfl | simp)) | (simp [*]; done), by repeat (first | exact Drawn0.refl _ | apply Drawn0.step)⟩
   ·rw [if_neg c9] at H
    exact absurd H (by simp)
  ·rw [if_neg c5] at H
   have c5b0 := decide_eq_false c5
   clear c5
   obtain rfl := Option.some.inj H
   go_enter func102, ntmps102
   go_wp2_with (first | ((with_reducible refine gate_callee (f := 95) rfl ?_); refine gl_ (some 6) func95 #[.int .u64 a0] ?_; (with_reducible refine (node_depth.calls k a0 t112 _ A3.out).mono ?_); rintro e w' ⟨rfl, ⟨nd, rfl⟩⟩; refine ⟨_, rfl, ?_⟩) | ((with_reducible refine gate_callee (f := 95) rfl ?_); refine gl_ (some 8) func95 #[.int .u64 a1] ?_; (with_reducible refine (node_depth.calls k a1 t113 _ A4.out).mono ?_); rintro e w' ⟨rfl, ⟨nd, rfl⟩⟩; refine ⟨_, rfl, ?_⟩))
   go_ret
   exact ⟨by first | rfl | (simp; done) | (simp [*]; done), by repeat (first | exact Drawn0.refl _ | apply Drawn0.step)⟩
def node_Above.f (k : Nat) (a0 : Int) (a1 : Int) (a2 : Int) : Option (Bool × Int) := (node_both.f k a0 a1 a2).bind fun t116 => (if t116 = 0 then ((node_above.f k a1 a2).bind fun t117 => (some (t117, 0))) else (some (false, t116)))
theorem node_Above.mono : ∀ a0 a1 a2 k, LeO (node_Above.f k a0 a1 a2) (node_Above.f (k + 1) a0 a1 a2) := by
  intro a0 a1 a2 k
  unfold node_Above.f
  repeat' first | (with_reducible first | exact node_above.mono .. | exact node_both.mono .. | exact LeO.refl _ | exact LeO.none _ | refine LeO.ite ?_ ?_ | refine LeO.bind ?_ (fun _ => ?_)) | exact node_above.mono .. | exact node_both.mono .. | refine LeO.ite ?_ ?_ | refine LeO.bind ?_ (fun _ => ?_)
set_option maxHeartbeats 8000000 in
set_option maxRecDepth 100000 in
theorem node_Above.calls (k : Nat) (a0 : Int) (a1 : Int) (a2 : Int) (r1 : Bool) (r2 : Int) (w : World) (h : node_Above.f k a0 a1 a2 = some (r1, r2)) :
   Calls Try.prog 81 #[.int .i64 a0, .int .u64 a1, .int .u64 a2] w fun e w' => e = .returned (.tuple #[.bool r1, .int .i64 r2]) ∧ Drawn0 w w' := by
  have H : ((node_both.f k a0 a1 a2).bind fun t116 => (if t116 = 0 then ((node_above.f k a1 a2).bind fun t117 => (some (t117, 0))) else (some (false, t116)))) = some (r1, r2) := h
  clear h
  replace H := bind_eq_some_iff.mp H
  obtain ⟨t116, A40, H⟩ := H
  replace H : (if t116 = 0 then ((node_above.f k a1 a2).bind fun t117 => (some (t117, 0))) else (some (false, t116))) = some (r1, r2) := H
  have A4 := ak_ A40
  clear A40
  by_cases c5 : t116 = 0
  ·rw [if_pos c5] at H
   have c5b0 : (t116 == 0) = true := beq_iff_eq.mpr c5
   have c5b1 : (t116 != 0) = false := bne_eq_false_iff_eq.mpr c5
   clear c5
   replace H := bind_eq_some_iff.mp H
   obtain ⟨t117, A60, H⟩ := H
   replace H : (some (t117, 0)) = some (r1, r2) := H
   have A6 := ak_ A60
   clear A60
   simp only [some.injEq, Prod.mk.injEq] at H
   obtain ⟨rfl, rfl⟩ := H
   go_enter func81, ntmps81
   go_wp2_with (first | ((with_reducible refine gate_callee (f := 101) rfl ?_); refine gl_ (some 12) func101 #[.int .i64 a0, .int .u64 a1, .int .u64 a2] ?_; (with_reducible refine (node_both.calls k a0 a1 a2 t116 _ A4.out).mono ?_); rintro e w' ⟨rfl, ⟨nd, rfl⟩⟩; refine ⟨_, rfl, ?_⟩) | ((with_reducible refine gate_callee (f := 102) rfl ?_); refine gl_ (some 18) func102 #[.int .u64 a1, .int .u64 a2] ?_; (with_reducible refine (node_above.calls k a1 a2 t117 _ A6.out).mono ?_); rintro e w' ⟨rfl, ⟨nd, rfl⟩⟩; refine ⟨_, rfl, ?_⟩))
   go_ret2
   exact ⟨by first | rfl | (simp; done) | (simp [*]; done), by repeat (first | exact Drawn0.refl _ | apply Drawn0.step)⟩
  ·rw [if_neg c5] at H
   have c5b0 : (t116 == 0) = false := beq_eq_false_iff_ne.mpr c5
   have c5b1 : (t116 != 0) = true := bne_iff_ne.mpr c5
   simp only [some.injEq, Prod.mk.injEq] at H
   obtain ⟨rfl, rfl⟩ := H
   go_enter func81, ntmps81
   go_wp2_with (first | ((with_reducible refine gate_callee (f := 101) rfl ?_); refine gl_ (some 12) func101 #[.int .i64 a0, .int .u64 a1, .int .u64 a2] ?_; (with_reducible refine (node_both.calls k a0 a1 a2 t116 _ A4.out).mono ?_); rintro e w' ⟨rfl, ⟨nd, rfl⟩⟩; refine ⟨_, rfl, ?_⟩))
   go_ret2
   exact ⟨by first | rfl | (simp; done) | (simp [*]; done), by repeat (first | exact Drawn0.refl _ | apply Drawn0.step)⟩
def sub_Check.f (k : Nat) (a0 : Int) (a1_0 : Int) (a1_1 : Int) : Option (Int) := if a1_1 = 0 then ((node_Check.f k a0 a1_0).bind fun t119 => (some t119)) else ((node_Above.f k a0 a1_0 a1_1).bind fun bt120 => (if bt120.2 = 0 then (if bt120.1 = true then (if a1_0 = a1_1 then (some 1) else (some 0)) else (some 1)) else (some 1)))
theorem sub_Check.mono : ∀ a0 a1 a2 k, LeO (sub_Check.f k a0 a1 a2) (sub_Check.f (k + 1) a0 a1 a2) := by
  intro a0 a1 a2 k
  unfold sub_Check.f
  repeat' first | (with_reducible first | exact node_Above.mono .. | exact node_Check.mono .. | exact LeO.refl _ | exact LeO.none _ | refine LeO.ite ?_ ?_ | refine LeO.bind ?_ (fun _ => ?_)) | exact node_Above.mono .. | exact node_Check.mono .. | refine LeO.ite ?_ ?_ | refine LeO.bind ?_ (fun _ => ?_)
set_option maxHeartbeats 8000000 in
set_option maxRecDepth 100000 in
theorem sub_Check.calls (k : Nat) (a0 : Int) (a1_0 : Int) (a1_1 : Int) (r : Int) (w : World) (h : sub_Check.f k a0 a1_0 a1_1 = some r) :
   Calls Try.prog 51 #[.int .i64 a0, .agg #[.int .u64 a1_0, .int .u64 a1_1]] w fun e w' => e = .returned (.int .i64 r) ∧ Below w.heap.size w w' := by
  have hu48 := underlying48
  have HB := ak_ (Below.refl w.heap.size w)
  have H : (if a1_1 = 0 then ((node_Check.f k a0 a1_0).bind fun t119 => (some t119)) else ((node_Above.f k a0 a1_0 a1_1).bind fun bt120 => (if bt120.2 = 0 then (if bt120.1 = true then (if a1_0 = a1_1 then (some 1) else (some 0)) else (some 1)) else (some 1)))) = some r := h
  clear h
  by_cases c3 : a1_1 = 0
  ·rw [if_pos c3] at H
   have c3b0 : (a1_1 == 0) = true := beq_iff_eq.mpr c3
   have c3b1 : (a1_1 != 0) = false := bne_eq_false_iff_eq.mpr c3
   clear c3
   replace H := bind_eq_some_iff.mp H
   obtain ⟨t119, A40, H⟩ := H
   replace H : (some t119) = some r := H
   have A4 := ak_ A40
   clear A40
   obtain rfl := Option.some.inj H
   go_enter func51, ntmps51
   go_wp2_with (first | ((with_reducible refine gate_dst (N := 3) rfl ?_); refine bx_ 3 #[.int .u64 a1_0, .int .u64 a1_1] 48 ?_; intro gb118 hg w5 hbox hb; have BK118 := ak_ hbox; have GW118 := ak_ (gs_ hg HB); have GE118 := ak_ (gs_ hg HB); replace HB := ak_ (bt_ (bl_ HB) hb); clear hb hbox hg; obtain ⟨hcz6_0, hcz6_1, hfz6_0, hfz6_1⟩ := kc2_ BK118.out) | ((with_reducible refine gate_callee (f := 72) rfl ?_); refine gl_ (some 13) func72 #[.int .i64 a0, .int .u64 a1_0] ?_; (with_reducible refine (node_Check.calls k a0 a1_0 t119 _ A4.out).mono ?_); rintro e w' ⟨rfl, ⟨nd, rfl⟩⟩; refine ⟨_, rfl, ?_⟩))
   go_ret
   exact ea_ (bw1_ HB GE118)
  ·rw [if_neg c3] at H
   have c3b0 : (a1_1 == 0) = false := beq_eq_false_iff_ne.mpr c3
   have c3b1 : (a1_1 != 0) = true := bne_iff_ne.mpr c3
   replace H := bind_eq_some_iff.mp H
   obtain ⟨⟨t120, t121⟩, A70, H⟩ := H
   replace H : (if t121 = 0 then (if t120 = true then (if a1_0 = a1_1 then (some 1) else (some 0)) else (some 1)) else (some 1)) = some r := H
   have A7 := ak_ A70
   clear A70
   by_cases c8 : t121 = 0
   ·rw [if_pos c8] at H
    have c8b0 : (t121 == 0) = true := beq_iff_eq.mpr c8
    have c8b1 : (t121 != 0) = false := bne_eq_false_iff_eq.mpr c8
    clear c8
    by_cases c9 : t120 = true
    ·subst c9
     have H1 : (if a1_0 = a1_1 then (some 1) else (some 0)) = some r := by rw [if_pos rfl] at H; exact H
     clear H
     have H := H1
     clear H1
     by_cases c10 : a1_0 = a1_1
     ·rw [if_pos c10] at H
      have c10b0 : (a1_0 == a1_1) = true := beq_iff_eq.mpr c10
      have c10b1 : (a1_0 != a1_1) = false := bne_eq_false_iff_eq.mpr c10
      clear c10
      obtain rfl := Option.some.inj H
      go_enter func51, ntmps51
      go_wp2_with (first | ((with_reducible refine gate_dst (N := 3) rfl ?_); refine bx_ 3 #[.int .u64 a1_0, .int .u64 a1_1] 48 ?_; intro gb118 hg w11 hbox hb; have BK118 := ak_ hbox; have GW118 := ak_ (gs_ hg HB); have GE118 := ak_ (gs_ hg HB); replace HB := ak_ (bt_ (bl_ HB) hb); clear hb hbox hg; obtain ⟨hcz12_0, hcz12_1, hfz12_0, hfz12_1⟩ := kc2_ BK118.out) | ((with_reducible refine gate_callee (f := 81) rfl ?_); refine gl_ (some 20) func81 #[.int .i64 a0, .int .u64 a1_0, .int .u64 a1_1] ?_; (with_reducible refine (node_Above.calls k a0 a1_0 a1_1 true t121 _ A7.out).mono ?_); rintro e w' ⟨rfl, ⟨nd, rfl⟩⟩; refine ⟨_, rfl, ?_⟩))
      go_ret
      exact ea_ (bw1_ HB GE118)
     ·rw [if_neg c10] at H
      have c10b0 : (a1_0 == a1_1) = false := beq_eq_false_iff_ne.mpr c10
      have c10b1 : (a1_0 != a1_1) = true := bne_iff_ne.mpr c10
      obtain rfl := Option.some.inj H
      go_enter func51, ntmps51
      go_wp2_with (first | ((with_reducible refine gate_dst (N := 3) rfl ?_); refine bx_ 3 #[.int .u64 a1_0, .int .u64 a1_1] 48 ?_; intro gb118 hg w13 hbox hb; have BK118 := ak_ hbox; have GW118 := ak_ (gs_ hg HB); have GE118 := ak_ (gs_ hg HB); replace HB := ak_ (bt_ (bl_ HB) hb); clear hb hbox hg; obtain ⟨hcz14_0, hcz14_1, hfz14_0, hfz14_1⟩ := kc2_ BK118.out) | ((with_reducible refine gate_callee (f := 81) rfl ?_); refine gl_ (some 20) func81 #[.int .i64 a0, .int .u64 a1_0, .int .u64 a1_1] ?_; (with_reducible refine (node_Above.calls k a0 a1_0 a1_1 true t121 _ A7.out).mono ?_); rintro e w' ⟨rfl, ⟨nd, rfl⟩⟩; refine ⟨_, rfl, ?_⟩))
      go_ret
      exact ea_ (bw1_ HB GE118)
    ·replace c9 := Bool.eq_false_iff.mpr c9
     subst c9
     have H1 : (some 1) = some r := by rw [if_neg (show ¬ (false = true) by decide)] at H; exact H
     clear H
     have H := H1
     clear H1
     obtain rfl := Option.some.inj H
     go_enter func51, ntmps51
     go_wp2_with (first | ((with_reducible refine gate_dst (N := 3) rfl ?_); refine bx_ 3 #[.int .u64 a1_0, .int .u64 a1_1] 48 ?_; intro gb118 hg w15 hbox hb; have BK118 := ak_ hbox; have GW118 := ak_ (gs_ hg HB); have GE118 := ak_ (gs_ hg HB); replace HB := ak_ (bt_ (bl_ HB) hb); clear hb hbox hg; obtain ⟨hcz16_0, hcz16_1, hfz16_0, hfz16_1⟩ := kc2_ BK118.out) | ((with_reducible refine gate_callee (f := 81) rfl ?_); refine gl_ (some 20) func81 #[.int .i64 a0, .int .u64 a1_0, .int .u64 a1_1] ?_; (with_reducible refine (node_Above.calls k a0 a1_0 a1_1 false t121 _ A7.out).mono ?_); rintro e w' ⟨rfl, ⟨nd, rfl⟩⟩; refine ⟨_, rfl, ?_⟩))
     go_ret
     exact ea_ (bw1_ HB GE118)
   ·rw [if_neg c8] at H
    have c8b0 : (t121 == 0) = false := beq_eq_false_iff_ne.mpr c8
    have c8b1 : (t121 != 0) = true := bne_iff_ne.mpr c8
    obtain rfl := Option.some.inj H
    go_enter func51, ntmps51
    go_wp2_with (first | ((with_reducible refine gate_dst (N := 3) rfl ?_); refine bx_ 3 #[.int .u64 a1_0, .int .u64 a1_1] 48 ?_; intro gb118 hg w17 hbox hb; have BK118 := ak_ hbox; have GW118 := ak_ (gs_ hg HB); have GE118 := ak_ (gs_ hg HB); replace HB := ak_ (bt_ (bl_ HB) hb); clear hb hbox hg; obtain ⟨hcz18_0, hcz18_1, hfz18_0, hfz18_1⟩ := kc2_ BK118.out) | ((with_reducible refine gate_callee (f := 81) rfl ?_); refine gl_ (some 20) func81 #[.int .i64 a0, .int .u64 a1_0, .int .u64 a1_1] ?_; (with_reducible refine (node_Above.calls k a0 a1_0 a1_1 t120 t121 _ A7.out).mono ?_); rintro e w' ⟨rfl, ⟨nd, rfl⟩⟩; refine ⟨_, rfl, ?_⟩))
    go_ret
    exact ea_ (bw1_ HB GE118)
def node_Depth.f (k : Nat) (a0 : Int) (a1 : Int) : Option (Int × Int) := (node_Check.f k a0 a1).bind fun t122 => (if t122 = 0 then ((node_depth.f k a1).bind fun t123 => (some (t123, 0))) else (some (0, t122)))
theorem node_Depth.mono : ∀ a0 a1 k, LeO (node_Depth.f k a0 a1) (node_Depth.f (k + 1) a0 a1) := by
  intro a0 a1 k
  unfold node_Depth.f
  repeat' first | (with_reducible first | exact node_Check.mono .. | exact node_depth.mono .. | exact LeO.refl _ | exact LeO.none _ | refine LeO.ite ?_ ?_ | refine LeO.bind ?_ (fun _ => ?_)) | exact node_Check.mono .. | exact node_depth.mono .. | refine LeO.ite ?_ ?_ | refine LeO.bind ?_ (fun _ => ?_)
set_option maxHeartbeats 8000000 in
set_option maxRecDepth 100000 in
theorem node_Depth.calls (k : Nat) (a0 : Int) (a1 : Int) (r1 : Int) (r2 : Int) (w : World) (h : node_Depth.f k a0 a1 = some (r1, r2)) :
   Calls Try.prog 96 #[.int .i64 a0, .int .u64 a1] w fun e w' => e = .returned (.tuple #[.int .i64 r1, .int .i64 r2]) ∧ Drawn0 w w' := by
  have H : ((node_Check.f k a0 a1).bind fun t122 => (if t122 = 0 then ((node_depth.f k a1).bind fun t123 => (some (t123, 0))) else (some (0, t122)))) = some (r1, r2) := h
  clear h
  replace H := bind_eq_some_iff.mp H
  obtain ⟨t122, A30, H⟩ := H
  replace H : (if t122 = 0 then ((node_depth.f k a1).bind fun t123 => (some (t123, 0))) else (some (0, t122))) = some (r1, r2) := H
  have A3 := ak_ A30
  clear A30
  by_cases c4 : t122 = 0
  ·rw [if_pos c4] at H
   have c4b0 : (t122 == 0) = true := beq_iff_eq.mpr c4
   have c4b1 : (t122 != 0) = false := bne_eq_false_iff_eq.mpr c4
   clear c4
   replace H := bind_eq_some_iff.mp H
   obtain ⟨t123, A50, H⟩ := H
   replace H : (some (t123, 0)) = some (r1, r2) := H
   have A5 := ak_ A50
   clear A50
   simp only [some.injEq, Prod.mk.injEq] at H
   obtain ⟨rfl, rfl⟩ := H
   go_enter func96, ntmps96
   go_wp2_with (first | ((with_reducible refine gate_callee (f := 72) rfl ?_); refine gl_ (some 9) func72 #[.int .i64 a0, .int .u64 a1] ?_; (with_reducible refine (node_Check.calls k a0 a1 t122 _ A3.out).mono ?_); rintro e w' ⟨rfl, ⟨nd, rfl⟩⟩; refine ⟨_, rfl, ?_⟩) | ((with_reducible refine gate_callee (f := 95) rfl ?_); refine gl_ (some 14) func95 #[.int .u64 a1] ?_; (with_reducible refine (node_depth.calls k a1 t123 _ A5.out).mono ?_); rintro e w' ⟨rfl, ⟨nd, rfl⟩⟩; refine ⟨_, rfl, ?_⟩))
   go_ret2
   exact ⟨by first | rfl | (simp; done) | (simp [*]; done), by repeat (first | exact Drawn0.refl _ | apply Drawn0.step)⟩
  ·rw [if_neg c4] at H
   have c4b0 : (t122 == 0) = false := beq_eq_false_iff_ne.mpr c4
   have c4b1 : (t122 != 0) = true := bne_iff_ne.mpr c4
   simp only [some.injEq, Prod.mk.injEq] at H
   obtain ⟨rfl, rfl⟩ := H
   go_enter func96, ntmps96
   go_wp2_with (first | ((with_reducible refine gate_callee (f := 72) rfl ?_); refine gl_ (some 9) func72 #[.int .i64 a0, .int .u64 a1] ?_; (with_reducible refine (node_Check.calls k a0 a1 t122 _ A3.out).mono ?_); rintro e w' ⟨rfl, ⟨nd, rfl⟩⟩; refine ⟨_, rfl, ?_⟩))
   go_ret2
   exact ⟨by first | rfl | (simp; done) | (simp [*]; done), by repeat (first | exact Drawn0.refl _ | apply Drawn0.step)⟩
def sub_depths.f (k : Nat) (a0 : Int) (a1_0 : Int) (a1_1 : Int) : Option (Int × Int × Int × Bool × Int) := (sub_Step.f k a0).bind fun bt125 => (if bt125.2 = 0 then ((node_Depth.f k a0 a1_0).bind fun bt127 => (if bt127.2 = 0 then (if a1_1 = 0 then (if bt125.1 = 0 then (none) else (if (Int.tmod bt127.1 bt125.1) = 0 then (some (bt127.1, 0, mn (wrap64 ((wrap64 ((wrap64 (Int.tdiv bt127.1 bt125.1)) + 1)) * bt125.1)) a0, true, bt127.2)) else (some (bt127.1, 0, mn (wrap64 ((wrap64 ((wrap64 (Int.tdiv bt127.1 bt125.1)) + 1)) * bt125.1)) a0, (bt127.1 == a0), bt127.2)))) else ((node_Depth.f k a0 a1_1).bind fun bt129 => (if bt125.1 = 0 then (none) else (if (Int.tmod bt127.1 bt125.1) = 0 then (some (bt127.1, bt129.1, mn (wrap64 ((wrap64 ((wrap64 (Int.tdiv bt127.1 bt125.1)) + 1)) * bt125.1)) a0, true, bt129.2)) else (some (bt127.1, bt129.1, mn (wrap64 ((wrap64 ((wrap64 (Int.tdiv bt127.1 bt125.1)) + 1)) * bt125.1)) a0, (bt127.1 == a0), bt129.2)))))) else (if bt125.1 = 0 then (none) else (if (Int.tmod bt127.1 bt125.1) = 0 then (some (bt127.1, 0, mn (wrap64 ((wrap64 ((wrap64 (Int.tdiv bt127.1 bt125.1)) + 1)) * bt125.1)) a0, true, bt127.2)) else (some (bt127.1, 0, mn (wrap64 ((wrap64 ((wrap64 (Int.tdiv bt127.1 bt125.1)) + 1)) * bt125.1)) a0, (bt127.1 == a0), bt127.2)))))) else (some (0, 0, 0, false, bt125.2)))
theorem sub_depths.mono : ∀ a0 a1 a2 k, LeO (sub_depths.f k a0 a1 a2) (sub_depths.f (k + 1) a0 a1 a2) := by
  intro a0 a1 a2 k
  unfold sub_depths.f
  repeat' first | (with_reducible first | exact node_Depth.mono .. | exact sub_Step.mono .. | exact LeO.refl _ | exact LeO.none _ | refine LeO.ite ?_ ?_ | refine LeO.bind ?_ (fun _ => ?_)) | exact node_Depth.mono .. | exact sub_Step.mono .. | refine LeO.ite ?_ ?_ | refine LeO.bind ?_ (fun _ => ?_)
set_option maxHeartbeats 8000000 in
set_option maxRecDepth 100000 in
theorem sub_depths.calls (k : Nat) (a0 : Int) (a1_0 : Int) (a1_1 : Int) (r1 : Int) (r2 : Int) (r3 : Int) (r4 : Bool) (r5 : Int) (w : World) (h : sub_depths.f k a0 a1_0 a1_1 = some (r1, r2, r3, r4, r5)) :
   Calls Try.prog 75 #[.int .i64 a0, .agg #[.int .u64 a1_0, .int .u64 a1_1]] w fun e w' => e = .returned (.tuple #[.int .i64 r1, .int .i64 r2, .int .i64 r3, .bool r4, .int .i64 r5]) ∧ Below w.heap.size w w' := by
  have hu48 := underlying48
  have HB := ak_ (Below.refl w.heap.size w)
  have H : ((sub_Step.f k a0).bind fun bt125 => (if bt125.2 = 0 then ((node_Depth.f k a0 a1_0).bind fun bt127 => (if bt127.2 = 0 then (if a1_1 = 0 then (if bt125.1 = 0 then (none) else (if (Int.tmod bt127.1 bt125.1) = 0 then (some (bt127.1, 0, mn (wrap64 ((wrap64 ((wrap64 (Int.tdiv bt127.1 bt125.1)) + 1)) * bt125.1)) a0, true, bt127.2)) else (some (bt127.1, 0, mn (wrap64 ((wrap64 ((wrap64 (Int.tdiv bt127.1 bt125.1)) + 1)) * bt125.1)) a0, (bt127.1 == a0), bt127.2)))) else ((node_Depth.f k a0 a1_1).bind fun bt129 => (if bt125.1 = 0 then (none) else (if (Int.tmod bt127.1 bt125.1) = 0 then (some (bt127.1, bt129.1, mn (wrap64 ((wrap64 ((wrap64 (Int.tdiv bt127.1 bt125.1)) + 1)) * bt125.1)) a0, true, bt129.2)) else (some (bt127.1, bt129.1, mn (wrap64 ((wrap64 ((wrap64 (Int.tdiv bt127.1 bt125.1)) + 1)) * bt125.1)) a0, (bt127.1 == a0), bt129.2)))))) else (if bt125.1 = 0 then (none) else (if (Int.tmod bt127.1 bt125.1) = 0 then (some (bt127.1, 0, mn (wrap64 ((wrap64 ((wrap64 (Int.tdiv bt127.1 bt125.1)) + 1)) * bt125.1)) a0, true, bt127.2)) else (some (bt127.1, 0, mn (wrap64 ((wrap64 ((wrap64 (Int.tdiv bt127.1 bt125.1)) + 1)) * bt125.1)) a0, (bt127.1 == a0), bt127.2)))))) else (some (0, 0, 0, false, bt125.2)))) = some (r1, r2, r3, r4, r5) := h
  clear h
  replace H := bind_eq_some_iff.mp H
  obtain ⟨⟨t125, t126⟩, A30, H⟩ := H
  replace H : (if t126 = 0 then ((node_Depth.f k a0 a1_0).bind fun bt127 => (if bt127.2 = 0 then (if a1_1 = 0 then (if t125 = 0 then (none) else (if (Int.tmod bt127.1 t125) = 0 then (some (bt127.1, 0, mn (wrap64 ((wrap64 ((wrap64 (Int.tdiv bt127.1 t125)) + 1)) * t125)) a0, true, bt127.2)) else (some (bt127.1, 0, mn (wrap64 ((wrap64 ((wrap64 (Int.tdiv bt127.1 t125)) + 1)) * t125)) a0, (bt127.1 == a0), bt127.2)))) else ((node_Depth.f k a0 a1_1).bind fun bt129 => (if t125 = 0 then (none) else (if (Int.tmod bt127.1 t125) = 0 then (some (bt127.1, bt129.1, mn (wrap64 ((wrap64 ((wrap64 (Int.tdiv bt127.1 t125)) + 1)) * t125)) a0, true, bt129.2)) else (some (bt127.1, bt129.1, mn (wrap64 ((wrap64 ((wrap64 (Int.tdiv bt127.1 t125)) + 1)) * t125)) a0, (bt127.1 == a0), bt129.2)))))) else (if t125 = 0 then (none) else (if (Int.tmod bt127.1 t125) = 0 then (some (bt127.1, 0, mn (wrap64 ((wrap64 ((wrap64 (Int.tdiv bt127.1 t125)) + 1)) * t125)) a0, true, bt127.2)) else (some (bt127.1, 0, mn (wrap64 ((wrap64 ((wrap64 (Int.tdiv bt127.1 t125)) + 1)) * t125)) a0, (bt127.1 == a0), bt127.2)))))) else (some (0, 0, 0, false, t126))) = some (r1, r2, r3, r4, r5) := H
  have A3 := ak_ A30
  clear A30
  by_cases c4 : t126 = 0
  ·rw [if_pos c4] at H
   have c4b0 : (t126 == 0) = true := beq_iff_eq.mpr c4
   have c4b1 : (t126 != 0) = false := bne_eq_false_iff_eq.mpr c4
   clear c4
   replace H := bind_eq_some_iff.mp H
   obtain ⟨⟨t127, t128⟩, A50, H⟩ := H
   replace H : (if t128 = 0 then (if a1_1 = 0 then (if t125 = 0 then (none) else (if (Int.tmod t127 t125) = 0 then (some (t127, 0, mn (wrap64 ((wrap64 ((wrap64 (Int.tdiv t127 t125)) + 1)) * t125)) a0, true, t128)) else (some (t127, 0, mn (wrap64 ((wrap64 ((wrap64 (Int.tdiv t127 t125)) + 1)) * t125)) a0, (t127 == a0), t128)))) else ((node_Depth.f k a0 a1_1).bind fun bt129 => (if t125 = 0 then (none) else (if (Int.tmod t127 t125) = 0 then (some (t127, bt129.1, mn (wrap64 ((wrap64 ((wrap64 (Int.tdiv t127 t125)) + 1)) * t125)) a0, true, bt129.2)) else (some (t127, bt129.1, mn (wrap64 ((wrap64 ((wrap64 (Int.tdiv t127 t125)) + 1)) * t125)) a0, (t127 == a0), bt129.2)))))) else (if t125 = 0 then (none) else (if (Int.tmod t127 t125) = 0 then (some (t127, 0, mn (wrap64 ((wrap64 ((wrap64 (Int.tdiv t127 t125)) + 1)) * t125)) a0, true, t128)) else (some (t127, 0, mn (wrap64 ((wrap64 ((wrap64 (Int.tdiv t127 t125)) + 1)) * t125)) a0, (t127 == a0), t128))))) = some (r1, r2, r3, r4, r5) := H
   have A5 := ak_ A50
   clear A50
   by_cases c6 : t128 = 0
   ·rw [if_pos c6] at H
    have c6b0 : (t128 == 0) = true := beq_iff_eq.mpr c6
    have c6b1 : (t128 != 0) = false := bne_eq_false_iff_eq.mpr c6
    clear c6
    by_cases c7 : a1_1 = 0
    ·rw [if_pos c7] at H
     have c7b0 : (a1_1 == 0) = true := beq_iff_eq.mpr c7
     have c7b1 : (a1_1 != 0) = false := bne_eq_false_iff_eq.mpr c7
     clear c7
     by_cases c8 : t125 = 0
     ·rw [if_pos c8] at H
      exact absurd H (by simp)
     ·rw [if_neg c8] at H
      have c8b0 : (t125 == 0) = false := beq_eq_false_iff_ne.mpr c8
      have c8b1 : (t125 != 0) = true := bne_iff_ne.mpr c8
      obtain ⟨ji9, hji9⟩ : ∃ j_ : Int, (mn (wrap64 ((wrap64 ((wrap64 (Int.tdiv t127 t125)) + 1)) * t125)) a0) = j_ := ⟨_, rfl⟩
      replace H : (if (Int.tmod t127 t125) = 0 then (some (t127, 0, ji9, true, t128)) else (some (t127, 0, ji9, (t127 == a0), t128))) = some (r1, r2, r3, r4, r5) := by first | (rw [hji9] at H; exact H) | (simp only [hji9] at H ⊢; exact H)
      (try rw [hji9] at A3)
      (try rw [hji9] at A5)
      have hji9_ : (if a0 < (wrap64 ((wrap64 ((wrap64 (Int.tdiv t127 t125)) + 1)) * t125)) then a0 else (wrap64 ((wrap64 ((wrap64 (Int.tdiv t127 t125)) + 1)) * t125))) = ji9 := hji9
      by_cases c10 : (Int.tmod t127 t125) = 0
      ·rw [if_pos c10] at H
       have c10b0 : ((Int.tmod t127 t125) == 0) = true := beq_iff_eq.mpr c10
       have c10b1 : ((Int.tmod t127 t125) != 0) = false := bne_eq_false_iff_eq.mpr c10
       clear c10
       simp only [some.injEq, Prod.mk.injEq] at H
       obtain ⟨rfl, rfl, rfl, rfl, rfl⟩ := H
       go_enter func75, ntmps75
       go_wp2_with (first | ((with_reducible refine gate_dst (N := 3) rfl ?_); refine bx_ 3 #[.int .u64 a1_0, .int .u64 a1_1] 48 ?_; intro gb124 hg w11 hbox hb; have BK124 := ak_ hbox; have GW124 := ak_ (gs_ hg HB); have GE124 := ak_ (gs_ hg HB); replace HB := ak_ (bt_ (bl_ HB) hb); clear hb hbox hg) | (go_at_call 52; (with_reducible refine (sub_Step.calls k a0 t125 t126 _ A3.out).mono ?_); rintro e w' ⟨rfl, ⟨nd, rfl⟩⟩; (try first | exact ⟨rfl, _, World.drewN_drewN _ _ _⟩ | exact ⟨rfl, _, Eq.trans (World.drewN_drewN _ _ _) (congrArg (World.drewN _) (Nat.add_assoc _ _ _))⟩); obtain ⟨hcz12_0, hcz12_1, hfz12_0, hfz12_1⟩ := kc2_ BK124.out) | (go_at_call 96; (with_reducible refine (node_Depth.calls k a0 a1_0 t127 t128 _ A5.out).mono ?_); rintro e w' ⟨rfl, ⟨nd, rfl⟩⟩; (try first | exact ⟨rfl, _, World.drewN_drewN _ _ _⟩ | exact ⟨rfl, _, Eq.trans (World.drewN_drewN _ _ _) (congrArg (World.drewN _) (Nat.add_assoc _ _ _))⟩)))
       repeat (go_quiet (first | ((with_reducible refine gate_dst (N := 3) rfl ?_); refine bx_ 3 #[.int .u64 a1_0, .int .u64 a1_1] 48 ?_; intro gb124 hg w11 hbox hb; have BK124 := ak_ hbox; have GW124 := ak_ (gs_ hg HB); have GE124 := ak_ (gs_ hg HB); replace HB := ak_ (bt_ (bl_ HB) hb); clear hb hbox hg) | (go_at_call 52; (with_reducible refine (sub_Step.calls k a0 t125 t126 _ A3.out).mono ?_); rintro e w' ⟨rfl, ⟨nd, rfl⟩⟩; (try first | exact ⟨rfl, _, World.drewN_drewN _ _ _⟩ | exact ⟨rfl, _, Eq.trans (World.drewN_drewN _ _ _) (congrArg (World.drewN _) (Nat.add_assoc _ _ _))⟩); obtain ⟨hcz12_0, hcz12_1, hfz12_0, hfz12_1⟩ := kc2_ BK124.out) | (go_at_call 96; (with_reducible refine (node_Depth.calls k a0 a1_0 t127 t128 _ A5.out).mono ?_); rintro e w' ⟨rfl, ⟨nd, rfl⟩⟩; (try first | exact ⟨rfl, _, World.drewN_drewN _ _ _⟩ | exact ⟨rfl, _, Eq.trans (World.drewN_drewN _ _ _) (congrArg (World.drewN _) (Nat.add_assoc _ _ _))⟩))); try go_wp2_with (first | ((with_reducible refine gate_dst (N := 3) rfl ?_); refine bx_ 3 #[.int .u64 a1_0, .int .u64 a1_1] 48 ?_; intro gb124 hg w11 hbox hb; have BK124 := ak_ hbox; have GW124 := ak_ (gs_ hg HB); have GE124 := ak_ (gs_ hg HB); replace HB := ak_ (bt_ (bl_ HB) hb); clear hb hbox hg) | (go_at_call 52; (with_reducible refine (sub_Step.calls k a0 t125 t126 _ A3.out).mono ?_); rintro e w' ⟨rfl, ⟨nd, rfl⟩⟩; (try first | exact ⟨rfl, _, World.drewN_drewN _ _ _⟩ | exact ⟨rfl, _, Eq.trans (World.drewN_drewN _ _ _) (congrArg (World.drewN _) (Nat.add_assoc _ _ _))⟩); obtain ⟨hcz12_0, hcz12_1, hfz12_0, hfz12_1⟩ := kc2_ BK124.out) | (go_at_call 96; (with_reducible refine (node_Depth.calls k a0 a1_0 t127 t128 _ A5.out).mono ?_); rintro e w' ⟨rfl, ⟨nd, rfl⟩⟩; (try first | exact ⟨rfl, _, World.drewN_drewN _ _ _⟩ | exact ⟨rfl, _, Eq.trans (World.drewN_drewN _ _ _) (congrArg (World.drewN _) (Nat.add_assoc _ _ _))⟩))))
       refine bodyPost_ret (results_list (rs := [.tmp 4, .tmp 5, .tmp 6, .tmp 7, .tmp 8]) rfl (by simp) (.tmp (.tmp (.tmp (.tmp (.tmp .nil)))))) rfl ?_
       exact ⟨by first | rfl | (simp <;> rfl) | (simp only [← hji9]; first | rfl | (simp <;> rfl)) | (simp [*] <;> rfl), bw1_ HB GE124⟩
      ·rw [if_neg c10] at H
       have c10b0 : ((Int.tmod t127 t125) == 0) = false := beq_eq_false_iff_ne.mpr c10
       have c10b1 : ((Int.tmod t127 t125) != 0) = true := bne_iff_ne.mpr c10
       simp only [some.injEq, Prod.mk.injEq] at H
       obtain ⟨rfl, rfl, rfl, rfl, rfl⟩ := H
       go_enter func75, ntmps75
       go_wp2_with (first | ((with_reducible refine gate_dst (N := 3) rfl ?_); refine bx_ 3 #[.int .u64 a1_0, .int .u64 a1_1] 48 ?_; intro gb124 hg w13 hbox hb; have BK124 := ak_ hbox; have GW124 := ak_ (gs_ hg HB); have GE124 := ak_ (gs_ hg HB); replace HB := ak_ (bt_ (bl_ HB) hb); clear hb hbox hg) | (go_at_call 52; (with_reducible refine (sub_Step.calls k a0 t125 t126 _ A3.out).mono ?_); rintro e w' ⟨rfl, ⟨nd, rfl⟩⟩; (try first | exact ⟨rfl, _, World.drewN_drewN _ _ _⟩ | exact ⟨rfl, _, Eq.trans (World.drewN_drewN _ _ _) (congrArg (World.drewN _) (Nat.add_assoc _ _ _))⟩); obtain ⟨hcz14_0, hcz14_1, hfz14_0, hfz14_1⟩ := kc2_ BK124.out) | (go_at_call 96; (with_reducible refine (node_Depth.calls k a0 a1_0 t127 t128 _ A5.out).mono ?_); rintro e w' ⟨rfl, ⟨nd, rfl⟩⟩; (try first | exact ⟨rfl, _, World.drewN_drewN _ _ _⟩ | exact ⟨rfl, _, Eq.trans (World.drewN_drewN _ _ _) (congrArg (World.drewN _) (Nat.add_assoc _ _ _))⟩)))
       repeat (go_quiet (first | ((with_reducible refine gate_dst (N := 3) rfl ?_); refine bx_ 3 #[.int .u64 a1_0, .int .u64 a1_1] 48 ?_; intro gb124 hg w13 hbox hb; have BK124 := ak_ hbox; have GW124 := ak_ (gs_ hg HB); have GE124 := ak_ (gs_ hg HB); replace HB := ak_ (bt_ (bl_ HB) hb); clear hb hbox hg) | (go_at_call 52; (with_reducible refine (sub_Step.calls k a0 t125 t126 _ A3.out).mono ?_); rintro e w' ⟨rfl, ⟨nd, rfl⟩⟩; (try first | exact ⟨rfl, _, World.drewN_drewN _ _ _⟩ | exact ⟨rfl, _, Eq.trans (World.drewN_drewN _ _ _) (congrArg (World.drewN _) (Nat.add_assoc _ _ _))⟩); obtain ⟨hcz14_0, hcz14_1, hfz14_0, hfz14_1⟩ := kc2_ BK124.out) | (go_at_call 96; (with_reducible refine (node_Depth.calls k a0 a1_0 t127 t128 _ A5.out).mono ?_); rintro e w' ⟨rfl, ⟨nd, rfl⟩⟩; (try first | exact ⟨rfl, _, World.drewN_drewN _ _ _⟩ | exact ⟨rfl, _, Eq.trans (World.drewN_drewN _ _ _) (congrArg (World.drewN _) (Nat.add_assoc _ _ _))⟩))); try go_wp2_with (first | ((with_reducible refine gate_dst (N := 3) rfl ?_); refine bx_ 3 #[.int .u64 a1_0, .int .u64 a1_1] 48 ?_; intro gb124 hg w13 hbox hb; have BK124 := ak_ hbox; have GW124 := ak_ (gs_ hg HB); have GE124 := ak_ (gs_ hg HB); replace HB := ak_ (bt_ (bl_ HB) hb); clear hb hbox hg) | (go_at_call 52; (with_reducible refine (sub_Step.calls k a0 t125 t126 _ A3.out).mono ?_); rintro e w' ⟨rfl, ⟨nd, rfl⟩⟩; (try first | exact ⟨rfl, _, World.drewN_drewN _ _ _⟩ | exact ⟨rfl, _, Eq.trans (World.drewN_drewN _ _ _) (congrArg (World.drewN _) (Nat.add_assoc _ _ _))⟩); obtain ⟨hcz14_0, hcz14_1, hfz14_0, hfz14_1⟩ := kc2_ BK124.out) | (go_at_call 96; (with_reducible refine (node_Depth.calls k a0 a1_0 t127 t128 _ A5.out).mono ?_); rintro e w' ⟨rfl, ⟨nd, rfl⟩⟩; (try first | exact ⟨rfl, _, World.drewN_drewN _ _ _⟩ | exact ⟨rfl, _, Eq.trans (World.drewN_drewN _ _ _) (congrArg (World.drewN _) (Nat.add_assoc _ _ _))⟩))))
       refine bodyPost_ret (results_list (rs := [.tmp 4, .tmp 5, .tmp 6, .tmp 7, .tmp 8]) rfl (by simp) (.tmp (.tmp (.tmp (.tmp (.tmp .nil)))))) rfl ?_
       exact ⟨by first | rfl | (simp <;> rfl) | (simp only [← hji9]; first | rfl | (simp <;> rfl)) | (simp [*] <;> rfl), bw1_ HB GE124⟩
    ·rw [if_neg c7] at H
     have c7b0 : (a1_1 == 0) = false := beq_eq_false_iff_ne.mpr c7
     have c7b1 : (a1_1 != 0) = true := bne_iff_ne.mpr c7
     replace H := bind_eq_some_iff.mp H
     obtain ⟨⟨t129, t130⟩, A150, H⟩ := H
     replace H : (if t125 = 0 then (none) else (if (Int.tmod t127 t125) = 0 then (some (t127, t129, mn (wrap64 ((wrap64 ((wrap64 (Int.tdiv t127 t125)) + 1)) * t125)) a0, true, t130)) else (some (t127, t129, mn (wrap64 ((wrap64 ((wrap64 (Int.tdiv t127 t125)) + 1)) * t125)) a0, (t127 == a0), t130)))) = some (r1, r2, r3, r4, r5) := H
     have A15 := ak_ A150
     clear A150
     by_cases c16 : t125 = 0
     ·rw [if_pos c16] at H
      exact absurd H (by simp)
     ·rw [if_neg c16] at H
      have c16b0 : (t125 == 0) = false := beq_eq_false_iff_ne.mpr c16
      have c16b1 : (t125 != 0) = true := bne_iff_ne.mpr c16
      obtain ⟨ji17, hji17⟩ : ∃ j_ : Int, (mn (wrap64 ((wrap64 ((wrap64 (Int.tdiv t127 t125)) + 1)) * t125)) a0) = j_ := ⟨_, rfl⟩
      replace H : (if (Int.tmod t127 t125) = 0 then (some (t127, t129, ji17, true, t130)) else (some (t127, t129, ji17, (t127 == a0), t130))) = some (r1, r2, r3, r4, r5) := by first | (rw [hji17] at H; exact H) | (simp only [hji17] at H ⊢; exact H)
      (try rw [hji17] at A3)
      (try rw [hji17] at A5)
      (try rw [hji17] at A15)
      have hji17_ : (if a0 < (wrap64 ((wrap64 ((wrap64 (Int.tdiv t127 t125)) + 1)) * t125)) then a0 else (wrap64 ((wrap64 ((wrap64 (Int.tdiv t127 t125)) + 1)) * t125))) = ji17 := hji17
      by_cases c18 : (Int.tmod t127 t125) = 0
      ·rw [if_pos c18] at H
       have c18b0 : ((Int.tmod t127 t125) == 0) = true := beq_iff_eq.mpr c18
       have c18b1 : ((Int.tmod t127 t125) != 0) = false := bne_eq_false_iff_eq.mpr c18
       clear c18
       simp only [some.injEq, Prod.mk.injEq] at H
       obtain ⟨rfl, rfl, rfl, rfl, rfl⟩ := H
       go_enter func75, ntmps75
       go_wp2_with (first | ((with_reducible refine gate_dst (N := 3) rfl ?_); refine bx_ 3 #[.int .u64 a1_0, .int .u64 a1_1] 48 ?_; intro gb124 hg w19 hbox hb; have BK124 := ak_ hbox; have GW124 := ak_ (gs_ hg HB); have GE124 := ak_ (gs_ hg HB); replace HB := ak_ (bt_ (bl_ HB) hb); clear hb hbox hg) | (go_at_call 52; (with_reducible refine (sub_Step.calls k a0 t125 t126 _ A3.out).mono ?_); rintro e w' ⟨rfl, ⟨nd, rfl⟩⟩; (try first | exact ⟨rfl, _, World.drewN_drewN _ _ _⟩ | exact ⟨rfl, _, Eq.trans (World.drewN_drewN _ _ _) (congrArg (World.drewN _) (Nat.add_assoc _ _ _))⟩); obtain ⟨hcz20_0, hcz20_1, hfz20_0, hfz20_1⟩ := kc2_ BK124.out) | (go_at_call 96; (with_reducible refine (node_Depth.calls k a0 a1_0 t127 t128 _ A5.out).mono ?_); rintro e w' ⟨rfl, ⟨nd, rfl⟩⟩; (try first | exact ⟨rfl, _, World.drewN_drewN _ _ _⟩ | exact ⟨rfl, _, Eq.trans (World.drewN_drewN _ _ _) (congrArg (World.drewN _) (Nat.add_assoc _ _ _))⟩)) | (go_at_call 96; (with_reducible refine (node_Depth.calls k a0 a1_1 t129 t130 _ A15.out).mono ?_); rintro e w' ⟨rfl, ⟨nd, rfl⟩⟩; (try first | exact ⟨rfl, _, World.drewN_drewN _ _ _⟩ | exact ⟨rfl, _, Eq.trans (World.drewN_drewN _ _ _) (congrArg (World.drewN _) (Nat.add_assoc _ _ _))⟩)))
       repeat (go_quiet (first | ((with_reducible refine gate_dst (N := 3) rfl ?_); refine bx_ 3 #[.int .u64 a1_0, .int .u64 a1_1] 48 ?_; intro gb124 hg w19 hbox hb; have BK124 := ak_ hbox; have GW124 := ak_ (gs_ hg HB); have GE124 := ak_ (gs_ hg HB); replace HB := ak_ (bt_ (bl_ HB) hb); clear hb hbox hg) | (go_at_call 52; (with_reducible refine (sub_Step.calls k a0 t125 t126 _ A3.out).mono ?_); rintro e w' ⟨rfl, ⟨nd, rfl⟩⟩; (try first | exact ⟨rfl, _, World.drewN_drewN _ _ _⟩ | exact ⟨rfl, _, Eq.trans (World.drewN_drewN _ _ _) (congrArg (World.drewN _) (Nat.add_assoc _ _ _))⟩); obtain ⟨hcz20_0, hcz20_1, hfz20_0, hfz20_1⟩ := kc2_ BK124.out) | (go_at_call 96; (with_reducible refine (node_Depth.calls k a0 a1_0 t127 t128 _ A5.out).mono ?_); rintro e w' ⟨rfl, ⟨nd, rfl⟩⟩; (try first | exact ⟨rfl, _, World.drewN_drewN _ _ _⟩ | exact ⟨rfl, _, Eq.trans (World.drewN_drewN _ _ _) (congrArg (World.drewN _) (Nat.add_assoc _ _ _))⟩)) | (go_at_call 96; (with_reducible refine (node_Depth.calls k a0 a1_1 t129 t130 _ A15.out).mono ?_); rintro e w' ⟨rfl, ⟨nd, rfl⟩⟩; (try first | exact ⟨rfl, _, World.drewN_drewN _ _ _⟩ | exact ⟨rfl, _, Eq.trans (World.drewN_drewN _ _ _) (congrArg (World.drewN _) (Nat.add_assoc _ _ _))⟩))); try go_wp2_with (first | ((with_reducible refine gate_dst (N := 3) rfl ?_); refine bx_ 3 #[.int .u64 a1_0, .int .u64 a1_1] 48 ?_; intro gb124 hg w19 hbox hb; have BK124 := ak_ hbox; have GW124 := ak_ (gs_ hg HB); have GE124 := ak_ (gs_ hg HB); replace HB := ak_ (bt_ (bl_ HB) hb); clear hb hbox hg) | (go_at_call 52; (with_reducible refine (sub_Step.calls k a0 t125 t126 _ A3.out).mono ?_); rintro e w' ⟨rfl, ⟨nd, rfl⟩⟩; (try first | exact ⟨rfl, _, World.drewN_drewN _ _ _⟩ | exact ⟨rfl, _, Eq.trans (World.drewN_drewN _ _ _) (congrArg (World.drewN _) (Nat.add_assoc _ _ _))⟩); obtain ⟨hcz20_0, hcz20_1, hfz20_0, hfz20_1⟩ := kc2_ BK124.out) | (go_at_call 96; (with_reducible refine (node_Depth.calls k a0 a1_0 t127 t128 _ A5.out).mono ?_); rintro e w' ⟨rfl, ⟨nd, rfl⟩⟩; (try first | exact ⟨rfl, _, World.drewN_drewN _ _ _⟩ | exact ⟨rfl, _, Eq.trans (World.drewN_drewN _ _ _) (congrArg (World.drewN _) (Nat.add_assoc _ _ _))⟩)) | (go_at_call 96; (with_reducible refine (node_Depth.calls k a0 a1_1 t129 t130 _ A15.out).mono ?_); rintro e w' ⟨rfl, ⟨nd, rfl⟩⟩; (try first | exact ⟨rfl, _, World.drewN_drewN _ _ _⟩ | exact ⟨rfl, _, Eq.trans (World.drewN_drewN _ _ _) (congrArg (World.drewN _) (Nat.add_assoc _ _ _))⟩))))
       refine bodyPost_ret (results_list (rs := [.tmp 4, .tmp 5, .tmp 6, .tmp 7, .tmp 8]) rfl (by simp) (.tmp (.tmp (.tmp (.tmp (.tmp .nil)))))) rfl ?_
       exact ⟨by first | rfl | (simp <;> rfl) | (simp only [← hji17]; first | rfl | (simp <;> rfl)) | (simp [*] <;> rfl), bw1_ HB GE124⟩
      ·rw [if_neg c18] at H
       have c18b0 : ((Int.tmod t127 t125) == 0) = false := beq_eq_false_iff_ne.mpr c18
       have c18b1 : ((Int.tmod t127 t125) != 0) = true := bne_iff_ne.mpr c18
       simp only [some.injEq, Prod.mk.injEq] at H
       obtain ⟨rfl, rfl, rfl, rfl, rfl⟩ := H
       go_enter func75, ntmps75
       go_wp2_with (first | ((with_reducible refine gate_dst (N := 3) rfl ?_); refine bx_ 3 #[.int .u64 a1_0, .int .u64 a1_1] 48 ?_; intro gb124 hg w21 hbox hb; have BK124 := ak_ hbox; have GW124 := ak_ (gs_ hg HB); have GE124 := ak_ (gs_ hg HB); replace HB := ak_ (bt_ (bl_ HB) hb); clear hb hbox hg) | (go_at_call 52; (with_reducible refine (sub_Step.calls k a0 t125 t126 _ A3.out).mono ?_); rintro e w' ⟨rfl, ⟨nd, rfl⟩⟩; (try first | exact ⟨rfl, _, World.drewN_drewN _ _ _⟩ | exact ⟨rfl, _, Eq.trans (World.drewN_drewN _ _ _) (congrArg (World.drewN _) (Nat.add_assoc _ _ _))⟩); obtain ⟨hcz22_0, hcz22_1, hfz22_0, hfz22_1⟩ := kc2_ BK124.out) | (go_at_call 96; (with_reducible refine (node_Depth.calls k a0 a1_0 t127 t128 _ A5.out).mono ?_); rintro e w' ⟨rfl, ⟨nd, rfl⟩⟩; (try first | exact ⟨rfl, _, World.drewN_drewN _ _ _⟩ | exact ⟨rfl, _, Eq.trans (World.drewN_drewN _ _ _) (congrArg (World.drewN _) (Nat.add_assoc _ _ _))⟩)) | (go_at_call 96; (with_reducible refine (node_Depth.calls k a0 a1_1 t129 t130 _ A15.out).mono ?_); rintro e w' ⟨rfl, ⟨nd, rfl⟩⟩; (try first | exact ⟨rfl, _, World.drewN_drewN _ _ _⟩ | exact ⟨rfl, _, Eq.trans (World.drewN_drewN _ _ _) (congrArg (World.drewN _) (Nat.add_assoc _ _ _))⟩)))
       repeat (go_quiet (first | ((with_reducible refine gate_dst (N := 3) rfl ?_); refine bx_ 3 #[.int .u64 a1_0, .int .u64 a1_1] 48 ?_; intro gb124 hg w21 hbox hb; have BK124 := ak_ hbox; have GW124 := ak_ (gs_ hg HB); have GE124 := ak_ (gs_ hg HB); replace HB := ak_ (bt_ (bl_ HB) hb); clear hb hbox hg) | (go_at_call 52; (with_reducible refine (sub_Step.calls k a0 t125 t126 _ A3.out).mono ?_); rintro e w' ⟨rfl, ⟨nd, rfl⟩⟩; (try first | exact ⟨rfl, _, World.drewN_drewN _ _ _⟩ | exact ⟨rfl, _, Eq.trans (World.drewN_drewN _ _ _) (congrArg (World.drewN _) (Nat.add_assoc _ _ _))⟩); obtain ⟨hcz22_0, hcz22_1, hfz22_0, hfz22_1⟩ := kc2_ BK124.out) | (go_at_call 96; (with_reducible refine (node_Depth.calls k a0 a1_0 t127 t128 _ A5.out).mono ?_); rintro e w' ⟨rfl, ⟨nd, rfl⟩⟩; (try first | exact ⟨rfl, _, World.drewN_drewN _ _ _⟩ | exact ⟨rfl, _, Eq.trans (World.drewN_drewN _ _ _) (congrArg (World.drewN _) (Nat.add_assoc _ _ _))⟩)) | (go_at_call 96; (with_reducible refine (node_Depth.calls k a0 a1_1 t129 t130 _ A15.out).mono ?_); rintro e w' ⟨rfl, ⟨nd, rfl⟩⟩; (try first | exact ⟨rfl, _, World.drewN_drewN _ _ _⟩ | exact ⟨rfl, _, Eq.trans (World.drewN_drewN _ _ _) (congrArg (World.drewN _) (Nat.add_assoc _ _ _))⟩))); try go_wp2_with (first | ((with_reducible refine gate_dst (N := 3) rfl ?_); refine bx_ 3 #[.int .u64 a1_0, .int .u64 a1_1] 48 ?_; intro gb124 hg w21 hbox hb; have BK124 := ak_ hbox; have GW124 := ak_ (gs_ hg HB); have GE124 := ak_ (gs_ hg HB); replace HB := ak_ (bt_ (bl_ HB) hb); clear hb hbox hg) | (go_at_call 52; (with_reducible refine (sub_Step.calls k a0 t125 t126 _ A3.out).mono ?_); rintro e w' ⟨rfl, ⟨nd, rfl⟩⟩; (try first | exact ⟨rfl, _, World.drewN_drewN _ _ _⟩ | exact ⟨rfl, _, Eq.trans (World.drewN_drewN _ _ _) (congrArg (World.drewN _) (Nat.add_assoc _ _ _))⟩); obtain ⟨hcz22_0, hcz22_1, hfz22_0, hfz22_1⟩ := kc2_ BK124.out) | (go_at_call 96; (with_reducible refine (node_Depth.calls k a0 a1_0 t127 t128 _ A5.out).mono ?_); rintro e w' ⟨rfl, ⟨nd, rfl⟩⟩; (try first | exact ⟨rfl, _, World.drewN_drewN _ _ _⟩ | exact ⟨rfl, _, Eq.trans (World.drewN_drewN _ _ _) (congrArg (World.drewN _) (Nat.add_assoc _ _ _))⟩)) | (go_at_call 96; (with_reducible refine (node_Depth.calls k a0 a1_1 t129 t130 _ A15.out).mono ?_); rintro e w' ⟨rfl, ⟨nd, rfl⟩⟩; (try first | exact ⟨rfl, _, World.drewN_drewN _ _ _⟩ | exact ⟨rfl, _, Eq.trans (World.drewN_drewN _ _ _) (congrArg (World.drewN _) (Nat.add_assoc _ _ _))⟩))))
       refine bodyPost_ret (results_list (rs := [.tmp 4, .tmp 5, .tmp 6, .tmp 7, .tmp 8]) rfl (by simp) (.tmp (.tmp (.tmp (.tmp (.tmp .nil)))))) rfl ?_
       exact ⟨by first | rfl | (simp <;> rfl) | (simp only [← hji17]; first | rfl | (simp <;> rfl)) | (simp [*] <;> rfl), bw1_ HB GE124⟩
   ·rw [if_neg c6] at H
    have c6b0 : (t128 == 0) = false := beq_eq_false_iff_ne.mpr c6
    have c6b1 : (t128 != 0) = true := bne_iff_ne.mpr c6
    by_cases c23 : t125 = 0
    ·rw [if_pos c23] at H
     exact absurd H (by simp)
    ·rw [if_neg c23] at H
     have c23b0 : (t125 == 0) = false := beq_eq_false_iff_ne.mpr c23
     have c23b1 : (t125 != 0) = true := bne_iff_ne.mpr c23
     obtain ⟨ji24, hji24⟩ : ∃ j_ : Int, (mn (wrap64 ((wrap64 ((wrap64 (Int.tdiv t127 t125)) + 1)) * t125)) a0) = j_ := ⟨_, rfl⟩
     replace H : (if (Int.tmod t127 t125) = 0 then (some (t127, 0, ji24, true, t128)) else (some (t127, 0, ji24, (t127 == a0), t128))) = some (r1, r2, r3, r4, r5) := by first | (rw [hji24] at H; exact H) | (simp only [hji24] at H ⊢; exact H)
     (try rw [hji24] at A3)
     (try rw [hji24] at A5)
     have hji24_ : (if a0 < (wrap64 ((wrap64 ((wrap64 (Int.tdiv t127 t125)) + 1)) * t125)) then a0 else (wrap64 ((wrap64 ((wrap64 (Int.tdiv t127 t125)) + 1)) * t125))) = ji24 := hji24
     by_cases c25 : (Int.tmod t127 t125) = 0
     ·rw [if_pos c25] at H
      have c25b0 : ((Int.tmod t127 t125) == 0) = true := beq_iff_eq.mpr c25
      have c25b1 : ((Int.tmod t127 t125) != 0) = false := bne_eq_false_iff_eq.mpr c25
      clear c25
      simp only [some.injEq, Prod.mk.injEq] at H
      obtain ⟨rfl, rfl, rfl, rfl, rfl⟩ := H
      go_enter func75, ntmps75
      go_wp2_with (first | ((with_reducible refine gate_dst (N := 3) rfl ?_); refine bx_ 3 #[.int .u64 a1_0, .int .u64 a1_1] 48 ?_; intro gb124 hg w26 hbox hb; have BK124 := ak_ hbox; have GW124 := ak_ (gs_ hg HB); have GE124 := ak_ (gs_ hg HB); replace HB := ak_ (bt_ (bl_ HB) hb); clear hb hbox hg) | (go_at_call 52; (with_reducible refine (sub_Step.calls k a0 t125 t126 _ A3.out).mono ?_); rintro e w' ⟨rfl, ⟨nd, rfl⟩⟩; (try first | exact ⟨rfl, _, World.drewN_drewN _ _ _⟩ | exact ⟨rfl, _, Eq.trans (World.drewN_drewN _ _ _) (congrArg (World.drewN _) (Nat.add_assoc _ _ _))⟩); obtain ⟨hcz27_0, hcz27_1, hfz27_0, hfz27_1⟩ := kc2_ BK124.out) | (go_at_call 96; (with_reducible refine (node_Depth.calls k a0 a1_0 t127 t128 _ A5.out).mono ?_); rintro e w' ⟨rfl, ⟨nd, rfl⟩⟩; (try first | exact ⟨rfl, _, World.drewN_drewN _ _ _⟩ | exact ⟨rfl, _, Eq.trans (World.drewN_drewN _ _ _) (congrArg (World.drewN _) (Nat.add_assoc _ _ _))⟩)))
      repeat (go_quiet (first | ((with_reducible refine gate_dst (N := 3) rfl ?_); refine bx_ 3 #[.int .u64 a1_0, .int .u64 a1_1] 48 ?_; intro gb124 hg w26 hbox hb; have BK124 := ak_ hbox; have GW124 := ak_ (gs_ hg HB); have GE124 := ak_ (gs_ hg HB); replace HB := ak_ (bt_ (bl_ HB) hb); clear hb hbox hg) | (go_at_call 52; (with_reducible refine (sub_Step.calls k a0 t125 t126 _ A3.out).mono ?_); rintro e w' ⟨rfl, ⟨nd, rfl⟩⟩; (try first | exact ⟨rfl, _, World.drewN_drewN _ _ _⟩ | exact ⟨rfl, _, Eq.trans (World.drewN_drewN _ _ _) (congrArg (World.drewN _) (Nat.add_assoc _ _ _))⟩); obtain ⟨hcz27_0, hcz27_1, hfz27_0, hfz27_1⟩ := kc2_ BK124.out) | (go_at_call 96; (with_reducible refine (node_Depth.calls k a0 a1_0 t127 t128 _ A5.out).mono ?_); rintro e w' ⟨rfl, ⟨nd, rfl⟩⟩; (try first | exact ⟨rfl, _, World.drewN_drewN _ _ _⟩ | exact ⟨rfl, _, Eq.trans (World.drewN_drewN _ _ _) (congrArg (World.drewN _) (Nat.add_assoc _ _ _))⟩))); try go_wp2_with (first | ((with_reducible refine gate_dst (N := 3) rfl ?_); refine bx_ 3 #[.int .u64 a1_0, .int .u64 a1_1] 48 ?_; intro gb124 hg w26 hbox hb; have BK124 := ak_ hbox; have GW124 := ak_ (gs_ hg HB); have GE124 := ak_ (gs_ hg HB); replace HB := ak_ (bt_ (bl_ HB) hb); clear hb hbox hg) | (go_at_call 52; (with_reducible refine (sub_Step.calls k a0 t125 t126 _ A3.out).mono ?_); rintro e w' ⟨rfl, ⟨nd, rfl⟩⟩; (try first | exact ⟨rfl, _, World.drewN_drewN _ _ _⟩ | exact ⟨rfl, _, Eq.trans (World.drewN_drewN _ _ _) (congrArg (World.drewN _) (Nat.add_assoc _ _ _))⟩); obtain ⟨hcz27_0, hcz27_1, hfz27_0, hfz27_1⟩ := kc2_ BK124.out) | (go_at_call 96; (with_reducible refine (node_Depth.calls k a0 a1_0 t127 t128 _ A5.out).mono ?_); rintro e w' ⟨rfl, ⟨nd, rfl⟩⟩; (try first | exact ⟨rfl, _, World.drewN_drewN _ _ _⟩ | exact ⟨rfl, _, Eq.trans (World.drewN_drewN _ _ _) (congrArg (World.drewN _) (Nat.add_assoc _ _ _))⟩))))
      refine bodyPost_ret (results_list (rs := [.tmp 4, .tmp 5, .tmp 6, .tmp 7, .tmp 8]) rfl (by simp) (.tmp (.tmp (.tmp (.tmp (.tmp .nil)))))) rfl ?_
      exact ⟨by first | rfl | (simp <;> rfl) | (simp only [← hji24]; first | rfl | (simp <;> rfl)) | (simp [*] <;> rfl), bw1_ HB GE124⟩
     ·rw [if_neg c25] at H
      have c25b0 : ((Int.tmod t127 t125) == 0) = false := beq_eq_false_iff_ne.mpr c25
      have c25b1 : ((Int.tmod t127 t125) != 0) = true := bne_iff_ne.mpr c25
      simp only [some.injEq, Prod.mk.injEq] at H
      obtain ⟨rfl, rfl, rfl, rfl, rfl⟩ := H
      go_enter func75, ntmps75
      go_wp2_with (first | ((with_reducible refine gate_dst (N := 3) rfl ?_); refine bx_ 3 #[.int .u64 a1_0, .int .u64 a1_1] 48 ?_; intro gb124 hg w28 hbox hb; have BK124 := ak_ hbox; have GW124 := ak_ (gs_ hg HB); have GE124 := ak_ (gs_ hg HB); replace HB := ak_ (bt_ (bl_ HB) hb); clear hb hbox hg) | (go_at_call 52; (with_reducible refine (sub_Step.calls k a0 t125 t126 _ A3.out).mono ?_); rintro e w' ⟨rfl, ⟨nd, rfl⟩⟩; (try first | exact ⟨rfl, _, World.drewN_drewN _ _ _⟩ | exact ⟨rfl, _, Eq.trans (World.drewN_drewN _ _ _) (congrArg (World.drewN _) (Nat.add_assoc _ _ _))⟩); obtain ⟨hcz29_0, hcz29_1, hfz29_0, hfz29_1⟩ := kc2_ BK124.out) | (go_at_call 96; (with_reducible refine (node_Depth.calls k a0 a1_0 t127 t128 _ A5.out).mono ?_); rintro e w' ⟨rfl, ⟨nd, rfl⟩⟩; (try first | exact ⟨rfl, _, World.drewN_drewN _ _ _⟩ | exact ⟨rfl, _, Eq.trans (World.drewN_drewN _ _ _) (congrArg (World.drewN _) (Nat.add_assoc _ _ _))⟩)))
      repeat (go_quiet (first | ((with_reducible refine gate_dst (N := 3) rfl ?_); refine bx_ 3 #[.int .u64 a1_0, .int .u64 a1_1] 48 ?_; intro gb124 hg w28 hbox hb; have BK124 := ak_ hbox; have GW124 := ak_ (gs_ hg HB); have GE124 := ak_ (gs_ hg HB); replace HB := ak_ (bt_ (bl_ HB) hb); clear hb hbox hg) | (go_at_call 52; (with_reducible refine (sub_Step.calls k a0 t125 t126 _ A3.out).mono ?_); rintro e w' ⟨rfl, ⟨nd, rfl⟩⟩; (try first | exact ⟨rfl, _, World.drewN_drewN _ _ _⟩ | exact ⟨rfl, _, Eq.trans (World.drewN_drewN _ _ _) (congrArg (World.drewN _) (Nat.add_assoc _ _ _))⟩); obtain ⟨hcz29_0, hcz29_1, hfz29_0, hfz29_1⟩ := kc2_ BK124.out) | (go_at_call 96; (with_reducible refine (node_Depth.calls k a0 a1_0 t127 t128 _ A5.out).mono ?_); rintro e w' ⟨rfl, ⟨nd, rfl⟩⟩; (try first | exact ⟨rfl, _, World.drewN_drewN _ _ _⟩ | exact ⟨rfl, _, Eq.trans (World.drewN_drewN _ _ _) (congrArg (World.drewN _) (Nat.add_assoc _ _ _))⟩))); try go_wp2_with (first | ((with_reducible refine gate_dst (N := 3) rfl ?_); refine bx_ 3 #[.int .u64 a1_0, .int .u64 a1_1] 48 ?_; intro gb124 hg w28 hbox hb; have BK124 := ak_ hbox; have GW124 := ak_ (gs_ hg HB); have GE124 := ak_ (gs_ hg HB); replace HB := ak_ (bt_ (bl_ HB) hb); clear hb hbox hg) | (go_at_call 52; (with_reducible refine (sub_Step.calls k a0 t125 t126 _ A3.out).mono ?_); rintro e w' ⟨rfl, ⟨nd, rfl⟩⟩; (try first | exact ⟨rfl, _, World.drewN_drewN _ _ _⟩ | exact ⟨rfl, _, Eq.trans (World.drewN_drewN _ _ _) (congrArg (World.drewN _) (Nat.add_assoc _ _ _))⟩); obtain ⟨hcz29_0, hcz29_1, hfz29_0, hfz29_1⟩ := kc2_ BK124.out) | (go_at_call 96; (with_reducible refine (node_Depth.calls k a0 a1_0 t127 t128 _ A5.out).mono ?_); rintro e w' ⟨rfl, ⟨nd, rfl⟩⟩; (try first | exact ⟨rfl, _, World.drewN_drewN _ _ _⟩ | exact ⟨rfl, _, Eq.trans (World.drewN_drewN _ _ _) (congrArg (World.drewN _) (Nat.add_assoc _ _ _))⟩))))
      refine bodyPost_ret (results_list (rs := [.tmp 4, .tmp 5, .tmp 6, .tmp 7, .tmp 8]) rfl (by simp) (.tmp (.tmp (.tmp (.tmp (.tmp .nil)))))) rfl ?_
      exact ⟨by first | rfl | (simp <;> rfl) | (simp only [← hji24]; first | rfl | (simp <;> rfl)) | (simp [*] <;> rfl), bw1_ HB GE124⟩
  ·rw [if_neg c4] at H
   have c4b0 : (t126 == 0) = false := beq_eq_false_iff_ne.mpr c4
   have c4b1 : (t126 != 0) = true := bne_iff_ne.mpr c4
   simp only [some.injEq, Prod.mk.injEq] at H
   obtain ⟨rfl, rfl, rfl, rfl, rfl⟩ := H
   go_enter func75, ntmps75
   go_wp2_with (first | ((with_reducible refine gate_dst (N := 3) rfl ?_); refine bx_ 3 #[.int .u64 a1_0, .int .u64 a1_1] 48 ?_; intro gb124 hg w30 hbox hb; have BK124 := ak_ hbox; have GW124 := ak_ (gs_ hg HB); have GE124 := ak_ (gs_ hg HB); replace HB := ak_ (bt_ (bl_ HB) hb); clear hb hbox hg) | (go_at_call 52; (with_reducible refine (sub_Step.calls k a0 t125 t126 _ A3.out).mono ?_); rintro e w' ⟨rfl, ⟨nd, rfl⟩⟩; (try first | exact ⟨rfl, _, World.drewN_drewN _ _ _⟩ | exact ⟨rfl, _, Eq.trans (World.drewN_drewN _ _ _) (congrArg (World.drewN _) (Nat.add_assoc _ _ _))⟩)))
   repeat (go_quiet (first | ((with_reducible refine gate_dst (N := 3) rfl ?_); refine bx_ 3 #[.int .u64 a1_0, .int .u64 a1_1] 48 ?_; intro gb124 hg w30 hbox hb; have BK124 := ak_ hbox; have GW124 := ak_ (gs_ hg HB); have GE124 := ak_ (gs_ hg HB); replace HB := ak_ (bt_ (bl_ HB) hb); clear hb hbox hg) | (go_at_call 52; (with_reducible refine (sub_Step.calls k a0 t125 t126 _ A3.out).mono ?_); rintro e w' ⟨rfl, ⟨nd, rfl⟩⟩; (try first | exact ⟨rfl, _, World.drewN_drewN _ _ _⟩ | exact ⟨rfl, _, Eq.trans (World.drewN_drewN _ _ _) (congrArg (World.drewN _) (Nat.add_assoc _ _ _))⟩))); try go_wp2_with (first | ((with_reducible refine gate_dst (N := 3) rfl ?_); refine bx_ 3 #[.int .u64 a1_0, .int .u64 a1_1] 48 ?_; intro gb124 hg w30 hbox hb; have BK124 := ak_ hbox; have GW124 := ak_ (gs_ hg HB); have GE124 := ak_ (gs_ hg HB); replace HB := ak_ (bt_ (bl_ HB) hb); clear hb hbox hg) | (go_at_call 52; (with_reducible refine (sub_Step.calls k a0 t125 t126 _ A3.out).mono ?_); rintro e w' ⟨rfl, ⟨nd, rfl⟩⟩; (try first | exact ⟨rfl, _, World.drewN_drewN _ _ _⟩ | exact ⟨rfl, _, Eq.trans (World.drewN_drewN _ _ _) (congrArg (World.drewN _) (Nat.add_assoc _ _ _))⟩))))
   refine bodyPost_ret (results_list (rs := [.tmp 4, .tmp 5, .tmp 6, .tmp 7, .tmp 8]) rfl (by simp) (.tmp (.tmp (.tmp (.tmp (.tmp .nil)))))) rfl ?_
   exact ea_ (bw1_ HB GE124)
def sub_Useful.f (k : Nat) (a0 : Int) (a1_0 : Int) (a1_1 : Int) : Option (Bool × Int) := (sub_Check.f k a0 a1_0 a1_1).bind fun t132 => (if t132 = 0 then (if a1_1 = 0 then (some ((a1_0 == 1), 0)) else ((sub_depths.f k a0 a1_0 a1_1).bind fun bt133 => (if bt133.2.2.2.2 = 0 then (if bt133.2.2.2.1 = true then (some (true, bt133.2.2.2.2)) else (some (decide (bt133.2.1 ≤ bt133.2.2.1), bt133.2.2.2.2))) else (some (false, bt133.2.2.2.2))))) else (some (false, t132)))
theorem sub_Useful.mono : ∀ a0 a1 a2 k, LeO (sub_Useful.f k a0 a1 a2) (sub_Useful.f (k + 1) a0 a1 a2) := by
  intro a0 a1 a2 k
  unfold sub_Useful.f
  repeat' first | (with_reducible first | exact sub_Check.mono .. | exact sub_depths.mono .. | exact LeO.refl _ | exact LeO.none _ | refine LeO.ite ?_ ?_ | refine LeO.bind ?_ (fun _ => ?_)) | exact sub_Check.mono .. | exact sub_depths.mono .. | refine LeO.ite ?_ ?_ | refine LeO.bind ?_ (fun _ => ?_)
set_option maxHeartbeats 8000000 in
set_option maxRecDepth 100000 in
theorem sub_Useful.calls (k : Nat) (a0 : Int) (a1_0 : Int) (a1_1 : Int) (r1 : Bool) (r2 : Int) (w : World) (h : sub_Useful.f k a0 a1_0 a1_1 = some (r1, r2)) :
   Calls Try.prog 43 #[.int .i64 a0, .agg #[.int .u64 a1_0, .int .u64 a1_1]] w fun e w' => e = .returned (.tuple #[.bool r1, .int .i64 r2]) ∧ Below w.heap.size w w' := by
  have hu48 := underlying48
  have HB := ak_ (Below.refl w.heap.size w)
  have H : ((sub_Check.f k a0 a1_0 a1_1).bind fun t132 => (if t132 = 0 then (if a1_1 = 0 then (some ((a1_0 == 1), 0)) else ((sub_depths.f k a0 a1_0 a1_1).bind fun bt133 => (if bt133.2.2.2.2 = 0 then (if bt133.2.2.2.1 = true then (some (true, bt133.2.2.2.2)) else (some (decide (bt133.2.1 ≤ bt133.2.2.1), bt133.2.2.2.2))) else (some (false, bt133.2.2.2.2))))) else (some (false, t132)))) = some (r1, r2) := h
  clear h
  replace H := bind_eq_some_iff.mp H
  obtain ⟨t132, A30, H⟩ := H
  replace H : (if t132 = 0 then (if a1_1 = 0 then (some ((a1_0 == 1), 0)) else ((sub_depths.f k a0 a1_0 a1_1).bind fun bt133 => (if bt133.2.2.2.2 = 0 then (if bt133.2.2.2.1 = true then (some (true, bt133.2.2.2.2)) else (some (decide (bt133.2.1 ≤ bt133.2.2.1), bt133.2.2.2.2))) else (some (false, bt133.2.2.2.2))))) else (some (false, t132))) = some (r1, r2) := H
  have A3 := ak_ A30
  clear A30
  by_cases c4 : t132 = 0
  ·rw [if_pos c4] at H
   have c4b0 : (t132 == 0) = true := beq_iff_eq.mpr c4
   have c4b1 : (t132 != 0) = false := bne_eq_false_iff_eq.mpr c4
   clear c4
   by_cases c5 : a1_1 = 0
   ·rw [if_pos c5] at H
    have c5b0 : (a1_1 == 0) = true := beq_iff_eq.mpr c5
    have c5b1 : (a1_1 != 0) = false := bne_eq_false_iff_eq.mpr c5
    clear c5
    simp only [some.injEq, Prod.mk.injEq] at H
    obtain ⟨rfl, rfl⟩ := H
    go_enter func43, ntmps43
    go_wp2_with (first | ((with_reducible refine gate_dst (N := 3) rfl ?_); refine bx_ 3 #[.int .u64 a1_0, .int .u64 a1_1] 48 ?_; intro gb131 hg w6 hbox hb; have BK131 := ak_ hbox; have GW131 := ak_ (gs_ hg HB); have GE131 := ak_ (gs_ hg HB); replace HB := ak_ (bt_ (bl_ HB) hb); clear hb hbox hg; obtain ⟨hcz7_0, hcz7_1, hfz7_0, hfz7_1⟩ := kc2_ BK131.out) | ((with_reducible refine gate_callee (f := 51) rfl ?_); refine gl_ (some 14) func51 #[.int .i64 a0, .agg #[.int .u64 a1_0, .int .u64 a1_1]] ?_; (with_reducible refine (sub_Check.calls k a0 a1_0 a1_1 t132 _ A3.out).mono ?_); rintro e w8 ⟨rfl, hb⟩; refine ⟨_, rfl, ?_⟩; replace BK131 := ak_ (kb_ (kl_ BK131) hb); replace HB := ak_ (bt_ (bw1_ HB GE131) hb); (try clear hb); (try clear hk); obtain ⟨hcz9_0, hcz9_1, hfz9_0, hfz9_1⟩ := kc2_ BK131.out))
    go_ret2
    exact ea_ (bw1_ HB GE131)
   ·rw [if_neg c5] at H
    have c5b0 : (a1_1 == 0) = false := beq_eq_false_iff_ne.mpr c5
    have c5b1 : (a1_1 != 0) = true := bne_iff_ne.mpr c5
    replace H := bind_eq_some_iff.mp H
    obtain ⟨⟨t133, t134, t135, t136, t137⟩, A100, H⟩ := H
    replace H : (if t137 = 0 then (if t136 = true then (some (true, t137)) else (some (decide (t134 ≤ t135), t137))) else (some (false, t137))) = some (r1, r2) := H
    have A10 := ak_ A100
    clear A100
    by_cases c11 : t137 = 0
    ·rw [if_pos c11] at H
     have c11b0 : (t137 == 0) = true := beq_iff_eq.mpr c11
     have c11b1 : (t137 != 0) = false := bne_eq_false_iff_eq.mpr c11
     clear c11
     by_cases c12 : t136 = true
     ·subst c12
      have H1 : (some (true, t137)) = some (r1, r2) := by rw [if_pos rfl] at H; exact H
      clear H
      have H := H1
      clear H1
      simp only [some.injEq, Prod.mk.injEq] at H
      obtain ⟨rfl, rfl⟩ := H
      go_enter func43, ntmps43
      go_wp2_with (first | ((with_reducible refine gate_dst (N := 3) rfl ?_); refine bx_ 3 #[.int .u64 a1_0, .int .u64 a1_1] 48 ?_; intro gb131 hg w13 hbox hb; have BK131 := ak_ hbox; have GW131 := ak_ (gs_ hg HB); have GE131 := ak_ (gs_ hg HB); replace HB := ak_ (bt_ (bl_ HB) hb); clear hb hbox hg; obtain ⟨hcz14_0, hcz14_1, hfz14_0, hfz14_1⟩ := kc2_ BK131.out) | ((with_reducible refine gate_callee (f := 51) rfl ?_); refine gl_ (some 14) func51 #[.int .i64 a0, .agg #[.int .u64 a1_0, .int .u64 a1_1]] ?_; (with_reducible refine (sub_Check.calls k a0 a1_0 a1_1 t132 _ A3.out).mono ?_); rintro e w15 ⟨rfl, hb⟩; refine ⟨_, rfl, ?_⟩; replace BK131 := ak_ (kb_ (kl_ BK131) hb); replace HB := ak_ (bt_ (bw1_ HB GE131) hb); (try clear hb); (try clear hk); obtain ⟨hcz16_0, hcz16_1, hfz16_0, hfz16_1⟩ := kc2_ BK131.out) | ((with_reducible refine gate_callee (f := 75) rfl ?_); refine gl_ (some 27) func75 #[.int .i64 a0, .agg #[.int .u64 a1_0, .int .u64 a1_1]] ?_; (with_reducible refine (sub_depths.calls k a0 a1_0 a1_1 t133 t134 t135 true t137 _ A10.out).mono ?_); rintro e w17 ⟨rfl, hb⟩; refine ⟨_, rfl, ?_⟩; replace BK131 := ak_ (kb_ (kl_ BK131) hb); replace HB := ak_ (bt_ (bw1_ HB GE131) hb); (try clear hb); (try clear hk)))
      go_ret2
      exact ea_ (bw1_ HB GE131)
     ·replace c12 := Bool.eq_false_iff.mpr c12
      subst c12
      have H1 : (some (decide (t134 ≤ t135), t137)) = some (r1, r2) := by rw [if_neg (show ¬ (false = true) by decide)] at H; exact H
      clear H
      have H := H1
      clear H1
      simp only [some.injEq, Prod.mk.injEq] at H
      obtain ⟨rfl, rfl⟩ := H
      go_enter func43, ntmps43
      go_wp2_with (first | ((with_reducible refine gate_dst (N := 3) rfl ?_); refine bx_ 3 #[.int .u64 a1_0, .int .u64 a1_1] 48 ?_; intro gb131 hg w18 hbox hb; have BK131 := ak_ hbox; have GW131 := ak_ (gs_ hg HB); have GE131 := ak_ (gs_ hg HB); replace HB := ak_ (bt_ (bl_ HB) hb); clear hb hbox hg; obtain ⟨hcz19_0, hcz19_1, hfz19_0, hfz19_1⟩ := kc2_ BK131.out) | ((with_reducible refine gate_callee (f := 51) rfl ?_); refine gl_ (some 14) func51 #[.int .i64 a0, .agg #[.int .u64 a1_0, .int .u64 a1_1]] ?_; (with_reducible refine (sub_Check.calls k a0 a1_0 a1_1 t132 _ A3.out).mono ?_); rintro e w20 ⟨rfl, hb⟩; refine ⟨_, rfl, ?_⟩; replace BK131 := ak_ (kb_ (kl_ BK131) hb); replace HB := ak_ (bt_ (bw1_ HB GE131) hb); (try clear hb); (try clear hk); obtain ⟨hcz21_0, hcz21_1, hfz21_0, hfz21_1⟩ := kc2_ BK131.out) | ((with_reducible refine gate_callee (f := 75) rfl ?_); refine gl_ (some 27) func75 #[.int .i64 a0, .agg #[.int .u64 a1_0, .int .u64 a1_1]] ?_; (with_reducible refine (sub_depths.calls k a0 a1_0 a1_1 t133 t134 t135 false t137 _ A10.out).mono ?_); rintro e w22 ⟨rfl, hb⟩; refine ⟨_, rfl, ?_⟩; replace BK131 := ak_ (kb_ (kl_ BK131) hb); replace HB := ak_ (bt_ (bw1_ HB GE131) hb); (try clear hb); (try clear hk)))
      go_ret2
      exact ea_ (bw1_ HB GE131)
    ·rw [if_neg c11] at H
     have c11b0 : (t137 == 0) = false := beq_eq_false_iff_ne.mpr c11
     have c11b1 : (t137 != 0) = true := bne_iff_ne.mpr c11
     simp only [some.injEq, Prod.mk.injEq] at H
     obtain ⟨rfl, rfl⟩ := H
     go_enter func43, ntmps43
     go_wp2_with (first | ((with_reducible refine gate_dst (N := 3) rfl ?_); refine bx_ 3 #[.int .u64 a1_0, .int .u64 a1_1] 48 ?_; intro gb131 hg w23 hbox hb; have BK131 := ak_ hbox; have GW131 := ak_ (gs_ hg HB); have GE131 := ak_ (gs_ hg HB); replace HB := ak_ (bt_ (bl_ HB) hb); clear hb hbox hg; obtain ⟨hcz24_0, hcz24_1, hfz24_0, hfz24_1⟩ := kc2_ BK131.out) | ((with_reducible refine gate_callee (f := 51) rfl ?_); refine gl_ (some 14) func51 #[.int .i64 a0, .agg #[.int .u64 a1_0, .int .u64 a1_1]] ?_; (with_reducible refine (sub_Check.calls k a0 a1_0 a1_1 t132 _ A3.out).mono ?_); rintro e w25 ⟨rfl, hb⟩; refine ⟨_, rfl, ?_⟩; replace BK131 := ak_ (kb_ (kl_ BK131) hb); replace HB := ak_ (bt_ (bw1_ HB GE131) hb); (try clear hb); (try clear hk); obtain ⟨hcz26_0, hcz26_1, hfz26_0, hfz26_1⟩ := kc2_ BK131.out) | ((with_reducible refine gate_callee (f := 75) rfl ?_); refine gl_ (some 27) func75 #[.int .i64 a0, .agg #[.int .u64 a1_0, .int .u64 a1_1]] ?_; (with_reducible refine (sub_depths.calls k a0 a1_0 a1_1 t133 t134 t135 t136 t137 _ A10.out).mono ?_); rintro e w27 ⟨rfl, hb⟩; refine ⟨_, rfl, ?_⟩; replace BK131 := ak_ (kb_ (kl_ BK131) hb); replace HB := ak_ (bt_ (bw1_ HB GE131) hb); (try clear hb); (try clear hk)))
     go_ret2
     exact ea_ (bw1_ HB GE131)
  ·rw [if_neg c4] at H
   have c4b0 : (t132 == 0) = false := beq_eq_false_iff_ne.mpr c4
   have c4b1 : (t132 != 0) = true := bne_iff_ne.mpr c4
   simp only [some.injEq, Prod.mk.injEq] at H
   obtain ⟨rfl, rfl⟩ := H
   go_enter func43, ntmps43
   go_wp2_with (first | ((with_reducible refine gate_dst (N := 3) rfl ?_); refine bx_ 3 #[.int .u64 a1_0, .int .u64 a1_1] 48 ?_; intro gb131 hg w28 hbox hb; have BK131 := ak_ hbox; have GW131 := ak_ (gs_ hg HB); have GE131 := ak_ (gs_ hg HB); replace HB := ak_ (bt_ (bl_ HB) hb); clear hb hbox hg; obtain ⟨hcz29_0, hcz29_1, hfz29_0, hfz29_1⟩ := kc2_ BK131.out) | ((with_reducible refine gate_callee (f := 51) rfl ?_); refine gl_ (some 14) func51 #[.int .i64 a0, .agg #[.int .u64 a1_0, .int .u64 a1_1]] ?_; (with_reducible refine (sub_Check.calls k a0 a1_0 a1_1 t132 _ A3.out).mono ?_); rintro e w30 ⟨rfl, hb⟩; refine ⟨_, rfl, ?_⟩; replace BK131 := ak_ (kb_ (kl_ BK131) hb); replace HB := ak_ (bt_ (bw1_ HB GE131) hb); (try clear hb); (try clear hk)))
   go_ret2
   exact ea_ (bw1_ HB GE131)
mutual
def store_Pairs.j0 : Nat → Int → Int → Int → Int → Bool → Option ((List (S48)) × Int)
  | 0, _, _, _, _, _ => none
  | k + 1, x0, x1, x8, x10, x36 => if x36 = true then (some (([] : List (S48)), 1)) else (if 0 ≤ x8 then (if (x8 : Int).toNat ≤ 17592186044416 then ((some (List.replicate 0 z48 : List (S48))).bind fun y142 => (if x1 = 1 then (store_Pairs.l0 k x0 x10 y142 (wrap64 (x0 + 1)) 0) else (if y142.length < 8796093022208 then (store_Pairs.l1 k x0 x1 x10 (y142 ++ [(⟨1, 0⟩ : S48)]) x0 0) else (none)))) else (none)) else (none))
def store_Pairs.l0 : Nat → Int → Int → List (S48) → Int → Int → Option ((List (S48)) × Int)
  | 0, _, _, _, _, _ => none
  | k + 1, x0, x10, x12, x42, x43 => if x43 < x42 then (if 0 ≤ (wrap64 (x0 - x43)) then (if x12.length < 8796093022208 then (store_Pairs.l0 k x0 x10 (x12 ++ [(⟨shr .u64 x10 (wrap64 (x0 - x43)), 0⟩ : S48)]) x42 (wrap64 (x43 + 1))) else (none)) else (none)) else (some (x12, 0))
def store_Pairs.l1 : Nat → Int → Int → Int → List (S48) → Int → Int → Option ((List (S48)) × Int)
  | 0, _, _, _, _, _, _ => none
  | k + 1, x0, x1, x10, x12, x61, x62 => if x62 < x61 then (store_Pairs.l2 k x0 x1 x10 x12 x62 (wrap64 (x62 + 1)) x61 x62) else (some (x12, 0))
def store_Pairs.l2 : Nat → Int → Int → Int → List (S48) → Int → Int → Int → Int → Option ((List (S48)) × Int)
  | 0, _, _, _, _, _, _, _, _ => none
  | k + 1, x0, x1, x10, x12, x14, x15, x61, x62 => if x15 ≤ x0 then (if 0 ≤ (wrap64 (x0 - x14)) then (if 0 ≤ (wrap64 (x0 - x15)) then (if x1 = 3 then ((sub_Useful.f k x0 (shr .u64 x10 (wrap64 (x0 - x14))) (Go.bits .xor .u64 (shr .u64 x10 (wrap64 (x0 - x15))) 1)).bind fun bt152 => (if bt152.2 = 0 then (if bt152.1 = true then (if x12.length < 8796093022208 then (store_Pairs.l2 k x0 x1 x10 (x12 ++ [(⟨shr .u64 x10 (wrap64 (x0 - x14)), Go.bits .xor .u64 (shr .u64 x10 (wrap64 (x0 - x15))) 1⟩ : S48)]) x14 (wrap64 (x15 + 1)) x61 x62) else (none)) else (store_Pairs.l2 k x0 x1 x10 x12 x14 (wrap64 (x15 + 1)) x61 x62)) else (store_Pairs.l2 k x0 x1 x10 x12 x14 (wrap64 (x15 + 1)) x61 x62))) else (if x12.length < 8796093022208 then (store_Pairs.l2 k x0 x1 x10 (x12 ++ [(⟨shr .u64 x10 (wrap64 (x0 - x14)), Go.bits .xor .u64 (shr .u64 x10 (wrap64 (x0 - x15))) 1⟩ : S48)]) x14 (wrap64 (x15 + 1)) x61 x62) else (none))) else (none)) else (none)) else (store_Pairs.l1 k x0 x1 x10 x12 x61 (wrap64 (x62 + 1)))
end
def store_Pairs.f (k : Nat) (a0 : Int) (a1 : Int) (a2 : Int) : Option ((List (S48)) × Int) := (store_Many.f k a0 a1).bind fun bt138 => ((node_Leaf.f a0 a2).bind fun bt140 => (if bt138.2 = 0 then (store_Pairs.j0 k a0 a1 bt138.1 bt140.1 (bt140.2 != 0)) else (store_Pairs.j0 k a0 a1 bt138.1 bt140.1 true)))
theorem store_Pairs.mono_l : ∀ k, (∀ y0 y1 y2 y3 y4, LeO (store_Pairs.j0 k y0 y1 y2 y3 y4) (store_Pairs.j0 (k + 1) y0 y1 y2 y3 y4)) ∧ (∀ y0 y1 y2 y3 y4, LeO (store_Pairs.l0 k y0 y1 y2 y3 y4) (store_Pairs.l0 (k + 1) y0 y1 y2 y3 y4)) ∧ (∀ y0 y1 y2 y3 y4 y5, LeO (store_Pairs.l1 k y0 y1 y2 y3 y4 y5) (store_Pairs.l1 (k + 1) y0 y1 y2 y3 y4 y5)) ∧ (∀ y0 y1 y2 y3 y4 y5 y6 y7, LeO (store_Pairs.l2 k y0 y1 y2 y3 y4 y5 y6 y7) (store_Pairs.l2 (k + 1) y0 y1 y2 y3 y4 y5 y6 y7))
  | 0 => ⟨fun _ _ _ _ _ r h => by simp [store_Pairs.j0] at h, fun _ _ _ _ _ r h => by simp [store_Pairs.l0] at h, fun _ _ _ _ _ _ r h => by simp [store_Pairs.l1] at h, fun _ _ _ _ _ _ _ _ r h => by simp [store_Pairs.l2] at h⟩
  | k + 1 => by
   obtain ⟨ih0, ih1, ih2, ih3⟩ := store_Pairs.mono_l k
   refine ⟨?_, ?_, ?_, ?_⟩
   all_goals intros
   all_goals first | unfold store_Pairs.j0 | unfold store_Pairs.l0 | unfold store_Pairs.l1 | unfold store_Pairs.l2
   all_goals repeat' first | (with_reducible first | exact ih0 .. | exact ih1 .. | exact ih2 .. | exact ih3 .. | exact store_Many.mono .. | exact sub_Useful.mono .. | exact LeO.refl _ | exact LeO.none _ | refine LeO.ite ?_ ?_ | refine LeO.bind ?_ (fun _ => ?_)) | exact ih0 .. | exact ih1 .. | exact ih2 .. | exact ih3 .. | exact store_Many.mono .. | exact sub_Useful.mono .. | refine LeO.ite ?_ ?_ | refine LeO.bind ?_ (fun _ => ?_)
theorem store_Pairs.mono : ∀ a0 a1 a2 k, LeO (store_Pairs.f k a0 a1 a2) (store_Pairs.f (k + 1) a0 a1 a2) := by
  intro a0 a1 a2 k
  obtain ⟨ih0, ih1, ih2, ih3⟩ := store_Pairs.mono_l k
  unfold store_Pairs.f
  repeat' first | (with_reducible first | exact ih0 .. | exact ih1 .. | exact ih2 .. | exact ih3 .. | exact store_Many.mono .. | exact sub_Useful.mono .. | exact LeO.refl _ | exact LeO.none _ | refine LeO.ite ?_ ?_ | refine LeO.bind ?_ (fun _ => ?_)) | exact ih0 .. | exact ih1 .. | exact ih2 .. | exact ih3 .. | exact store_Many.mono .. | exact sub_Useful.mono .. | refine LeO.ite ?_ ?_ | refine LeO.bind ?_ (fun _ => ?_)
def store_Pairs.T20 : Bool × List (List Nat × List Nat) := (true, [([], []), ([], []), ([], []), ([1, 2], [1, 2]), ([0, 3], [0, 3]), ([], []), ([], []), ([], []), ([6, 7], [6, 7]), ([5, 8], [5, 8]), ([9], [9]), ([4, 10], [4, 10]), ([], []), ([12, 11, 0, 1, 2, 3, 4, 5, 6, 7, 8, 9, 10, 11, 12], [11, 12])])
def store_Pairs.B20 : List Nat := [0, 0, 0, 6, 15, 0, 0, 0, 192, 480, 992, 2047, 0, 8191]
theorem store_Pairs.tab20 : rtab .any (opsOf Try.f19 20) = store_Pairs.T20 := by kernel_rfl
theorem store_Pairs.bits20 : waitsOk store_Pairs.T20.2 store_Pairs.B20 = true := by kernel_rfl
set_option maxHeartbeats 8000000 in
set_option maxRecDepth 100000 in
theorem store_Pairs.calls (k : Nat) (a0 : Int) (a1 : Int) (a2 : Int) (r1 : List (S48)) (r2 : Int) (w : World) (h : store_Pairs.f k a0 a1 a2 = some (r1, r2)) :
   Calls Try.prog 19 #[.int .i64 a0, .int .i64 a1, .int .u64 a2] w fun e w' => ∃ v0_ : Value, e = .returned (.tuple #[v0_, .int .i64 r2]) ∧ Kd.R k48 48 w' w.heap.size (fun _ => True) v0_ r1 ∧ Below w.heap.size w w' := by
  have hu48 := underlying48
  have HB := ak_ (Below.refl w.heap.size w)
  have H : ((store_Many.f k a0 a1).bind fun bt138 => ((node_Leaf.f a0 a2).bind fun bt140 => (if bt138.2 = 0 then (store_Pairs.j0 k a0 a1 bt138.1 bt140.1 (bt140.2 != 0)) else (store_Pairs.j0 k a0 a1 bt138.1 bt140.1 true)))) = some (r1, r2) := h
  clear h
  replace H := bind_eq_some_iff.mp H
  obtain ⟨⟨t138, t139⟩, A40, H⟩ := H
  replace H : ((node_Leaf.f a0 a2).bind fun bt140 => (if t139 = 0 then (store_Pairs.j0 k a0 a1 t138 bt140.1 (bt140.2 != 0)) else (store_Pairs.j0 k a0 a1 t138 bt140.1 true))) = some (r1, r2) := H
  have A4 := ak_ A40
  clear A40
  replace H := bind_eq_some_iff.mp H
  obtain ⟨⟨t140, t141⟩, A50, H⟩ := H
  replace H : (if t139 = 0 then (store_Pairs.j0 k a0 a1 t138 t140 (t141 != 0)) else (store_Pairs.j0 k a0 a1 t138 t140 true)) = some (r1, r2) := H
  have A5 := ak_ A50
  clear A50
  have HC6 := ak_ H
  clear H
  go_enter func19, ntmps19
  go_upto_region 3 with (first | ((with_reducible refine gate_callee (f := 8) rfl ?_); refine gl_ (some 22) func8 #[.int .i64 a0, .int .i64 a1] ?_; (with_reducible refine (store_Many.calls k a0 a1 t138 t139 _ A4.out).mono ?_); rintro e w7 ⟨rfl, hb⟩; refine ⟨_, rfl, ?_⟩; replace HB := ak_ (bt_ (bl_ HB) hb); (try clear hb); (try clear hk)) | ((with_reducible refine gate_callee (f := 42) rfl ?_); refine gl_ (some 28) func42 #[.int .i64 a0, .int .u64 a2] ?_; (with_reducible refine (node_Leaf.calls a0 a2 t140 t141 _ A5.out).mono ?_); rintro e w' ⟨rfl, ⟨nd, rfl⟩⟩; refine ⟨_, rfl, ?_⟩))
  (try simp only [Act.put, setIfInBounds_toArray, set_cons_zero, set_cons_succ])
  go_cut [36] (fun v36 wc => ∃ (kq : Nat) (x36_5 : Bool), v36 = .bool x36_5 ∧ Aside0 (store_Pairs.j0 kq a0 a1 t138 t140 x36_5 = some (r1, r2)) ∧ Aside0 (kq ≤ k) ∧ Aside0 (Below w.heap.size w wc))
  case first =>
   have H := HC6.out
   clear HC6
   by_cases c8 : t139 = 0
   ·rw [if_pos c8] at H
    have c8b0 : (t139 == 0) = true := beq_iff_eq.mpr c8
    have c8b1 : (t139 != 0) = false := bne_eq_false_iff_eq.mpr c8
    clear c8
    (first | rw [c8b0] | (simp only [i64_w, i32_w]; rw [c8b0]) | skip)
    have H' := ak_ H
    clear H
    go_wp2
    go_meet
    case rel => exact ⟨_, ((t141 != 0)), rf_, H', ⟨by first | omega | exact Nat.le_refl _⟩, ⟨bl_ HB⟩⟩
   ·rw [if_neg c8] at H
    have c8b0 : (t139 == 0) = false := beq_eq_false_iff_ne.mpr c8
    have c8b1 : (t139 != 0) = true := bne_iff_ne.mpr c8
    (first | rw [c8b0] | (simp only [i64_w, i32_w]; rw [c8b0]) | skip)
    have H' := ak_ H
    clear H
    go_wp2
    go_meet
    case rel => exact ⟨_, (true), rf_, H', ⟨by first | omega | exact Nat.le_refl _⟩, ⟨bl_ HB⟩⟩
  case rest =>
   clear HC6
   try clear c1
   try clear p2
   try clear c4
   try clear c8
   try clear c8b0
   try clear c8b1
   obtain ⟨kq, x36_5, rfl, HA, HJ5, HB⟩ := hcut
   cases kq with
   | zero => exact absurd HA.out (by simp [store_Pairs.j0])
   | succ kj5 =>
    have H := HA.out
    clear HA
    simp only [store_Pairs.j0] at H
    by_cases c9 : x36_5 = true
    ·subst c9
     have H1 : (some (([] : List (S48)), 1)) = some (r1, r2) := by rw [if_pos rfl] at H; exact H
     clear H
     have H := H1
     clear H1
     simp only [some.injEq, Prod.mk.injEq] at H
     obtain ⟨rfl, rfl⟩ := H
     go_wp2
     go_ret2
     exact ⟨_, by first | rfl | (simp <;> rfl) | (simp [*] <;> rfl), by first | exact Kd.R_nil _ _ _ _ _ | exact Kd.N_nil _ _ _ _ _ | exact Kd.V_nil _ _ _ _ _ | exact Kd.Q_nil _ _ _ _ _ | exact Kd.S_nil _ _ _ _ _, bl_ HB⟩
    ·replace c9 := Bool.eq_false_iff.mpr c9
     subst c9
     have H1 : (if 0 ≤ t138 then (if (t138 : Int).toNat ≤ 17592186044416 then ((some (List.replicate 0 z48 : List (S48))).bind fun y142 => (if a1 = 1 then (store_Pairs.l0 kj5 a0 t140 y142 (wrap64 (a0 + 1)) 0) else (if y142.length < 8796093022208 then (store_Pairs.l1 kj5 a0 a1 t140 (y142 ++ [(⟨1, 0⟩ : S48)]) a0 0) else (none)))) else (none)) else (none)) = some (r1, r2) := by rw [if_neg (show ¬ (false = true) by decide)] at H; exact H
     clear H
     have H := H1
     clear H1
     by_cases c10 : 0 ≤ t138
     ·rw [if_pos c10] at H
      have c10b0 := eq_true c10
      have c10b1 := decide_eq_true c10
      clear c10
      by_cases c11 : (t138 : Int).toNat ≤ 17592186044416
      ·rw [if_pos c11] at H
       have c11b0 := eq_true c11
       have c11b1 := decide_eq_true c11
       clear c11
       obtain ⟨y142, hy142⟩ : ∃ y_ : List (S48), y_ = (List.replicate 0 z48) := ⟨_, rfl⟩
       replace H : (if a1 = 1 then (store_Pairs.l0 kj5 a0 t140 y142 (wrap64 (a0 + 1)) 0) else (if y142.length < 8796093022208 then (store_Pairs.l1 kj5 a0 a1 t140 (y142 ++ [(⟨1, 0⟩ : S48)]) a0 0) else (none))) = some (r1, r2) := by first | (rw [hy142]; with_reducible exact H) | (have H2_ := (Option.bind_some _ _).symm.trans H; rw [hy142]; with_reducible exact H2_) | (have H2_ := (Option.bind_some _ _).symm.trans H; with_reducible exact H2_) | with_reducible exact H | (rw [hy142]; exact H) | exact H
       have Ny142 := ak_ hy142
       clear hy142
       by_cases c12 : a1 = 1
       ·rw [if_pos c12] at H
        have c12b0 : (a1 == 1) = true := beq_iff_eq.mpr c12
        have c12b1 : (a1 != 1) = false := bne_eq_false_iff_eq.mpr c12
        clear c12
        have H' := ak_ H
        clear H
        go_wp2_with (first | ((with_reducible refine gate_dst (N := 38) rfl ?_); refine Kd.R_makeCap k48 _ 48 rfl (N := 38) rfl 55 _ _ rfl t138 rfl rfl underlying55 (.agg #[(.int .u64 0), (.int .u64 0)]) 16 info48 rfl (by decide) (by omega) z48 (ok := fun _ => True) (okp := fun _ => True) (k48_mkM _ _ _ z48 ) (fun _ hk => hk) trivial (od_ (by first | (with_reducible assumption) | assumption)) (Nat.le_trans (Nat.mul_le_mul_right _ (od_ (by first | (with_reducible assumption) | assumption) : t138.toNat ≤ 17592186044416)) (by omega)) (Below.refl _ _) (Nat.le_refl _) ?_; intro v143 w13 ho14 hb hg_ hnew_; clear hg_ hnew_; (first | rw [← Ny142.out] at ho14 | (simp only [Int.reduceToNat] at ho14; rw [← Ny142.out] at ho14)); have HO144 := ak_ (Kd.R_lower ho14 (bz_ (bl_ HB))); replace HB := ak_ (bt_ (bl_ HB) hb); clear hb ho14))
        go_loopg [12, 43] kj5 (fun kq v12 v43 w' => ∃ (x12_2 : List (S48)) (x43_2 : Int), v43 = .int .i64 x43_2 ∧ Aside0 (store_Pairs.l0 kq a0 t140 x12_2 (wrap64 (a0 + 1)) x43_2 = some (r1, r2)) ∧ Aside0 (kq ≤ kj5) ∧ Aside0 (Kd.R k48 48 w' w.heap.size (fun _ => True) v12 x12_2) ∧ Aside0 (Below w.heap.size w w'))
        case atStart => exact ⟨(y142), (0), rf_, H', ⟨Nat.le_refl _⟩, ⟨rl_ HO144⟩, ⟨bl_ HB⟩⟩
        case round =>
         clear H'
         try clear c1
         try clear p2
         try clear c4
         try clear p6
         try clear c8
         try clear c8b0
         try clear c8b1
         try clear c9
         try clear c10
         try clear c10b0
         try clear c10b1
         try clear c11
         try clear c11b0
         try clear c11b1
         try clear c12
         try clear c12b0
         try clear c12b1
         try clear p2
         obtain ⟨x12_2, x43_2, rfl, HA, HK2, HO_12, HB⟩ := hrel
         cases gk with
         | zero => exact absurd HA.out (by simp [store_Pairs.l0])
         | succ k2 =>
          have H := HA.out
          clear HA
          simp only [store_Pairs.l0] at H
          by_cases c15 : x43_2 < (wrap64 (a0 + 1))
          ·rw [if_pos c15] at H
           have c15b0 := decide_eq_true c15
           clear c15
           obtain ⟨ji16, hji16⟩ : ∃ j_ : Int, (wrap64 (a0 - x43_2)) = j_ := ⟨_, rfl⟩
           replace H : (if 0 ≤ (ji16) then (if x12_2.length < 8796093022208 then (store_Pairs.l0 k2 a0 t140 (x12_2 ++ [(⟨shr .u64 t140 (ji16), 0⟩ : S48)]) (wrap64 (a0 + 1)) (wrap64 (x43_2 + 1))) else (none)) else (none)) = some (r1, r2) := by first | (rw [hji16] at H; exact H) | (simp only [hji16] at H ⊢; exact H)
           have hji16w : (IntKind.i64.wrap (a0 - x43_2)) = ji16 := (i64_w _).trans hji16
           by_cases c17 : 0 ≤ (ji16)
           ·rw [if_pos c17] at H
            have c17b0 := eq_true c17
            have c17b1 := decide_eq_true c17
            clear c17
            obtain ⟨ji18, hji18⟩ : ∃ j_ : Int, (shr .u64 t140 (ji16)) = j_ := ⟨_, rfl⟩
            replace H : (if x12_2.length < 8796093022208 then (store_Pairs.l0 k2 a0 t140 (x12_2 ++ [(⟨ji18, 0⟩ : S48)]) (wrap64 (a0 + 1)) (wrap64 (x43_2 + 1))) else (none)) = some (r1, r2) := by first | (rw [hji18] at H; exact H) | (simp only [hji18] at H ⊢; exact H)
            have hji18_ : (t140 / 2 ^ min (ji16).toNat 64) = ji18 := hji18
            have hji18z : (ji16) ≤ 64 → (t140 / 2 ^ (ji16).toNat) = ji18 := shr_small hji18
            by_cases c19 : x12_2.length < 8796093022208
            ·rw [if_pos c19] at H
             have LMc19 := ak_ c19
             clear c19
             obtain ⟨y145, hy145⟩ : ∃ y_ : List (S48), y_ = (x12_2 ++ [(⟨ji18, 0⟩ : S48)]) := ⟨_, rfl⟩
             replace H : (store_Pairs.l0 k2 a0 t140 y145 (wrap64 (a0 + 1)) (wrap64 (x43_2 + 1))) = some (r1, r2) := by first | (rw [hy145]; with_reducible exact H) | (have H2_ := (Option.bind_some _ _).symm.trans H; rw [hy145]; with_reducible exact H2_) | (have H2_ := (Option.bind_some _ _).symm.trans H; with_reducible exact H2_) | with_reducible exact H | (rw [hy145]; exact H) | exact H
             have Ny145 := ak_ hy145
             clear hy145
             have H' := ak_ H
             clear H
             go_wp2_with (first | ((with_reducible refine gate_builtin (b := .append) (xs := #[.tmp 46, .tmp 53]) rfl ?_); at_builtin; refine Kd.R_append k48 (w0 := w) w.heap.size rfl (.tmp 46) (.tmp 53) 55 48 (.agg #[(.int .u64 0), (.int .u64 0)]) 16 rfl underlying55 info48 rfl (by decide) (by omega) u12 x12_2 (⟨ji18, 0⟩ : S48) [.int .u64 ji18, .int .u64 0] (fun _ => True) (fun _ => False) rfl rfl ?aP (fun _ hk => hk.elim) ?aF ?aO ?aB ?aS ?aL ?_; (case aP => exact k48_mkM _ _ _ (⟨ji18, 0⟩ : S48)); (case aB => exact (bl_ HB)); (case aF => exact (fun _ _ => trivial)); (case aO => exact (rl_ HO_12)); (case aS => exact (bz_ (bl_ HB))); (case aL => have := LMc19.out; omega); intro v146 w20 ho hb hg hat; rw [← Ny145.out] at ho; replace HB := ak_ hb; have HO147 := ak_ ho; clear HO_12; clear ho hb hg hat))
             go_roundg k2
             case measure => have := HJ5.out; have := HK2.out; omega
             case rel => exact ⟨(y145), (wrap64 (x43_2 + 1)), rf_, H', ⟨by have := HJ5.out; have := HK2.out; omega⟩, ⟨rl_ HO147⟩, ⟨bl_ HB⟩⟩
            ·rw [if_neg c19] at H
             exact absurd H (by simp)
           ·rw [if_neg c17] at H
            exact absurd H (by simp)
          ·rw [if_neg c15] at H
           have c15b0 := decide_eq_false c15
           clear c15
           simp only [some.injEq, Prod.mk.injEq] at H
           obtain ⟨rfl, rfl⟩ := H
           go_wp2
           go_ret2
           exact ⟨_, by first | rfl | (simp <;> rfl) | (simp [*] <;> rfl), by (with_reducible repeat (first | apply Kd.R_alloc | apply Kd.R_drewN | apply Kd.R_drew)); exact HO_12.out, bl_ HB⟩
       ·rw [if_neg c12] at H
        have c12b0 : (a1 == 1) = false := beq_eq_false_iff_ne.mpr c12
        have c12b1 : (a1 != 1) = true := bne_iff_ne.mpr c12
        by_cases c21 : y142.length < 8796093022208
        ·rw [if_pos c21] at H
         have LMc21 := ak_ c21
         clear c21
         obtain ⟨y148, hy148⟩ : ∃ y_ : List (S48), y_ = (y142 ++ [(⟨1, 0⟩ : S48)]) := ⟨_, rfl⟩
         replace H : (store_Pairs.l1 kj5 a0 a1 t140 y148 a0 0) = some (r1, r2) := by first | (rw [hy148]; with_reducible exact H) | (have H2_ := (Option.bind_some _ _).symm.trans H; rw [hy148]; with_reducible exact H2_) | (have H2_ := (Option.bind_some _ _).symm.trans H; with_reducible exact H2_) | with_reducible exact H | (rw [hy148]; exact H) | exact H
         have Ny148 := ak_ hy148
         clear hy148
         have H' := ak_ H
         clear H
         go_wp2_with (first | ((with_reducible refine gate_dst (N := 38) rfl ?_); refine Kd.R_makeCap k48 _ 48 rfl (N := 38) rfl 55 _ _ rfl t138 rfl rfl underlying55 (.agg #[(.int .u64 0), (.int .u64 0)]) 16 info48 rfl (by decide) (by omega) z48 (ok := fun _ => True) (okp := fun _ => True) (k48_mkM _ _ _ z48 ) (fun _ hk => hk) trivial (od_ (by first | (with_reducible assumption) | assumption)) (Nat.le_trans (Nat.mul_le_mul_right _ (od_ (by first | (with_reducible assumption) | assumption) : t138.toNat ≤ 17592186044416)) (by omega)) (Below.refl _ _) (Nat.le_refl _) ?_; intro v143 w22 ho23 hb hg_ hnew_; clear hg_ hnew_; (first | rw [← Ny142.out] at ho23 | (simp only [Int.reduceToNat] at ho23; rw [← Ny142.out] at ho23)); have HO144 := ak_ (Kd.R_lower ho23 (bz_ (bl_ HB))); replace HB := ak_ (bt_ (bl_ HB) hb); clear hb ho23) | ((with_reducible refine gate_builtin (b := .append) (xs := #[.tmp 57, .tmp 59]) rfl ?_); at_builtin; refine Kd.R_append k48 (w0 := w) w.heap.size rfl (.tmp 57) (.tmp 59) 55 48 (.agg #[(.int .u64 0), (.int .u64 0)]) 16 rfl underlying55 info48 rfl (by decide) (by omega) v143 y142 (⟨1, 0⟩ : S48) [.int .u64 1, .int .u64 0] (fun _ => True) (fun _ => False) rfl rfl ?aP (fun _ hk => hk.elim) ?aF ?aO ?aB ?aS ?aL ?_; (case aP => exact k48_mkM _ _ _ (⟨1, 0⟩ : S48)); (case aB => exact (bl_ HB)); (case aF => exact (fun _ _ => trivial)); (case aO => exact (rl_ HO144)); (case aS => exact (bz_ (bl_ HB))); (case aL => have := LMc21.out; omega); intro v149 w24 ho hb hg hat; rw [← Ny148.out] at ho; replace HB := ak_ hb; have HO150 := ak_ ho; clear HO144; clear ho hb hg hat))
         go_loopg [12, 62] kj5 (fun kq v12 v62 w' => ∃ (x12_2 : List (S48)) (x62_2 : Int), v62 = .int .i64 x62_2 ∧ Aside0 (store_Pairs.l1 kq a0 a1 t140 x12_2 a0 x62_2 = some (r1, r2)) ∧ Aside0 (kq ≤ kj5) ∧ Aside0 (Kd.R k48 48 w' w.heap.size (fun _ => True) v12 x12_2) ∧ Aside0 (Below w.heap.size w w'))
         case atStart => exact ⟨(y148), (0), rf_, H', ⟨Nat.le_refl _⟩, ⟨rl_ HO150⟩, ⟨bl_ HB⟩⟩
         case round =>
          clear H'
          try clear c1
          try clear c2
          try clear p2
          try clear c4
          try clear p6
          try clear c8
          try clear c8b0
          try clear c8b1
          try clear c9
          try clear c10
          try clear c10b0
          try clear c10b1
          try clear c11
          try clear c11b0
          try clear c11b1
          try clear c12
          try clear c12b0
          try clear c12b1
          try clear c15
          try clear c15b0
          try clear c17
          try clear c17b0
          try clear c17b1
          try clear c19
          try clear c21
          try clear p2
          try clear p6
          obtain ⟨x12_2, x62_2, rfl, HA, HK2, HO_12, HB⟩ := hrel
          cases gk with
          | zero => exact absurd HA.out (by simp [store_Pairs.l1])
          | succ k2 =>
           have H := HA.out
           clear HA
           simp only [store_Pairs.l1] at H
           by_cases c25 : x62_2 < a0
           ·rw [if_pos c25] at H
            have c25b0 := decide_eq_true c25
            clear c25
            have H' := ak_ H
            clear H
            go_wp2
            go_loopg [12, 15] k2 (fun kq v12 v15 w' => ∃ (x12_3 : List (S48)) (x15_3 : Int), v15 = .int .i64 x15_3 ∧ Aside0 (store_Pairs.l2 kq a0 a1 t140 x12_3 x62_2 x15_3 a0 x62_2 = some (r1, r2)) ∧ Aside0 (kq ≤ k2) ∧ Aside0 (Kd.R k48 48 w' w.heap.size (fun _ => True) v12 x12_3) ∧ Aside0 (Below w.heap.size w w'))
            case atStart => exact ⟨(x12_2), (wrap64 (x62_2 + 1)), rf_, H', ⟨Nat.le_refl _⟩, ⟨rl_ HO_12⟩, ⟨bl_ HB⟩⟩
            case round =>
             clear H'
             try clear c1
             try clear c2
             try clear p2
             try clear c4
             try clear p6
             try clear c8
             try clear c8b0
             try clear c8b1
             try clear c9
             try clear c10
             try clear c10b0
             try clear c10b1
             try clear c11
             try clear c11b0
             try clear c11b1
             try clear c12
             try clear c12b0
             try clear c12b1
             try clear c15
             try clear c15b0
             try clear c17
             try clear c17b0
             try clear c17b1
             try clear c19
             try clear c21
             try clear c25
             try clear c25b0
             try clear p2
             try clear p6
             obtain ⟨x12_3, x15_3, rfl, HA, HK3, HO_12, HB⟩ := hrel
             cases gk with
             | zero => exact absurd HA.out (by simp [store_Pairs.l2])
             | succ k3 =>
              have H := HA.out
              clear HA
              simp only [store_Pairs.l2] at H
              by_cases c26 : x15_3 ≤ a0
              ·rw [if_pos c26] at H
               have c26b0 := decide_eq_true c26
               clear c26
               obtain ⟨ji27, hji27⟩ : ∃ j_ : Int, (wrap64 (a0 - x62_2)) = j_ := ⟨_, rfl⟩
               replace H : (if 0 ≤ (ji27) then (if 0 ≤ (wrap64 (a0 - x15_3)) then (if a1 = 3 then ((sub_Useful.f k3 a0 (shr .u64 t140 (ji27)) (Go.bits .xor .u64 (shr .u64 t140 (wrap64 (a0 - x15_3))) 1)).bind fun bt152 => (if bt152.2 = 0 then (if bt152.1 = true then (if x12_3.length < 8796093022208 then (store_Pairs.l2 k3 a0 a1 t140 (x12_3 ++ [(⟨shr .u64 t140 (ji27), Go.bits .xor .u64 (shr .u64 t140 (wrap64 (a0 - x15_3))) 1⟩ : S48)]) x62_2 (wrap64 (x15_3 + 1)) a0 x62_2) else (none)) else (store_Pairs.l2 k3 a0 a1 t140 x12_3 x62_2 (wrap64 (x15_3 + 1)) a0 x62_2)) else (store_Pairs.l2 k3 a0 a1 t140 x12_3 x62_2 (wrap64 (x15_3 + 1)) a0 x62_2))) else (if x12_3.length < 8796093022208 then (store_Pairs.l2 k3 a0 a1 t140 (x12_3 ++ [(⟨shr .u64 t140 (ji27), Go.bits .xor .u64 (shr .u64 t140 (wrap64 (a0 - x15_3))) 1⟩ : S48)]) x62_2 (wrap64 (x15_3 + 1)) a0 x62_2) else (none))) else (none)) else (none)) = some (r1, r2) := by first | (rw [hji27] at H; exact H) | (simp only [hji27] at H ⊢; exact H)
               have hji27w : (IntKind.i64.wrap (a0 - x62_2)) = ji27 := (i64_w _).trans hji27
               by_cases c28 : 0 ≤ (ji27)
               ·rw [if_pos c28] at H
                have c28b0 := eq_true c28
                have c28b1 := decide_eq_true c28
                clear c28
                obtain ⟨ji29, hji29⟩ : ∃ j_ : Int, (shr .u64 t140 (ji27)) = j_ := ⟨_, rfl⟩
                replace H : (if 0 ≤ (wrap64 (a0 - x15_3)) then (if a1 = 3 then ((sub_Useful.f k3 a0 (ji29) (Go.bits .xor .u64 (shr .u64 t140 (wrap64 (a0 - x15_3))) 1)).bind fun bt152 => (if bt152.2 = 0 then (if bt152.1 = true then (if x12_3.length < 8796093022208 then (store_Pairs.l2 k3 a0 a1 t140 (x12_3 ++ [(⟨ji29, Go.bits .xor .u64 (shr .u64 t140 (wrap64 (a0 - x15_3))) 1⟩ : S48)]) x62_2 (wrap64 (x15_3 + 1)) a0 x62_2) else (none)) else (store_Pairs.l2 k3 a0 a1 t140 x12_3 x62_2 (wrap64 (x15_3 + 1)) a0 x62_2)) else (store_Pairs.l2 k3 a0 a1 t140 x12_3 x62_2 (wrap64 (x15_3 + 1)) a0 x62_2))) else (if x12_3.length < 8796093022208 then (store_Pairs.l2 k3 a0 a1 t140 (x12_3 ++ [(⟨ji29, Go.bits .xor .u64 (shr .u64 t140 (wrap64 (a0 - x15_3))) 1⟩ : S48)]) x62_2 (wrap64 (x15_3 + 1)) a0 x62_2) else (none))) else (none)) = some (r1, r2) := by first | (rw [hji29] at H; exact H) | (simp only [hji29] at H ⊢; exact H)
                have hji29_ : (t140 / 2 ^ min (ji27).toNat 64) = ji29 := hji29
                have hji29z : (ji27) ≤ 64 → (t140 / 2 ^ (ji27).toNat) = ji29 := shr_small hji29
                obtain ⟨ji30, hji30⟩ : ∃ j_ : Int, (wrap64 (a0 - x15_3)) = j_ := ⟨_, rfl⟩
                replace H : (if 0 ≤ (ji30) then (if a1 = 3 then ((sub_Useful.f k3 a0 (ji29) (Go.bits .xor .u64 (shr .u64 t140 (ji30)) 1)).bind fun bt152 => (if bt152.2 = 0 then (if bt152.1 = true then (if x12_3.length < 8796093022208 then (store_Pairs.l2 k3 a0 a1 t140 (x12_3 ++ [(⟨ji29, Go.bits .xor .u64 (shr .u64 t140 (ji30)) 1⟩ : S48)]) x62_2 (wrap64 (x15_3 + 1)) a0 x62_2) else (none)) else (store_Pairs.l2 k3 a0 a1 t140 x12_3 x62_2 (wrap64 (x15_3 + 1)) a0 x62_2)) else (store_Pairs.l2 k3 a0 a1 t140 x12_3 x62_2 (wrap64 (x15_3 + 1)) a0 x62_2))) else (if x12_3.length < 8796093022208 then (store_Pairs.l2 k3 a0 a1 t140 (x12_3 ++ [(⟨ji29, Go.bits .xor .u64 (shr .u64 t140 (ji30)) 1⟩ : S48)]) x62_2 (wrap64 (x15_3 + 1)) a0 x62_2) else (none))) else (none)) = some (r1, r2) := by first | (rw [hji30] at H; exact H) | (simp only [hji30] at H ⊢; exact H)
                have hji30w : (IntKind.i64.wrap (a0 - x15_3)) = ji30 := (i64_w _).trans hji30
                by_cases c31 : 0 ≤ (ji30)
                ·rw [if_pos c31] at H
                 have c31b0 := eq_true c31
                 have c31b1 := decide_eq_true c31
                 clear c31
                 obtain ⟨ji32, hji32⟩ : ∃ j_ : Int, (shr .u64 t140 (ji30)) = j_ := ⟨_, rfl⟩
                 replace H : (if a1 = 3 then ((sub_Useful.f k3 a0 (ji29) (Go.bits .xor .u64 (ji32) 1)).bind fun bt152 => (if bt152.2 = 0 then (if bt152.1 = true then (if x12_3.length < 8796093022208 then (store_Pairs.l2 k3 a0 a1 t140 (x12_3 ++ [(⟨ji29, Go.bits .xor .u64 (ji32) 1⟩ : S48)]) x62_2 (wrap64 (x15_3 + 1)) a0 x62_2) else (none)) else (store_Pairs.l2 k3 a0 a1 t140 x12_3 x62_2 (wrap64 (x15_3 + 1)) a0 x62_2)) else (store_Pairs.l2 k3 a0 a1 t140 x12_3 x62_2 (wrap64 (x15_3 + 1)) a0 x62_2))) else (if x12_3.length < 8796093022208 then (store_Pairs.l2 k3 a0 a1 t140 (x12_3 ++ [(⟨ji29, Go.bits .xor .u64 (ji32) 1⟩ : S48)]) x62_2 (wrap64 (x15_3 + 1)) a0 x62_2) else (none))) = some (r1, r2) := by first | (rw [hji32] at H; exact H) | (simp only [hji32] at H ⊢; exact H)
                 have hji32_ : (t140 / 2 ^ min (ji30).toNat 64) = ji32 := hji32
                 have hji32z : (ji30) ≤ 64 → (t140 / 2 ^ (ji30).toNat) = ji32 := shr_small hji32
                 by_cases c33 : a1 = 3
                 ·rw [if_pos c33] at H
                  have c33b0 : (a1 == 3) = true := beq_iff_eq.mpr c33
                  have c33b1 : (a1 != 3) = false := bne_eq_false_iff_eq.mpr c33
                  clear c33
                  replace H := bind_eq_some_iff.mp H
                  obtain ⟨⟨t152, t153⟩, A340, H⟩ := H
                  replace H : (if t153 = 0 then (if t152 = true then (if x12_3.length < 8796093022208 then (store_Pairs.l2 k3 a0 a1 t140 (x12_3 ++ [(⟨ji29, Go.bits .xor .u64 (ji32) 1⟩ : S48)]) x62_2 (wrap64 (x15_3 + 1)) a0 x62_2) else (none)) else (store_Pairs.l2 k3 a0 a1 t140 x12_3 x62_2 (wrap64 (x15_3 + 1)) a0 x62_2)) else (store_Pairs.l2 k3 a0 a1 t140 x12_3 x62_2 (wrap64 (x15_3 + 1)) a0 x62_2)) = some (r1, r2) := H
                  have A34 := ak_ A340
                  clear A340
                  by_cases c35 : t153 = 0
                  ·rw [if_pos c35] at H
                   have c35b0 : (t153 == 0) = true := beq_iff_eq.mpr c35
                   have c35b1 : (t153 != 0) = false := bne_eq_false_iff_eq.mpr c35
                   clear c35
                   by_cases c36 : t152 = true
                   ·subst c36
                    have H1 : (if x12_3.length < 8796093022208 then (store_Pairs.l2 k3 a0 a1 t140 (x12_3 ++ [(⟨ji29, Go.bits .xor .u64 (ji32) 1⟩ : S48)]) x62_2 (wrap64 (x15_3 + 1)) a0 x62_2) else (none)) = some (r1, r2) := by rw [if_pos rfl] at H; exact H
                    clear H
                    have H := H1
                    clear H1
                    by_cases c37 : x12_3.length < 8796093022208
                    ·rw [if_pos c37] at H
                     have LMc37 := ak_ c37
                     clear c37
                     obtain ⟨y154, hy154⟩ : ∃ y_ : List (S48), y_ = (x12_3 ++ [(⟨ji29, Go.bits .xor .u64 (ji32) 1⟩ : S48)]) := ⟨_, rfl⟩
                     replace H : (store_Pairs.l2 k3 a0 a1 t140 y154 x62_2 (wrap64 (x15_3 + 1)) a0 x62_2) = some (r1, r2) := by first | (rw [hy154]; with_reducible exact H) | (have H2_ := (Option.bind_some _ _).symm.trans H; rw [hy154]; with_reducible exact H2_) | (have H2_ := (Option.bind_some _ _).symm.trans H; with_reducible exact H2_) | with_reducible exact H | (rw [hy154]; exact H) | exact H
                     have Ny154 := ak_ hy154
                     clear hy154
                     have H' := ak_ H
                     clear H
                     try go_wp2
                     replace HO_12 := ak_ (Kd.R_drew HO_12.out)
                     replace HB := ak_ (bd_ HB.out)
                     refine start_ (n := 14) (S := fun w' => True) (ds := []) #[false, false, false, false, false, false, false, false, false, false, false, false, false, false] (by kernel_rfl) rfl rfl trivial (fun hHeld => ?_); refine with_tabW store_Pairs.tab20 store_Pairs.bits20 (fun HT_ HW_ => ?_)
                     generalize wr.drew = w38 at HO_12 HB hHeld ⊢
                     refine pu_ HT_ 0 (some 72) (bA2 1 14) ?_
                     refine pu_ HT_ 1 (some 73) (bA2 2 14) ?_
                     refine pu_ HT_ 2 (some 74) (bA2 3 14) ?_
                     refine pu_ HT_ 3 (some 75) (bA2 4 14) ?_
                     refine pu_ HT_ 4 (some 76) (bA2 5 14) ?_
                     refine pu_ HT_ 5 (some 77) (bA2 6 14) ?_
                     refine pu_ HT_ 6 (some 78) (bA2 7 14) ?_
                     refine pu_ HT_ 7 (some 79) (bA2 8 14) ?_
                     refine pu_ HT_ 8 (some 80) (bA2 9 14) ?_
                     refine pu_ HT_ 9 (some 81) (bA2 10 14) ?_
                     refine pu_ HT_ 10 (some 82) (bA2 11 14) ?_
                     refine pu_ HT_ 11 (some 83) (bA2 12 14) ?_
                     refine one_ (i := 12) (N := some 16) (bA2 13 14) rfl rfl (one_of HT_.out (by kernel_rfl)) (by decide) (fun K hK => ?_)
                     refine box_step ?hg (N := 16) ?hd (cs := #[.int .u64 0, .int .u64 0]) (t := 48) ?hr ?_; (case hd => rfl); (case hg => rfl); (case hr => first | (go_simp; done) | (go_simp; rfl))
                     intro gb151 hg w39 hbox hb
                     replace HO_12 := ak_ (Kd.R_below (Kd.R_elderB (rl_ HO_12) gb151 (Nat.le_of_eq hg.symm)) hb)
                     have BK151 := ak_ hbox
                     have GW151 := ak_ (gs_ hg HB)
                     have GE151 := ak_ (gs_ hg HB)
                     replace HB := ak_ (bt_ (bl_ HB) hb)
                     clear hb hbox hg
                     refine hK.out _ _ trivial (fun hHeld => ?_)
                     clear hK K
                     refine norm_ (a' := ?_) ?_ ?_
                     rotate_left
                     ·show Act.put _ (some 16) _ = _
                      simp only [Act.put, setIfInBounds_toArray, set_cons_zero, set_cons_succ, i64_w, i32_w]
                      rfl
                     refine one_ (i := 13) (N := none) (bA2 14 14) rfl rfl (one_of HT_.out (by kernel_rfl)) (by decide) (fun K hK => ?_)
                     have hs40 : w39.cell? ⟨gb151, 0, none⟩ = some (.int .u64 0) := (kc_ BK151.out 0).trans rfl
                     have hfs40 := kf_ BK151.out 0
                     have hs41 : w39.cell? ⟨gb151, 1, none⟩ = some (.int .u64 0) := (kc_ BK151.out 1).trans rfl
                     have hfs41 := kf_ BK151.out 1
                     refine skip_ (w1 := ?_) (by rfl) rfl ?_ ?_
                     rotate_left
                     ·go_simp
                      rfl
                     refine hK.out _ _ trivial (fun hHeld => ?_)
                     clear hK K
                     refine done_ (done_of HT_.out (by kernel_rfl)) ?_
                     obtain ⟨hcz42_0, hcz42_1, hfz42_0, hfz42_1⟩ := kc2_ BK151.out
                     try go_wp2_with (first | ((with_reducible refine gate_callee (f := 43) rfl ?_); refine goesL_ (some 89) rfl rfl func43 (by kernel_rfl) rfl #[.int .i64 a0, .agg #[.int .u64 ji29, .int .u64 (Go.bits .xor .u64 (ji32) 1)]] rfl (by (try simp only [map_toArray, map_cons, map_nil]); first | done | (simp only [hji29, hji32]; rfl) | rfl | (simp only [length_drop, length_take]; rfl)) ?_; (with_reducible refine (sub_Useful.calls k3 a0 ji29 (Go.bits .xor .u64 (ji32) 1) true t153 _ A34.out).mono ?_); rintro e w43 ⟨rfl, hb⟩; refine ⟨_, rfl, ?_⟩; replace HO_12 := ak_ (Kd.R_below (by (with_reducible repeat (first | apply Kd.R_alloc | apply Kd.R_drewN | apply Kd.R_drew)); exact (Kd.R_mono (Kd.R_far (p := ⟨gb151, 1, none⟩) (Kd.R_far (p := ⟨gb151, 0, none⟩) (Kd.R_mono HO_12.out (fun k_ hk => (⟨hk, hk.2⟩ : _ ∧ k_ ≠ gb151))) (fun _ hk => hk.2) (.int .u64 ji29)) (fun _ hk => hk.2) (.int .u64 (Go.bits .xor .u64 (ji32) 1))) (fun _ h_ => h_.1))) hb); replace BK151 := ak_ (kb_ (g := gb151) (o := .cells #[.int .u64 ji29, .int .u64 (Go.bits .xor .u64 (ji32) 1)] 48 (0, 0)) (by (with_reducible repeat (first | refine kn_ ?_ _ | refine kd_ ?_ | refine ka_ ?_ _)); exact bp_ (bp_ BK151.out 0 _) 1 _) hb); replace HB := ak_ (bt_ (bw1_ HB GE151) hb); (try clear hb); (try clear hk); have hcz44_0 := kq_ BK151.out 0 rfl; have hcz44_1 := kq_ BK151.out 1 rfl; have hfz44_0 := kf_ BK151.out 0; have hfz44_1 := kf_ BK151.out 1) | ((with_reducible refine gate_builtin (b := .append) (xs := #[.tmp 98, .tmp 100]) rfl ?_); at_builtin; refine Kd.R_append k48 (w0 := w) w.heap.size rfl (.tmp 98) (.tmp 100) 55 48 (.agg #[(.int .u64 0), (.int .u64 0)]) 16 rfl underlying55 info48 rfl (by decide) (by omega) u12 x12_3 (⟨ji29, Go.bits .xor .u64 (ji32) 1⟩ : S48) [.int .u64 ji29, .int .u64 (Go.bits .xor .u64 (ji32) 1)] (fun k_ => k_ ≠ gb151) (fun _ => False) rfl rfl ?aP (fun _ hk => hk.elim) ?aF ?aO ?aB ?aS ?aL ?_; (case aP => exact k48_mkM _ _ _ (⟨ji29, Go.bits .xor .u64 (ji32) 1⟩ : S48)); (case aB => exact (bw1_ HB GE151)); (case aF => exact (fun k_ hk => Kd.freshB (g := gb151) (o := .cells #[.int .u64 ji29, .int .u64 (Go.bits .xor .u64 (ji32) 1)] 48 (0, 0)) (kl_ BK151) k_ hk)); (case aO => exact (by (with_reducible repeat (first | apply Kd.R_alloc | apply Kd.R_drewN | apply Kd.R_drew)); exact Kd.R_mono HO_12.out (fun _ hk => hk.2))); (case aS => exact (bz_ (bw1_ HB GE151))); (case aL => have := LMc37.out; omega); intro v155 w45 ho hb hg hat; rw [← Ny154.out] at ho; replace BK151 := ak_ (blk_grown (g := gb151) (o := .cells #[.int .u64 ji29, .int .u64 (Go.bits .xor .u64 (ji32) 1)] 48 (0, 0)) (kl_ BK151) hg (Kd.R_away HO_12.out (fun _ hk => hk.2))); replace HB := ak_ hb; have HO156 := ak_ ho; clear HO_12; clear ho hb hg hat))
                     try go_wp2_with (first | ((with_reducible refine gate_callee (f := 43) rfl ?_); refine goesL_ (some 89) rfl rfl func43 (by kernel_rfl) rfl #[.int .i64 a0, .agg #[.int .u64 ji29, .int .u64 (Go.bits .xor .u64 (ji32) 1)]] rfl (by (try simp only [map_toArray, map_cons, map_nil]); first | done | (simp only [hji29, hji32]; rfl) | rfl | (simp only [length_drop, length_take]; rfl)) ?_; (with_reducible refine (sub_Useful.calls k3 a0 ji29 (Go.bits .xor .u64 (ji32) 1) true t153 _ A34.out).mono ?_); rintro e w43 ⟨rfl, hb⟩; refine ⟨_, rfl, ?_⟩; replace HO_12 := ak_ (Kd.R_below (by (with_reducible repeat (first | apply Kd.R_alloc | apply Kd.R_drewN | apply Kd.R_drew)); exact (Kd.R_mono (Kd.R_far (p := ⟨gb151, 1, none⟩) (Kd.R_far (p := ⟨gb151, 0, none⟩) (Kd.R_mono HO_12.out (fun k_ hk => (⟨hk, hk.2⟩ : _ ∧ k_ ≠ gb151))) (fun _ hk => hk.2) (.int .u64 ji29)) (fun _ hk => hk.2) (.int .u64 (Go.bits .xor .u64 (ji32) 1))) (fun _ h_ => h_.1))) hb); replace BK151 := ak_ (kb_ (g := gb151) (o := .cells #[.int .u64 ji29, .int .u64 (Go.bits .xor .u64 (ji32) 1)] 48 (0, 0)) (by (with_reducible repeat (first | refine kn_ ?_ _ | refine kd_ ?_ | refine ka_ ?_ _)); exact bp_ (bp_ BK151.out 0 _) 1 _) hb); replace HB := ak_ (bt_ (bw1_ HB GE151) hb); (try clear hb); (try clear hk); obtain ⟨hcz44_0, hcz44_1, hfz44_0, hfz44_1⟩ := kc2_ BK151.out) | ((with_reducible refine gate_builtin (b := .append) (xs := #[.tmp 98, .tmp 100]) rfl ?_); at_builtin; refine Kd.R_append k48 (w0 := w) w.heap.size rfl (.tmp 98) (.tmp 100) 55 48 (.agg #[(.int .u64 0), (.int .u64 0)]) 16 rfl underlying55 info48 rfl (by decide) (by omega) u12 x12_3 (⟨ji29, Go.bits .xor .u64 (ji32) 1⟩ : S48) [.int .u64 ji29, .int .u64 (Go.bits .xor .u64 (ji32) 1)] (fun k_ => k_ ≠ gb151) (fun _ => False) rfl rfl ?aP (fun _ hk => hk.elim) ?aF ?aO ?aB ?aS ?aL ?_; (case aP => exact k48_mkM _ _ _ (⟨ji29, Go.bits .xor .u64 (ji32) 1⟩ : S48)); (case aB => exact (bw1_ HB GE151)); (case aF => exact (fun k_ hk => Kd.freshB (g := gb151) (o := .cells #[.int .u64 ji29, .int .u64 (Go.bits .xor .u64 (ji32) 1)] 48 (0, 0)) (kl_ BK151) k_ hk)); (case aO => exact (by (with_reducible repeat (first | apply Kd.R_alloc | apply Kd.R_drewN | apply Kd.R_drew)); exact Kd.R_mono HO_12.out (fun _ hk => hk.2))); (case aS => exact (bz_ (bw1_ HB GE151))); (case aL => have := LMc37.out; omega); intro v155 w45 ho hb hg hat; rw [← Ny154.out] at ho; replace BK151 := ak_ (blk_grown (g := gb151) (o := .cells #[.int .u64 ji29, .int .u64 (Go.bits .xor .u64 (ji32) 1)] 48 (0, 0)) (kl_ BK151) hg (Kd.R_away HO_12.out (fun _ hk => hk.2))); replace HB := ak_ hb; have HO156 := ak_ ho; clear HO_12; clear ho hb hg hat))
                     go_roundg k3
                     case measure => have := HJ5.out; have := HK2.out; have := HK3.out; omega
                     case rel => exact ⟨(y154), (wrap64 (x15_3 + 1)), rf_, H', ⟨by have := HJ5.out; have := HK2.out; have := HK3.out; omega⟩, ⟨by (with_reducible repeat (first | apply Kd.R_alloc | apply Kd.R_drewN | apply Kd.R_drew)); exact Kd.R_mono HO156.out (fun _ hk => trivial)⟩, ⟨bw1_ HB GE151⟩⟩
                    ·rw [if_neg c37] at H
                     exact absurd H (by simp)
                   ·replace c36 := Bool.eq_false_iff.mpr c36
                    subst c36
                    have H1 : (store_Pairs.l2 k3 a0 a1 t140 x12_3 x62_2 (wrap64 (x15_3 + 1)) a0 x62_2) = some (r1, r2) := by rw [if_neg (show ¬ (false = true) by decide)] at H; exact H
                    clear H
                    have H := H1
                    clear H1
                    have H' := ak_ H
                    clear H
                    try go_wp2
                    replace HO_12 := ak_ (Kd.R_drew HO_12.out)
                    replace HB := ak_ (bd_ HB.out)
                    refine start_ (n := 14) (S := fun w' => True) (ds := []) #[false, false, false, false, false, false, false, false, false, false, false, false, false, false] (by kernel_rfl) rfl rfl trivial (fun hHeld => ?_); refine with_tabW store_Pairs.tab20 store_Pairs.bits20 (fun HT_ HW_ => ?_)
                    generalize wr.drew = w46 at HO_12 HB hHeld ⊢
                    refine pu_ HT_ 0 (some 72) (bA2 1 14) ?_
                    refine pu_ HT_ 1 (some 73) (bA2 2 14) ?_
                    refine pu_ HT_ 2 (some 74) (bA2 3 14) ?_
                    refine pu_ HT_ 3 (some 75) (bA2 4 14) ?_
                    refine pu_ HT_ 4 (some 76) (bA2 5 14) ?_
                    refine pu_ HT_ 5 (some 77) (bA2 6 14) ?_
                    refine pu_ HT_ 6 (some 78) (bA2 7 14) ?_
                    refine pu_ HT_ 7 (some 79) (bA2 8 14) ?_
                    refine pu_ HT_ 8 (some 80) (bA2 9 14) ?_
                    refine pu_ HT_ 9 (some 81) (bA2 10 14) ?_
                    refine pu_ HT_ 10 (some 82) (bA2 11 14) ?_
                    refine pu_ HT_ 11 (some 83) (bA2 12 14) ?_
                    refine one_ (i := 12) (N := some 16) (bA2 13 14) rfl rfl (one_of HT_.out (by kernel_rfl)) (by decide) (fun K hK => ?_)
                    refine box_step ?hg (N := 16) ?hd (cs := #[.int .u64 0, .int .u64 0]) (t := 48) ?hr ?_; (case hd => rfl); (case hg => rfl); (case hr => first | (go_simp; done) | (go_simp; rfl))
                    intro gb151 hg w47 hbox hb
                    replace HO_12 := ak_ (Kd.R_below (Kd.R_elderB (rl_ HO_12) gb151 (Nat.le_of_eq hg.symm)) hb)
                    have BK151 := ak_ hbox
                    have GW151 := ak_ (gs_ hg HB)
                    have GE151 := ak_ (gs_ hg HB)
                    replace HB := ak_ (bt_ (bl_ HB) hb)
                    clear hb hbox hg
                    refine hK.out _ _ trivial (fun hHeld => ?_)
                    clear hK K
                    refine norm_ (a' := ?_) ?_ ?_
                    rotate_left
                    ·show Act.put _ (some 16) _ = _
                     simp only [Act.put, setIfInBounds_toArray, set_cons_zero, set_cons_succ, i64_w, i32_w]
                     rfl
                    refine one_ (i := 13) (N := none) (bA2 14 14) rfl rfl (one_of HT_.out (by kernel_rfl)) (by decide) (fun K hK => ?_)
                    have hs48 : w47.cell? ⟨gb151, 0, none⟩ = some (.int .u64 0) := (kc_ BK151.out 0).trans rfl
                    have hfs48 := kf_ BK151.out 0
                    have hs49 : w47.cell? ⟨gb151, 1, none⟩ = some (.int .u64 0) := (kc_ BK151.out 1).trans rfl
                    have hfs49 := kf_ BK151.out 1
                    refine skip_ (w1 := ?_) (by rfl) rfl ?_ ?_
                    rotate_left
                    ·go_simp
                     rfl
                    refine hK.out _ _ trivial (fun hHeld => ?_)
                    clear hK K
                    refine done_ (done_of HT_.out (by kernel_rfl)) ?_
                    obtain ⟨hcz50_0, hcz50_1, hfz50_0, hfz50_1⟩ := kc2_ BK151.out
                    try go_wp2_with (first | ((with_reducible refine gate_callee (f := 43) rfl ?_); refine goesL_ (some 89) rfl rfl func43 (by kernel_rfl) rfl #[.int .i64 a0, .agg #[.int .u64 ji29, .int .u64 (Go.bits .xor .u64 (ji32) 1)]] rfl (by (try simp only [map_toArray, map_cons, map_nil]); first | done | (simp only [hji29, hji32]; rfl) | rfl | (simp only [length_drop, length_take]; rfl)) ?_; (with_reducible refine (sub_Useful.calls k3 a0 ji29 (Go.bits .xor .u64 (ji32) 1) false t153 _ A34.out).mono ?_); rintro e w51 ⟨rfl, hb⟩; refine ⟨_, rfl, ?_⟩; replace HO_12 := ak_ (Kd.R_below (by (with_reducible repeat (first | apply Kd.R_alloc | apply Kd.R_drewN | apply Kd.R_drew)); exact (Kd.R_mono (Kd.R_far (p := ⟨gb151, 1, none⟩) (Kd.R_far (p := ⟨gb151, 0, none⟩) (Kd.R_mono HO_12.out (fun k_ hk => (⟨hk, hk.2⟩ : _ ∧ k_ ≠ gb151))) (fun _ hk => hk.2) (.int .u64 ji29)) (fun _ hk => hk.2) (.int .u64 (Go.bits .xor .u64 (ji32) 1))) (fun _ h_ => h_.1))) hb); replace BK151 := ak_ (kb_ (g := gb151) (o := .cells #[.int .u64 ji29, .int .u64 (Go.bits .xor .u64 (ji32) 1)] 48 (0, 0)) (by (with_reducible repeat (first | refine kn_ ?_ _ | refine kd_ ?_ | refine ka_ ?_ _)); exact bp_ (bp_ BK151.out 0 _) 1 _) hb); replace HB := ak_ (bt_ (bw1_ HB GE151) hb); (try clear hb); (try clear hk)))
                    try go_wp2_with (first | ((with_reducible refine gate_callee (f := 43) rfl ?_); refine goesL_ (some 89) rfl rfl func43 (by kernel_rfl) rfl #[.int .i64 a0, .agg #[.int .u64 ji29, .int .u64 (Go.bits .xor .u64 (ji32) 1)]] rfl (by (try simp only [map_toArray, map_cons, map_nil]); first | done | (simp only [hji29, hji32]; rfl) | rfl | (simp only [length_drop, length_take]; rfl)) ?_; (with_reducible refine (sub_Useful.calls k3 a0 ji29 (Go.bits .xor .u64 (ji32) 1) false t153 _ A34.out).mono ?_); rintro e w51 ⟨rfl, hb⟩; refine ⟨_, rfl, ?_⟩; replace HO_12 := ak_ (Kd.R_below (by (with_reducible repeat (first | apply Kd.R_alloc | apply Kd.R_drewN | apply Kd.R_drew)); exact (Kd.R_mono (Kd.R_far (p := ⟨gb151, 1, none⟩) (Kd.R_far (p := ⟨gb151, 0, none⟩) (Kd.R_mono HO_12.out (fun k_ hk => (⟨hk, hk.2⟩ : _ ∧ k_ ≠ gb151))) (fun _ hk => hk.2) (.int .u64 ji29)) (fun _ hk => hk.2) (.int .u64 (Go.bits .xor .u64 (ji32) 1))) (fun _ h_ => h_.1))) hb); replace BK151 := ak_ (kb_ (g := gb151) (o := .cells #[.int .u64 ji29, .int .u64 (Go.bits .xor .u64 (ji32) 1)] 48 (0, 0)) (by (with_reducible repeat (first | refine kn_ ?_ _ | refine kd_ ?_ | refine ka_ ?_ _)); exact bp_ (bp_ BK151.out 0 _) 1 _) hb); replace HB := ak_ (bt_ (bw1_ HB GE151) hb); (try clear hb); (try clear hk)))
                    go_roundg k3
                    case measure => have := HJ5.out; have := HK2.out; have := HK3.out; omega
                    case rel => exact ⟨(x12_3), (wrap64 (x15_3 + 1)), rf_, H', ⟨by have := HJ5.out; have := HK2.out; have := HK3.out; omega⟩, ⟨by (with_reducible repeat (first | apply Kd.R_alloc | apply Kd.R_drewN | apply Kd.R_drew)); exact Kd.R_mono HO_12.out (fun _ hk => trivial)⟩, ⟨bw1_ HB GE151⟩⟩
                  ·rw [if_neg c35] at H
                   have c35b0 : (t153 == 0) = false := beq_eq_false_iff_ne.mpr c35
                   have c35b1 : (t153 != 0) = true := bne_iff_ne.mpr c35
                   have H' := ak_ H
                   clear H
                   try go_wp2
                   replace HO_12 := ak_ (Kd.R_drew HO_12.out)
                   replace HB := ak_ (bd_ HB.out)
                   refine start_ (n := 14) (S := fun w' => True) (ds := []) #[false, false, false, false, false, false, false, false, false, false, false, false, false, false] (by kernel_rfl) rfl rfl trivial (fun hHeld => ?_); refine with_tabW store_Pairs.tab20 store_Pairs.bits20 (fun HT_ HW_ => ?_)
                   generalize wr.drew = w52 at HO_12 HB hHeld ⊢
                   refine pu_ HT_ 0 (some 72) (bA2 1 14) ?_
                   refine pu_ HT_ 1 (some 73) (bA2 2 14) ?_
                   refine pu_ HT_ 2 (some 74) (bA2 3 14) ?_
                   refine pu_ HT_ 3 (some 75) (bA2 4 14) ?_
                   refine pu_ HT_ 4 (some 76) (bA2 5 14) ?_
                   refine pu_ HT_ 5 (some 77) (bA2 6 14) ?_
                   refine pu_ HT_ 6 (some 78) (bA2 7 14) ?_
                   refine pu_ HT_ 7 (some 79) (bA2 8 14) ?_
                   refine pu_ HT_ 8 (some 80) (bA2 9 14) ?_
                   refine pu_ HT_ 9 (some 81) (bA2 10 14) ?_
                   refine pu_ HT_ 10 (some 82) (bA2 11 14) ?_
                   refine pu_ HT_ 11 (some 83) (bA2 12 14) ?_
                   refine one_ (i := 12) (N := some 16) (bA2 13 14) rfl rfl (one_of HT_.out (by kernel_rfl)) (by decide) (fun K hK => ?_)
                   refine box_step ?hg (N := 16) ?hd (cs := #[.int .u64 0, .int .u64 0]) (t := 48) ?hr ?_; (case hd => rfl); (case hg => rfl); (case hr => first | (go_simp; done) | (go_simp; rfl))
                   intro gb151 hg w53 hbox hb
                   replace HO_12 := ak_ (Kd.R_below (Kd.R_elderB (rl_ HO_12) gb151 (Nat.le_of_eq hg.symm)) hb)
                   have BK151 := ak_ hbox
                   have GW151 := ak_ (gs_ hg HB)
                   have GE151 := ak_ (gs_ hg HB)
                   replace HB := ak_ (bt_ (bl_ HB) hb)
                   clear hb hbox hg
                   refine hK.out _ _ trivial (fun hHeld => ?_)
                   clear hK K
                   refine norm_ (a' := ?_) ?_ ?_
                   rotate_left
                   ·show Act.put _ (some 16) _ = _
                    simp only [Act.put, setIfInBounds_toArray, set_cons_zero, set_cons_succ, i64_w, i32_w]
                    rfl
                   refine one_ (i := 13) (N := none) (bA2 14 14) rfl rfl (one_of HT_.out (by kernel_rfl)) (by decide) (fun K hK => ?_)
                   have hs54 : w53.cell? ⟨gb151, 0, none⟩ = some (.int .u64 0) := (kc_ BK151.out 0).trans rfl
                   have hfs54 := kf_ BK151.out 0
                   have hs55 : w53.cell? ⟨gb151, 1, none⟩ = some (.int .u64 0) := (kc_ BK151.out 1).trans rfl
                   have hfs55 := kf_ BK151.out 1
                   refine skip_ (w1 := ?_) (by rfl) rfl ?_ ?_
                   rotate_left
                   ·go_simp
                    rfl
                   refine hK.out _ _ trivial (fun hHeld => ?_)
                   clear hK K
                   refine done_ (done_of HT_.out (by kernel_rfl)) ?_
                   obtain ⟨hcz56_0, hcz56_1, hfz56_0, hfz56_1⟩ := kc2_ BK151.out
                   try go_wp2_with (first | ((with_reducible refine gate_callee (f := 43) rfl ?_); refine goesL_ (some 89) rfl rfl func43 (by kernel_rfl) rfl #[.int .i64 a0, .agg #[.int .u64 ji29, .int .u64 (Go.bits .xor .u64 (ji32) 1)]] rfl (by (try simp only [map_toArray, map_cons, map_nil]); first | done | (simp only [hji29, hji32]; rfl) | rfl | (simp only [length_drop, length_take]; rfl)) ?_; (with_reducible refine (sub_Useful.calls k3 a0 ji29 (Go.bits .xor .u64 (ji32) 1) t152 t153 _ A34.out).mono ?_); rintro e w57 ⟨rfl, hb⟩; refine ⟨_, rfl, ?_⟩; replace HO_12 := ak_ (Kd.R_below (by (with_reducible repeat (first | apply Kd.R_alloc | apply Kd.R_drewN | apply Kd.R_drew)); exact (Kd.R_mono (Kd.R_far (p := ⟨gb151, 1, none⟩) (Kd.R_far (p := ⟨gb151, 0, none⟩) (Kd.R_mono HO_12.out (fun k_ hk => (⟨hk, hk.2⟩ : _ ∧ k_ ≠ gb151))) (fun _ hk => hk.2) (.int .u64 ji29)) (fun _ hk => hk.2) (.int .u64 (Go.bits .xor .u64 (ji32) 1))) (fun _ h_ => h_.1))) hb); replace BK151 := ak_ (kb_ (g := gb151) (o := .cells #[.int .u64 ji29, .int .u64 (Go.bits .xor .u64 (ji32) 1)] 48 (0, 0)) (by (with_reducible repeat (first | refine kn_ ?_ _ | refine kd_ ?_ | refine ka_ ?_ _)); exact bp_ (bp_ BK151.out 0 _) 1 _) hb); replace HB := ak_ (bt_ (bw1_ HB GE151) hb); (try clear hb); (try clear hk)))
                   try go_wp2_with (first | ((with_reducible refine gate_callee (f := 43) rfl ?_); refine goesL_ (some 89) rfl rfl func43 (by kernel_rfl) rfl #[.int .i64 a0, .agg #[.int .u64 ji29, .int .u64 (Go.bits .xor .u64 (ji32) 1)]] rfl (by (try simp only [map_toArray, map_cons, map_nil]); first | done | (simp only [hji29, hji32]; rfl) | rfl | (simp only [length_drop, length_take]; rfl)) ?_; (with_reducible refine (sub_Useful.calls k3 a0 ji29 (Go.bits .xor .u64 (ji32) 1) t152 t153 _ A34.out).mono ?_); rintro e w57 ⟨rfl, hb⟩; refine ⟨_, rfl, ?_⟩; replace HO_12 := ak_ (Kd.R_below (by (with_reducible repeat (first | apply Kd.R_alloc | apply Kd.R_drewN | apply Kd.R_drew)); exact (Kd.R_mono (Kd.R_far (p := ⟨gb151, 1, none⟩) (Kd.R_far (p := ⟨gb151, 0, none⟩) (Kd.R_mono HO_12.out (fun k_ hk => (⟨hk, hk.2⟩ : _ ∧ k_ ≠ gb151))) (fun _ hk => hk.2) (.int .u64 ji29)) (fun _ hk => hk.2) (.int .u64 (Go.bits .xor .u64 (ji32) 1))) (fun _ h_ => h_.1))) hb); replace BK151 := ak_ (kb_ (g := gb151) (o := .cells #[.int .u64 ji29, .int .u64 (Go.bits .xor .u64 (ji32) 1)] 48 (0, 0)) (by (with_reducible repeat (first | refine kn_ ?_ _ | refine kd_ ?_ | refine ka_ ?_ _)); exact bp_ (bp_ BK151.out 0 _) 1 _) hb); replace HB := ak_ (bt_ (bw1_ HB GE151) hb); (try clear hb); (try clear hk)))
                   go_roundg k3
                   case measure => have := HJ5.out; have := HK2.out; have := HK3.out; omega
                   case rel => exact ⟨(x12_3), (wrap64 (x15_3 + 1)), rf_, H', ⟨by have := HJ5.out; have := HK2.out; have := HK3.out; omega⟩, ⟨by (with_reducible repeat (first | apply Kd.R_alloc | apply Kd.R_drewN | apply Kd.R_drew)); exact Kd.R_mono HO_12.out (fun _ hk => trivial)⟩, ⟨bw1_ HB GE151⟩⟩
                 ·rw [if_neg c33] at H
                  have c33b0 : (a1 == 3) = false := beq_eq_false_iff_ne.mpr c33
                  have c33b1 : (a1 != 3) = true := bne_iff_ne.mpr c33
                  by_cases c58 : x12_3.length < 8796093022208
                  ·rw [if_pos c58] at H
                   have LMc58 := ak_ c58
                   clear c58
                   obtain ⟨y157, hy157⟩ : ∃ y_ : List (S48), y_ = (x12_3 ++ [(⟨ji29, Go.bits .xor .u64 (ji32) 1⟩ : S48)]) := ⟨_, rfl⟩
                   replace H : (store_Pairs.l2 k3 a0 a1 t140 y157 x62_2 (wrap64 (x15_3 + 1)) a0 x62_2) = some (r1, r2) := by first | (rw [hy157]; with_reducible exact H) | (have H2_ := (Option.bind_some _ _).symm.trans H; rw [hy157]; with_reducible exact H2_) | (have H2_ := (Option.bind_some _ _).symm.trans H; with_reducible exact H2_) | with_reducible exact H | (rw [hy157]; exact H) | exact H
                   have Ny157 := ak_ hy157
                   clear hy157
                   have H' := ak_ H
                   clear H
                   try go_wp2
                   replace HO_12 := ak_ (Kd.R_drew HO_12.out)
                   replace HB := ak_ (bd_ HB.out)
                   refine start_ (n := 14) (S := fun w' => True) (ds := []) #[false, false, false, false, false, false, false, false, false, false, false, false, false, false] (by kernel_rfl) rfl rfl trivial (fun hHeld => ?_); refine with_tabW store_Pairs.tab20 store_Pairs.bits20 (fun HT_ HW_ => ?_)
                   generalize wr.drew = w59 at HO_12 HB hHeld ⊢
                   refine pu_ HT_ 0 (some 72) (bA2 1 14) ?_
                   refine pu_ HT_ 1 (some 73) (bA2 2 14) ?_
                   refine pu_ HT_ 2 (some 74) (bA2 3 14) ?_
                   refine pu_ HT_ 3 (some 75) (bA2 4 14) ?_
                   refine pu_ HT_ 4 (some 76) (bA2 5 14) ?_
                   refine pu_ HT_ 5 (some 77) (bA2 6 14) ?_
                   refine pu_ HT_ 6 (some 78) (bA2 7 14) ?_
                   refine pu_ HT_ 7 (some 79) (bA2 8 14) ?_
                   refine pu_ HT_ 8 (some 80) (bA2 9 14) ?_
                   refine pu_ HT_ 9 (some 81) (bA2 10 14) ?_
                   refine pu_ HT_ 10 (some 82) (bA2 11 14) ?_
                   refine pu_ HT_ 11 (some 83) (bA2 12 14) ?_
                   refine one_ (i := 12) (N := some 16) (bA2 13 14) rfl rfl (one_of HT_.out (by kernel_rfl)) (by decide) (fun K hK => ?_)
                   refine box_step ?hg (N := 16) ?hd (cs := #[.int .u64 0, .int .u64 0]) (t := 48) ?hr ?_; (case hd => rfl); (case hg => rfl); (case hr => first | (go_simp; done) | (go_simp; rfl))
                   intro gb151 hg w60 hbox hb
                   replace HO_12 := ak_ (Kd.R_below (Kd.R_elderB (rl_ HO_12) gb151 (Nat.le_of_eq hg.symm)) hb)
                   have BK151 := ak_ hbox
                   have GW151 := ak_ (gs_ hg HB)
                   have GE151 := ak_ (gs_ hg HB)
                   replace HB := ak_ (bt_ (bl_ HB) hb)
                   clear hb hbox hg
                   refine hK.out _ _ trivial (fun hHeld => ?_)
                   clear hK K
                   refine norm_ (a' := ?_) ?_ ?_
                   rotate_left
                   ·show Act.put _ (some 16) _ = _
                    simp only [Act.put, setIfInBounds_toArray, set_cons_zero, set_cons_succ, i64_w, i32_w]
                    rfl
                   refine one_ (i := 13) (N := none) (bA2 14 14) rfl rfl (one_of HT_.out (by kernel_rfl)) (by decide) (fun K hK => ?_)
                   have hs61 : w60.cell? ⟨gb151, 0, none⟩ = some (.int .u64 0) := (kc_ BK151.out 0).trans rfl
                   have hfs61 := kf_ BK151.out 0
                   have hs62 : w60.cell? ⟨gb151, 1, none⟩ = some (.int .u64 0) := (kc_ BK151.out 1).trans rfl
                   have hfs62 := kf_ BK151.out 1
                   refine skip_ (w1 := ?_) (by rfl) rfl ?_ ?_
                   rotate_left
                   ·go_simp
                    rfl
                   refine hK.out _ _ trivial (fun hHeld => ?_)
                   clear hK K
                   refine done_ (done_of HT_.out (by kernel_rfl)) ?_
                   obtain ⟨hcz63_0, hcz63_1, hfz63_0, hfz63_1⟩ := kc2_ BK151.out
                   try go_wp2_with (first | ((with_reducible refine gate_builtin (b := .append) (xs := #[.tmp 98, .tmp 100]) rfl ?_); at_builtin; refine Kd.R_append k48 (w0 := w) w.heap.size rfl (.tmp 98) (.tmp 100) 55 48 (.agg #[(.int .u64 0), (.int .u64 0)]) 16 rfl underlying55 info48 rfl (by decide) (by omega) u12 x12_3 (⟨ji29, Go.bits .xor .u64 (ji32) 1⟩ : S48) [.int .u64 ji29, .int .u64 (Go.bits .xor .u64 (ji32) 1)] (fun k_ => k_ ≠ gb151) (fun _ => False) rfl (by first | (go_simp; done) | (go_simp; rfl)) ?aP (fun _ hk => hk.elim) ?aF ?aO ?aB ?aS ?aL ?_; (case aP => exact k48_mkM _ _ _ (⟨ji29, Go.bits .xor .u64 (ji32) 1⟩ : S48)); (case aB => exact (bw1_ HB GE151)); (case aF => exact (fun k_ hk => Kd.freshB (g := gb151) (o := .cells #[.int .u64 ji29, .int .u64 (Go.bits .xor .u64 (ji32) 1)] 48 (0, 0)) (by (with_reducible repeat (first | refine kn_ ?_ _ | refine kd_ ?_ | refine ka_ ?_ _)); exact bp_ (bp_ BK151.out 0 _) 1 _) k_ hk)); (case aO => exact (by (with_reducible repeat (first | apply Kd.R_alloc | apply Kd.R_drewN | apply Kd.R_drew)); exact Kd.R_mono (Kd.R_far (p := ⟨gb151, 1, none⟩) (Kd.R_far (p := ⟨gb151, 0, none⟩) (Kd.R_mono HO_12.out (fun k_ hk => (⟨hk, hk.2⟩ : _ ∧ k_ ≠ gb151))) (fun _ hk => hk.2) (.int .u64 ji29)) (fun _ hk => hk.2) (.int .u64 (Go.bits .xor .u64 (ji32) 1))) (fun _ hk => hk.1.2))); (case aS => exact (bz_ (bw1_ HB GE151))); (case aL => have := LMc58.out; omega); intro v158 w64 ho hb hg hat; rw [← Ny157.out] at ho; replace BK151 := ak_ (blk_grown (g := gb151) (o := .cells #[.int .u64 ji29, .int .u64 (Go.bits .xor .u64 (ji32) 1)] 48 (0, 0)) (by (with_reducible repeat (first | refine kn_ ?_ _ | refine kd_ ?_ | refine ka_ ?_ _)); exact bp_ (bp_ BK151.out 0 _) 1 _) hg (Kd.R_away HO_12.out (fun _ hk => hk.2))); replace HB := ak_ hb; have HO159 := ak_ ho; clear HO_12; clear ho hb hg hat))
                   try go_wp2_with (first | ((with_reducible refine gate_builtin (b := .append) (xs := #[.tmp 98, .tmp 100]) rfl ?_); at_builtin; refine Kd.R_append k48 (w0 := w) w.heap.size rfl (.tmp 98) (.tmp 100) 55 48 (.agg #[(.int .u64 0), (.int .u64 0)]) 16 rfl underlying55 info48 rfl (by decide) (by omega) u12 x12_3 (⟨ji29, Go.bits .xor .u64 (ji32) 1⟩ : S48) [.int .u64 ji29, .int .u64 (Go.bits .xor .u64 (ji32) 1)] (fun k_ => k_ ≠ gb151) (fun _ => False) rfl (by first | (go_simp; done) | (go_simp; rfl)) ?aP (fun _ hk => hk.elim) ?aF ?aO ?aB ?aS ?aL ?_; (case aP => exact k48_mkM _ _ _ (⟨ji29, Go.bits .xor .u64 (ji32) 1⟩ : S48)); (case aB => exact (bw1_ HB GE151)); (case aF => exact (fun k_ hk => Kd.freshB (g := gb151) (o := .cells #[.int .u64 ji29, .int .u64 (Go.bits .xor .u64 (ji32) 1)] 48 (0, 0)) (by (with_reducible repeat (first | refine kn_ ?_ _ | refine kd_ ?_ | refine ka_ ?_ _)); exact bp_ (bp_ BK151.out 0 _) 1 _) k_ hk)); (case aO => exact (by (with_reducible repeat (first | apply Kd.R_alloc | apply Kd.R_drewN | apply Kd.R_drew)); exact Kd.R_mono (Kd.R_far (p := ⟨gb151, 1, none⟩) (Kd.R_far (p := ⟨gb151, 0, none⟩) (Kd.R_mono HO_12.out (fun k_ hk => (⟨hk, hk.2⟩ : _ ∧ k_ ≠ gb151))) (fun _ hk => hk.2) (.int .u64 ji29)) (fun _ hk => hk.2) (.int .u64 (Go.bits .xor .u64 (ji32) 1))) (fun _ hk => hk.1.2))); (case aS => exact (bz_ (bw1_ HB GE151))); (case aL => have := LMc58.out; omega); intro v158 w64 ho hb hg hat; rw [← Ny157.out] at ho; replace BK151 := ak_ (blk_grown (g := gb151) (o := .cells #[.int .u64 ji29, .int .u64 (Go.bits .xor .u64 (ji32) 1)] 48 (0, 0)) (by (with_reducible repeat (first | refine kn_ ?_ _ | refine kd_ ?_ | refine ka_ ?_ _)); exact bp_ (bp_ BK151.out 0 _) 1 _) hg (Kd.R_away HO_12.out (fun _ hk => hk.2))); replace HB := ak_ hb; have HO159 := ak_ ho; clear HO_12; clear ho hb hg hat))
                   go_roundg k3
                   case measure => have := HJ5.out; have := HK2.out; have := HK3.out; omega
                   case rel => exact ⟨(y157), (wrap64 (x15_3 + 1)), rf_, H', ⟨by have := HJ5.out; have := HK2.out; have := HK3.out; omega⟩, ⟨by (with_reducible repeat (first | apply Kd.R_alloc | apply Kd.R_drewN | apply Kd.R_drew)); exact Kd.R_mono HO159.out (fun _ hk => trivial)⟩, ⟨bw1_ HB GE151⟩⟩
                  ·rw [if_neg c58] at H
                   exact absurd H (by simp)
                ·rw [if_neg c31] at H
                 exact absurd H (by simp)
               ·rw [if_neg c28] at H
                exact absurd H (by simp)
              ·rw [if_neg c26] at H
               have c26b0 := decide_eq_false c26
               clear c26
               have H' := ak_ H
               clear H
               go_wp2
               go_roundg k3
               case measure => have := HJ5.out; have := HK2.out; have := HK3.out; omega
               case rel => exact ⟨(x12_3), (wrap64 (x62_2 + 1)), rf_, H', ⟨by have := HJ5.out; have := HK2.out; have := HK3.out; omega⟩, ⟨rl_ HO_12⟩, ⟨bl_ HB⟩⟩
           ·rw [if_neg c25] at H
            have c25b0 := decide_eq_false c25
            clear c25
            simp only [some.injEq, Prod.mk.injEq] at H
            obtain ⟨rfl, rfl⟩ := H
            go_wp2
            go_ret2
            exact ⟨_, by first | rfl | (simp <;> rfl) | (simp [*] <;> rfl), by (with_reducible repeat (first | apply Kd.R_alloc | apply Kd.R_drewN | apply Kd.R_drew)); exact HO_12.out, bl_ HB⟩
        ·rw [if_neg c21] at H
         exact absurd H (by simp)
      ·rw [if_neg c11] at H
       exact absurd H (by simp)
     ·rw [if_neg c10] at H
      exact absurd H (by simp)
def term_parts.j0 : Nat → Int → Bool → Int → Int → Int → Option (List Int)
  | 0, _, _, _, _, _ => none
  | k + 1, x4, x5, x161000, x161001, x161002 => if x5 = true then (some (([x161001] : List Int))) else (if x4 = 5 then (some (([x161001, x161002] : List Int))) else (some ([] : List Int)))
def term_parts.f (k : Nat) (a0_0 : Int) (a0_1 : Int) (a0_2 : Int) : Option (List Int) := if a0_0 = 2 then (term_parts.j0 k a0_0 (a0_0 == 2) a0_0 a0_1 a0_2) else (if a0_0 = 3 then (term_parts.j0 k a0_0 (a0_0 == 3) a0_0 a0_1 a0_2) else (term_parts.j0 k a0_0 (a0_0 == 4) a0_0 a0_1 a0_2))
theorem term_parts.mono_l : ∀ k, (∀ y0 y1 y2 y3 y4, LeO (term_parts.j0 k y0 y1 y2 y3 y4) (term_parts.j0 (k + 1) y0 y1 y2 y3 y4))
  | 0 => fun _ _ _ _ _ r h => by simp [term_parts.j0] at h
  | k + 1 => by
   have ih0 := term_parts.mono_l k
   ·intro y0 y1 y2 y3 y4
    unfold term_parts.j0
    repeat' first | (with_reducible first | exact ih0 .. | exact LeO.refl _ | exact LeO.none _ | refine LeO.ite ?_ ?_ | refine LeO.bind ?_ (fun _ => ?_)) | exact ih0 .. | refine LeO.ite ?_ ?_ | refine LeO.bind ?_ (fun _ => ?_)
theorem term_parts.mono : ∀ a0 a1 a2 k, LeO (term_parts.f k a0 a1 a2) (term_parts.f (k + 1) a0 a1 a2) := by
  intro a0 a1 a2 k
  have ih0 := term_parts.mono_l k
  unfold term_parts.f
  repeat' first | (with_reducible first | exact ih0 .. | exact LeO.refl _ | exact LeO.none _ | refine LeO.ite ?_ ?_ | refine LeO.bind ?_ (fun _ => ?_)) | exact ih0 .. | refine LeO.ite ?_ ?_ | refine LeO.bind ?_ (fun _ => ?_)
set_option maxHeartbeats 8000000 in
set_option maxRecDepth 100000 in
theorem term_parts.calls (k : Nat) (a0_0 : Int) (a0_1 : Int) (a0_2 : Int) (r : List Int) (w : World) (h : term_parts.f k a0_0 a0_1 a0_2 = some r) :
   Calls Try.prog 103 #[.agg #[.int .i64 a0_0, .int .i64 a0_1, .int .i64 a0_2]] w fun e w' => ∃ v0_ : Value, e = .returned (v0_) ∧ Kd.R (Kd.int .i64) 3 w' w.heap.size (fun _ => True) v0_ r ∧ Below w.heap.size w w' := by
  have hu45 := underlying45
  have HB := ak_ (Below.refl w.heap.size w)
  have H : (if a0_0 = 2 then (term_parts.j0 k a0_0 (a0_0 == 2) a0_0 a0_1 a0_2) else (if a0_0 = 3 then (term_parts.j0 k a0_0 (a0_0 == 3) a0_0 a0_1 a0_2) else (term_parts.j0 k a0_0 (a0_0 == 4) a0_0 a0_1 a0_2))) = some r := h
  clear h
  have HC2 := ak_ H
  clear H
  go_enter func103, ntmps103
  go_upto_if 5 with (first | ((with_reducible refine gate_dst (N := 1) rfl ?_); refine bx_ 1 #[.int .i64 a0_0, .int .i64 a0_1, .int .i64 a0_2] 45 ?_; intro gb160 hg w3 hbox hb; have BK160 := ak_ hbox; have GW160 := ak_ (gs_ hg HB); have GE160 := ak_ (gs_ hg HB); replace HB := ak_ (bt_ (bl_ HB) hb); clear hb hbox hg; obtain ⟨hcz4_0, hcz4_1, hcz4_2, hfz4_0, hfz4_1, hfz4_2⟩ := kc3_ BK160.out))
  (try simp only [Act.put, setIfInBounds_toArray, set_cons_zero, set_cons_succ])
  go_cut [5] (fun v5 wc => ∃ (kq : Nat) (x5_1 : Bool), v5 = .bool x5_1 ∧ Aside0 (term_parts.j0 kq a0_0 x5_1 a0_0 a0_1 a0_2 = some r) ∧ Aside0 (kq ≤ k) ∧ Aside0 (wc.heap[gb160]? = some (.cells #[.int .i64 a0_0, .int .i64 a0_1, .int .i64 a0_2] 45 (0, 0))) ∧ Aside0 (Below w.heap.size w wc))
  case first =>
   have H := HC2.out
   clear HC2
   by_cases c5 : a0_0 = 2
   ·rw [if_pos c5] at H
    have c5b0 : (a0_0 == 2) = true := beq_iff_eq.mpr c5
    have c5b1 : (a0_0 != 2) = false := bne_eq_false_iff_eq.mpr c5
    clear c5
    (first | rw [c5b0] | (simp only [i64_w, i32_w]; rw [c5b0]) | skip)
    have H' := ak_ H
    clear H
    go_wp2
    go_meet
    case rel => exact ⟨_, ((a0_0 == 2)), rf_, H', ⟨by first | omega | exact Nat.le_refl _⟩, ⟨kl_ BK160⟩, ⟨bw1_ HB GE160⟩⟩
   ·rw [if_neg c5] at H
    have c5b0 : (a0_0 == 2) = false := beq_eq_false_iff_ne.mpr c5
    have c5b1 : (a0_0 != 2) = true := bne_iff_ne.mpr c5
    (first | rw [c5b0] | (simp only [i64_w, i32_w]; rw [c5b0]) | skip)
    by_cases c6 : a0_0 = 3
    ·rw [if_pos c6] at H
     have c6b0 : (a0_0 == 3) = true := beq_iff_eq.mpr c6
     have c6b1 : (a0_0 != 3) = false := bne_eq_false_iff_eq.mpr c6
     clear c6
     have H' := ak_ H
     clear H
     go_wp2
     go_meet
     case rel => exact ⟨_, ((a0_0 == 3)), rf_, H', ⟨by first | omega | exact Nat.le_refl _⟩, ⟨kl_ BK160⟩, ⟨bw1_ HB GE160⟩⟩
    ·rw [if_neg c6] at H
     have c6b0 : (a0_0 == 3) = false := beq_eq_false_iff_ne.mpr c6
     have c6b1 : (a0_0 != 3) = true := bne_iff_ne.mpr c6
     have H' := ak_ H
     clear H
     go_wp2
     go_meet
     case rel => exact ⟨_, ((a0_0 == 4)), rf_, H', ⟨by first | omega | exact Nat.le_refl _⟩, ⟨kl_ BK160⟩, ⟨bw1_ HB GE160⟩⟩
  case rest =>
   clear HC2
   try clear c1
   try clear p2
   try clear c5
   try clear c5b0
   try clear c5b1
   try clear c6
   try clear c6b0
   try clear c6b1
   try clear hcz4_0 hcz4_1 hcz4_2
   try clear hfz4_0 hfz4_1 hfz4_2
   obtain ⟨kq, x5_1, rfl, HA, HJ1, BK160, HB⟩ := hcut
   cases kq with
   | zero => exact absurd HA.out (by simp [term_parts.j0])
   | succ kj1 =>
    have H := HA.out
    clear HA
    simp only [term_parts.j0] at H
    by_cases c7 : x5_1 = true
    ·subst c7
     have H1 : (some (([a0_1] : List Int))) = some r := by rw [if_pos rfl] at H; exact H
     clear H
     have H := H1
     clear H1
     obtain ⟨y161, hy161⟩ : ∃ y_ : List Int, y_ = (([a0_1] : List Int)) := ⟨_, rfl⟩
     replace H : (some y161) = some r := by first | (rw [hy161]; with_reducible exact H) | (have H2_ := (Option.bind_some _ _).symm.trans H; rw [hy161]; with_reducible exact H2_) | (have H2_ := (Option.bind_some _ _).symm.trans H; with_reducible exact H2_) | with_reducible exact H | (rw [hy161]; exact H) | exact H
     have Ny161 := ak_ hy161
     clear hy161
     obtain rfl := Option.some.inj H
     obtain ⟨hcz8_0, hcz8_1, hcz8_2, hfz8_0, hfz8_1, hfz8_2⟩ := kc3_ BK160.out
     go_wp2_with (first | ((with_reducible refine gate_dst (N := 11) rfl ?_); refine Kd.R_lit (Kd.int .i64) _ 3 ?hg (N := 11) ?hd (xs := ([a0_1] : List Int)) (inner := [.int .i64 a0_1]) (ok := fun _ => True) (okp := fun _ => True) ?hr ?hp (fun _ hk => hk) trivial (Below.refl _ _) (Nat.le_refl _) (by simp) ?_; (case hd => rfl); (case hg => rfl); (case hr => first | (go_simp; done) | (go_simp; rfl)); (case hp => exact (Reps.one (show Kd.M (Kd.int .i64) _ _ _ a0_1 [.int .i64 a0_1] from rfl) (Reps.none _ _))); intro v162 w9 ho10 hb hg_ hnew_; clear hg_ hnew_; (first | rw [← Ny161.out] at ho10 | (simp only [Int.reduceToNat] at ho10; rw [← Ny161.out] at ho10)); have HO163 := ak_ (Kd.R_lower ho10 (bz_ (bw1_ HB GE160))); replace BK160 := ak_ (kb_ (kl_ BK160) hb); replace HB := ak_ (bt_ (bw1_ HB GE160) hb); clear hb ho10))
     go_wp2_with (first | ((with_reducible refine gate_dst (N := 11) rfl ?_); refine Kd.R_lit (Kd.int .i64) _ 3 ?hg (N := 11) ?hd (xs := ([a0_1] : List Int)) (inner := [.int .i64 a0_1]) (ok := fun _ => True) (okp := fun _ => True) ?hr ?hp (fun _ hk => hk) trivial (Below.refl _ _) (Nat.le_refl _) (by simp) ?_; (case hd => rfl); (case hg => rfl); (case hr => first | (go_simp; done) | (go_simp; rfl)); (case hp => exact (Reps.one (show Kd.M (Kd.int .i64) _ _ _ a0_1 [.int .i64 a0_1] from rfl) (Reps.none _ _))); intro v162 w9 ho10 hb hg_ hnew_; clear hg_ hnew_; (first | rw [← Ny161.out] at ho10 | (simp only [Int.reduceToNat] at ho10; rw [← Ny161.out] at ho10)); have HO163 := ak_ (Kd.R_lower ho10 (bz_ (bw1_ HB GE160))); replace BK160 := ak_ (kb_ (kl_ BK160) hb); replace HB := ak_ (bt_ (bw1_ HB GE160) hb); clear hb ho10))
     go_ret
     exact ⟨_, by first | rfl | (simp <;> rfl) | (simp [*] <;> rfl), by (with_reducible repeat (first | apply Kd.R_alloc | apply Kd.R_drewN | apply Kd.R_drew)); exact HO163.out, bw1_ HB GE160⟩
    ·replace c7 := Bool.eq_false_iff.mpr c7
     subst c7
     have H1 : (if a0_0 = 5 then (some (([a0_1, a0_2] : List Int))) else (some ([] : List Int))) = some r := by rw [if_neg (show ¬ (false = true) by decide)] at H; exact H
     clear H
     have H := H1
     clear H1
     by_cases c11 : a0_0 = 5
     ·rw [if_pos c11] at H
      have c11b0 : (a0_0 == 5) = true := beq_iff_eq.mpr c11
      have c11b1 : (a0_0 != 5) = false := bne_eq_false_iff_eq.mpr c11
      clear c11
      obtain ⟨y164, hy164⟩ : ∃ y_ : List Int, y_ = (([a0_1, a0_2] : List Int)) := ⟨_, rfl⟩
      replace H : (some y164) = some r := by first | (rw [hy164]; with_reducible exact H) | (have H2_ := (Option.bind_some _ _).symm.trans H; rw [hy164]; with_reducible exact H2_) | (have H2_ := (Option.bind_some _ _).symm.trans H; with_reducible exact H2_) | with_reducible exact H | (rw [hy164]; exact H) | exact H
      have Ny164 := ak_ hy164
      clear hy164
      obtain rfl := Option.some.inj H
      obtain ⟨hcz12_0, hcz12_1, hcz12_2, hfz12_0, hfz12_1, hfz12_2⟩ := kc3_ BK160.out
      go_wp2_with (first | ((with_reducible refine gate_dst (N := 18) rfl ?_); refine Kd.R_lit (Kd.int .i64) _ 3 ?hg (N := 18) ?hd (xs := ([a0_1, a0_2] : List Int)) (inner := [.int .i64 a0_1, .int .i64 a0_2]) (ok := fun _ => True) (okp := fun _ => True) ?hr ?hp (fun _ hk => hk) trivial (Below.refl _ _) (Nat.le_refl _) (by simp) ?_; (case hd => rfl); (case hg => rfl); (case hr => first | (go_simp; done) | (go_simp; rfl)); (case hp => exact (Reps.one (show Kd.M (Kd.int .i64) _ _ _ a0_1 [.int .i64 a0_1] from rfl) (Reps.one (show Kd.M (Kd.int .i64) _ _ _ a0_2 [.int .i64 a0_2] from rfl) (Reps.none _ _)))); intro v165 w13 ho14 hb hg_ hnew_; clear hg_ hnew_; (first | rw [← Ny164.out] at ho14 | (simp only [Int.reduceToNat] at ho14; rw [← Ny164.out] at ho14)); have HO166 := ak_ (Kd.R_lower ho14 (bz_ (bw1_ HB GE160))); replace BK160 := ak_ (kb_ (kl_ BK160) hb); replace HB := ak_ (bt_ (bw1_ HB GE160) hb); clear hb ho14))
      go_wp2_with (first | ((with_reducible refine gate_dst (N := 18) rfl ?_); refine Kd.R_lit (Kd.int .i64) _ 3 ?hg (N := 18) ?hd (xs := ([a0_1, a0_2] : List Int)) (inner := [.int .i64 a0_1, .int .i64 a0_2]) (ok := fun _ => True) (okp := fun _ => True) ?hr ?hp (fun _ hk => hk) trivial (Below.refl _ _) (Nat.le_refl _) (by simp) ?_; (case hd => rfl); (case hg => rfl); (case hr => first | (go_simp; done) | (go_simp; rfl)); (case hp => exact (Reps.one (show Kd.M (Kd.int .i64) _ _ _ a0_1 [.int .i64 a0_1] from rfl) (Reps.one (show Kd.M (Kd.int .i64) _ _ _ a0_2 [.int .i64 a0_2] from rfl) (Reps.none _ _)))); intro v165 w13 ho14 hb hg_ hnew_; clear hg_ hnew_; (first | rw [← Ny164.out] at ho14 | (simp only [Int.reduceToNat] at ho14; rw [← Ny164.out] at ho14)); have HO166 := ak_ (Kd.R_lower ho14 (bz_ (bw1_ HB GE160))); replace BK160 := ak_ (kb_ (kl_ BK160) hb); replace HB := ak_ (bt_ (bw1_ HB GE160) hb); clear hb ho14))
      go_ret
      exact ⟨_, by first | rfl | (simp <;> rfl) | (simp [*] <;> rfl), by (with_reducible repeat (first | apply Kd.R_alloc | apply Kd.R_drewN | apply Kd.R_drew)); exact HO166.out, bw1_ HB GE160⟩
     ·rw [if_neg c11] at H
      have c11b0 : (a0_0 == 5) = false := beq_eq_false_iff_ne.mpr c11
      have c11b1 : (a0_0 != 5) = true := bne_iff_ne.mpr c11
      obtain rfl := Option.some.inj H
      go_wp2
      go_ret
      exact ⟨_, by first | rfl | (simp <;> rfl) | (simp [*] <;> rfl), by first | exact Kd.R_nil _ _ _ _ _ | exact Kd.N_nil _ _ _ _ _ | exact Kd.V_nil _ _ _ _ _ | exact Kd.Q_nil _ _ _ _ _ | exact Kd.S_nil _ _ _ _ _, bw1_ HB GE160⟩
theorem tm_goesC {P : Program} {ops : Array Oper} {Q : Exit → Act → World → Prop} {rest : List Oper} {oi : Oper} {a : Act} {w : World} (N : Option Tmp) (hd : oi.dst = N) (hg : oi.guard = none) {f : FuncId} {caps : Array Value} {x : Operand} {fn : Func} {xs_ : Array Operand} {ts : Array TypeId} (hf : P.funcs[f]? = some fn) (hname : (fn.name == "runtime.NumGoroutine") = false) (hb : fn.body.isSome = true) (args : Array Value)
   (hop : oi.op = .call { callee := .value x, args := xs_, argTypes := ts }) (hx : a.eval x = .func (.func f) #[] caps) (hargs : xs_.map a.eval = args)
   (h : Calls P f (args ++ caps) w fun e w' => ∃ v, e = .returned v ∧ wpList P ops Q rest (a.put N v) w') : wpList P ops Q (oi :: rest) a w := by
  refine wpList_plain hg fun K hK => ?_
  have he := enters_ hf hname hb (args ++ caps) w
  have hrun : (execOp a.eval oi).run P w = .ok (.enter f (args ++ caps)) w := by
   unfold execOp
   simp [hop, resolve, Deferred.ofValue, invoke, hx, hargs, he]
  unfold Oper.wp
  rw [hrun, Oper.upon_enter]
  refine h.mono fun e w'' hh => ?_
  obtain ⟨v, rfl, hk⟩ := hh
  subst hd
  exact hK _ _ hk
theorem tm_gateC {P : Program} {ops : Array Oper} {Q : Exit → Act → World → Prop} {rest : List Oper} {o : Oper} {a : Act} {W : World} {x : Operand} {xs_ : Array Operand} {ts : Array TypeId} (_ho : o.op = .call { callee := .value x, args := xs_, argTypes := ts }) (h : wpList P ops Q (o :: rest) a W) : wpList P ops Q (o :: rest) a W := h
set_option maxHeartbeats 4000000 in
set_option maxRecDepth 100000 in
theorem tm_find.calls (q : Int → Bool) (g : Nat) (fn : Func) (lb : Array Value) (hf : Try.prog.funcs[g]? = some fn) (hname : (fn.name == "runtime.NumGoroutine") = false) (hbo : fn.body.isSome = true) (A : Option Addr) (c : Nat) (l : List Int) (w : World) (hr : Kd.C (Kd.int .i64) w A l.length l) (hlen : l.length ≤ 1000000)
   (hst : ∀ (x : Int) (W : World), Below w.heap.size w W → Calls Try.prog g (#[.int .i64 x] ++ lb) W fun e W' => e = .returned (.bool (q x)) ∧ Below W.heap.size W W') :
   Calls Try.prog 77 #[.slice A l.length c, .func (.func g) #[] lb] w fun e w' => (∃ i : Int, e = .returned (.int .i64 i) ∧ decide (0 ≤ i) = l.any q) ∧ Below w.heap.size w w' := by
  have HR := ak_ hr
  have HF := ak_ hf
  have HN := ak_ hname
  have HBO := ak_ hbo
  have HST := ak_ hst
  clear hr hf hname hbo hst
  go_enter func77, ntmps77
  go_wp2
  go_loopw [8] (fun i wr => ∃ k : Nat, i = .int .i64 k ∧ Aside0 (k ≤ l.length) ∧ Aside0 ((l.drop k).any q = l.any q) ∧ Aside0 (Below w.heap.size w wr)) (fun i _ => l.length - (intOf i).toNat)
  case atStart => exact ⟨0, rfl, ⟨Nat.zero_le _⟩, ⟨rfl⟩, ⟨Below.refl _ _⟩⟩
  case round =>
   obtain ⟨k, rfl, HK, HA, HB⟩ := hrel
   by_cases hlt : k < l.length
   ·obtain ⟨ad, e1, hx0⟩ := Kd.at_int (Kd.C_below HR.out HB.out) (k : Int) (by omega) (by omega)
    cases e1
    rw [Int.toNat_natCast] at hx0
    have hg : rd l (k : Int) = l[k] := by
     simp [rd, hlt]
    rw [hg] at hx0
    have hd : l.drop k = l[k] :: l.drop (k + 1) := List.drop_eq_getElem_cons hlt
    have HA2 := HA.out
    rw [hd, List.any_cons] at HA2
    clear hg hd HA
    generalize l[k] = x at *
    have HD := ak_ HA2
    clear HA2
    have hkd : decide ((k : Int) < (l.length : Int)) = true := decide_eq_true (by omega)
    have hq := ak_ (Eq.refl (q x))
    generalize hqq : q x = b at hq HD
    cases b with
    | true =>
     go_wp2_with ((with_reducible refine tm_gateC (x := .tmp 11) (xs_ := #[.tmp 15]) rfl ?_); refine tm_goesC (some 16) rfl rfl HF.out HN.out HBO.out #[.int .i64 x] rfl rfl (by (try simp only [map_toArray, map_cons, map_nil]); first | done | rfl) ?_; refine (HST.out x _ HB.out).mono ?_; rw [hqq]; rintro e w5 ⟨rfl, hb⟩; refine ⟨_, rfl, ?_⟩; have HB5 := ak_ (bt_ HB.out hb); clear hb)
     go_ret
     have h9 := HD.out
     rw [Bool.true_or] at h9
     exact ⟨⟨_, rfl, by rw [← h9]; exact decide_eq_true (by omega)⟩, HB5.out⟩
    | false =>
     go_wp2_with ((with_reducible refine tm_gateC (x := .tmp 11) (xs_ := #[.tmp 15]) rfl ?_); refine tm_goesC (some 16) rfl rfl HF.out HN.out HBO.out #[.int .i64 x] rfl rfl (by (try simp only [map_toArray, map_cons, map_nil]); first | done | rfl) ?_; refine (HST.out x _ HB.out).mono ?_; rw [hqq]; rintro e w5 ⟨rfl, hb⟩; refine ⟨_, rfl, ?_⟩; have HB5 := ak_ (bt_ HB.out hb); clear hb)
     go_roundw
     case rel => exact ⟨k + 1, by go_num, ⟨by omega⟩, ⟨by have := HD.out; rw [Bool.false_or] at this; exact this⟩, HB5⟩
     case measure => simp [intOf]; omega
   ·have hkl : k = l.length := by have := HK.out; omega
    subst hkl
    have hkd : decide ((l.length : Int) < (l.length : Int)) = false := decide_eq_false (by omega)
    have HA2 := HA.out
    rw [List.drop_length, List.any_nil] at HA2
    have HA3 := ak_ HA2
    clear HA2
    go_wp2
    go_ret
    exact ⟨⟨_, rfl, by rw [← HA3.out]; rfl⟩, HB.out⟩
set_option maxHeartbeats 4000000 in
set_option maxRecDepth 100000 in
theorem tm_contains.calls (q : Int → Bool) (g : Nat) (fn : Func) (lb : Array Value) (hf : Try.prog.funcs[g]? = some fn) (hname : (fn.name == "runtime.NumGoroutine") = false) (hbo : fn.body.isSome = true) (A : Option Addr) (c : Nat) (l : List Int) (w : World) (hr : Kd.C (Kd.int .i64) w A l.length l) (hlen : l.length ≤ 1000000)
   (hst : ∀ (x : Int) (W : World), Below w.heap.size w W → Calls Try.prog g (#[.int .i64 x] ++ lb) W fun e W' => e = .returned (.bool (q x)) ∧ Below W.heap.size W W') :
   Calls Try.prog 46 #[.slice A l.length c, .func (.func g) #[] lb] w fun e w' => e = .returned (.bool (l.any q)) ∧ Below w.heap.size w w' := by
  have K := ak_ (tm_find.calls q g fn lb hf hname hbo A c l w hr hlen hst)
  clear hr hf hname hbo hst
  go_enter func46, ntmps46
  go_wp2_with ((with_reducible refine gate_callee (f := 77) rfl ?_); refine gl_ (some 7) func77 #[.slice A l.length c, .func (.func g) #[] lb] ?_; refine (K.out).mono ?_; rintro e w5 ⟨⟨i, rfl, hi⟩, hb⟩; refine ⟨_, rfl, ?_⟩; have HI := ak_ hi; have HB5 := ak_ hb; clear hi hb)
  go_ret
  exact ⟨by rw [← HI.out]; rfl, HB5.out⟩
def tm_out (i : Int) (p : Int) : Bool := decide (p < 0) || decide (p ≥ i)
set_option maxHeartbeats 4000000 in
set_option maxRecDepth 100000 in
theorem tm_closure (i x : Int) (gi : Nat) (W : World) (hc : W.cell? ⟨gi, 0, none⟩ = some (.int .i64 i)) : Calls Try.prog 104 #[.int .i64 x, .pointer (some ⟨gi, 0, none⟩)] W fun e W' => e = .returned (.bool (tm_out i x)) ∧ Below W.heap.size W W' := by
  unfold tm_out
  by_cases c : x < 0
  ·have cb : decide (x < 0) = true := decide_eq_true c
   rw [cb, Bool.true_or]
   clear c
   go_enter func104, ntmps104
   go_wp2
   go_ret
   exact ⟨rfl, by repeat (first | exact Below.refl _ _ | apply bn_ | apply bd_)⟩
  ·have cb : decide (x < 0) = false := decide_eq_false c
   rw [cb, Bool.false_or]
   clear c
   go_enter func104, ntmps104
   go_wp2
   go_ret
   exact ⟨rfl, by repeat (first | exact Below.refl _ _ | apply bn_ | apply bd_)⟩
def tparts (t : S45) : List Int := if t.f0 = 2 ∨ t.f0 = 3 ∨ t.f0 = 4 then [t.f1] else if t.f0 = 5 then [t.f1, t.f2] else []
theorem tparts_eq (t : S45) : term_parts.f 1 t.f0 t.f1 t.f2 = some (tparts t) := by
  unfold term_parts.f tparts
  simp only [term_parts.j0]
  by_cases h2 : t.f0 = 2
  ·simp [h2]
  by_cases h3 : t.f0 = 3
  ·simp [h3]
  by_cases h4 : t.f0 = 4
  ·simp [h4]
  by_cases h5 : t.f0 = 5
  ·simp [h5]
  ·simp [h2, h3, h4, h5]
def tmay (t : S45) (i : Int) : Bool := if t.f0 < 1 ∨ t.f0 > 5 ∨ (t.f0 ≠ 5 ∧ t.f2 ≠ 0) then false else if t.f0 = 1 then decide (t.f1 ≥ 0 ∧ t.f1 ≤ 1048576) else !(tparts t).any (tm_out i)
def term_may.f (a0_0 : Int) (a0_1 : Int) (a0_2 : Int) (a1 : Int) : Option Bool := some (tmay ⟨a0_0, a0_1, a0_2⟩ a1)
set_option maxHeartbeats 8000000 in
set_option maxRecDepth 100000 in
theorem tm_may.calls (t : S45) (i : Int) (w : World) :
   Calls Try.prog 82 #[.agg #[.int .i64 t.f0, .int .i64 t.f1, .int .i64 t.f2], .int .i64 i] w fun e w' => e = .returned (.bool (tmay t i)) ∧ Below w.heap.size w w' := by
  have hu_t := underlying45
  have HB := ak_ (Below.refl w.heap.size w)
  have KP := ak_ (tparts_eq t)
  have hmf : ∀ W : World, ∀ p : Value, (Instr.makeFunc (.func 104) #[] #[p]).run Try.prog W = .ok (.func (.func 104) #[] #[p]) W := fun W p => rfl
  go_enter func82, ntmps82
  go_wp2_with (first | ((with_reducible refine gate_dst (N := 2) rfl ?_); refine bx_ 2 #[.int .i64 t.f0, .int .i64 t.f1, .int .i64 t.f2] 45 ?_; intro g1 hgs w1 hbox hb; replace HB := ak_ (bt_ HB.out hb); clear hb hgs; have B1 := ak_ hbox; clear hbox) | ((with_reducible refine gate_dst (N := 3) rfl ?_); refine bx_ 3 #[.int .i64 i] 3 ?_; intro g2 hgs w2 hbox hb; replace HB := ak_ (bt_ HB.out hb); replace B1 := ak_ (kb_ B1.out hb); clear hb hgs; have B2 := ak_ hbox; clear hbox; have hz0 : w2.cell? ⟨g1, 0, none⟩ = some (.int .i64 t.f0) := (kc_ B1.out 0).trans rfl; have hz1 : w2.cell? ⟨g1, 1, none⟩ = some (.int .i64 t.f1) := (kc_ B1.out 1).trans rfl; have hz2 : w2.cell? ⟨g1, 2, none⟩ = some (.int .i64 t.f2) := (kc_ B1.out 2).trans rfl) | (go_at_call 103; refine (term_parts.calls 1 _ _ _ (tparts t) _ (by first | exact KP.out | (rw [show (5 : Int) = t.f0 by omega]; exact KP.out))).mono ?_; rintro r w3 ⟨vp, rfl, ho, hb⟩; obtain ⟨Ap, cp, ep⟩ := Kd.R_slice ho; subst ep; replace HB := ak_ (bt_ HB.out hb); replace B2 := ak_ (kb_ B2.out hb); clear B1 hb hz0 hz1 hz2; have HO := ak_ (Kd.R_reads' ho).2.2; clear ho) | (go_at_call 46; refine (tm_contains.calls (tm_out i) 104 _ #[.pointer (some ⟨g2, 0, none⟩)] func104 (by kernel_rfl) (by kernel_rfl) Ap cp (tparts t) _ HO.out (by unfold tparts; split <;> (try split) <;> simp) (fun x W hW => tm_closure i x g2 W ((kc_ (kb_ B2.out hW) 0).trans rfl))).mono ?_; rintro r w4 ⟨rfl, hb⟩; replace HB := ak_ (bt_ HB.out hb); clear B2 HO hb))
  all_goals go_ret
  all_goals refine ⟨?_, HB.out⟩
  all_goals try simp only [bne_iff_ne, ne_eq, beq_iff_eq, Bool.not_eq_true, beq_eq_false_iff_ne, bne_eq_false_iff_eq, not_or, not_and, Decidable.not_not] at *
  all_goals first
   | exact congrArg (fun b => Ending.returned (Value.bool b)) (show false = tmay t i by unfold tmay; exact (if_pos (by omega)).symm)
   | exact congrArg (fun b => Ending.returned (Value.bool b)) (show (!(tparts t).any (tm_out i)) = tmay t i by unfold tmay; rw [if_neg (show ¬ (t.f0 < 1 ∨ t.f0 > 5 ∨ (t.f0 ≠ 5 ∧ t.f2 ≠ 0)) by omega), if_neg (show ¬ t.f0 = 1 by omega)])
   | exact congrArg (fun b => Ending.returned (Value.bool b)) (show false = tmay t i by unfold tmay; rw [if_neg (show ¬ (t.f0 < 1 ∨ t.f0 > 5 ∨ (t.f0 ≠ 5 ∧ t.f2 ≠ 0)) by omega), if_pos (show t.f0 = 1 by omega)]; symm; rw [decide_eq_false_iff_not]; omega)
   | exact congrArg (fun b => Ending.returned (Value.bool b)) (show decide (t.f1 ≤ 1048576) = tmay t i by unfold tmay; rw [if_neg (show ¬ (t.f0 < 1 ∨ t.f0 > 5 ∨ (t.f0 ≠ 5 ∧ t.f2 ≠ 0)) by omega), if_pos (show t.f0 = 1 by omega)]; rw [decide_eq_decide]; omega)
theorem term_may.calls (a0_0 : Int) (a0_1 : Int) (a0_2 : Int) (a1 : Int) (r : Bool) (w : World) (h : term_may.f a0_0 a0_1 a0_2 a1 = some r) :
   Calls Try.prog 82 #[.agg #[.int .i64 a0_0, .int .i64 a0_1, .int .i64 a0_2], .int .i64 a1] w fun e w' => e = .returned (.bool r) ∧ Below w.heap.size w w' := by
  obtain rfl := Option.some.inj h
  exact tm_may.calls ⟨a0_0, a0_1, a0_2⟩ a1 w
instance tm_dec : DecidableEq S45 := fun a b => if h : a.f0 = b.f0 ∧ a.f1 = b.f1 ∧ a.f2 = b.f2 then isTrue (by cases a; cases b; simp_all) else isFalse (fun e => h (by rw [e]; exact ⟨rfl, rfl, rfl⟩))
section
open Go.Maps
theorem tm_law : Keyed Try.prog 45 := Keyed.of_law (deep_law_laid (P := Try.prog) (by kernel_rfl) (m := 3) (by omega) (od_ (by kernel_rfl)) (by kernel_rfl) (by rw [underlying45]))
theorem tm_zero (w : World) : (zeroValue 3).run Try.prog w = .ok (.int .i64 0) w := by kernel_rfl
def TmWf (s : S45) : Prop := (Lit.int .i64 s.f0).wf = true ∧ (Lit.int .i64 s.f1).wf = true ∧ (Lit.int .i64 s.f2).wf = true
instance (s : S45) : Decidable (TmWf s) := inferInstanceAs (Decidable (_ ∧ _))
def tm_lit (s : S45) : Lit := .string (keyBytes [.int .i64 s.f0, .int .i64 s.f1, .int .i64 s.f2])
theorem tm_key {s : S45} (h : TmWf s) : keyOf Try.prog 45 (.agg #[.int .i64 s.f0, .int .i64 s.f1, .int .i64 s.f2]) = some (tm_lit s) := by
  have hk : Try.prog.keyType 45 = true := by kernel_rfl
  have hf : (Value.agg #[.int .i64 s.f0, .int .i64 s.f1, .int .i64 s.f2]).formed Try.prog 45 = true := by
   have hc : Try.prog.cellsOf 45 = 3 := by kernel_rfl
   simp [Value.formed, underlying45, hc]
  have hl : Try.prog.keyLits (Try.prog.types.size + 1) 45 [.int .i64 s.f0, .int .i64 s.f1, .int .i64 s.f2] = some [.int .i64 s.f0, .int .i64 s.f1, .int .i64 s.f2] := by
   obtain ⟨n, hn⟩ : ∃ n, Try.prog.types.size = n + 1 := ⟨Try.prog.types.size - 1, by have : 45 < Try.prog.types.size := od_ (by kernel_rfl); omega⟩
   have hc : Try.prog.cellsOf 45 = 3 := by kernel_rfl
   have hc2 : Try.prog.cellsOf 3 = 1 := by kernel_rfl
   rw [hn]
   simp [Program.keyLits, underlying45, underlying3, hc, hc2, h.1, h.2.1, h.2.2]
  unfold keyOf
  rw [underlying45]
  simp only [hk, hf, Bool.and_true, if_true]
  show ((Try.prog.keyLits (Try.prog.types.size + 1) 45 [.int .i64 s.f0, .int .i64 s.f1, .int .i64 s.f2]).map fun ls => Lit.string (keyBytes ls)) = _
  rw [hl]; rfl
theorem tm_inj {s t : S45} (hs : TmWf s) (ht : TmWf t) (e : tm_lit s = tm_lit t) : s = t := by
  have := tm_law.inj (tm_key hs) (by rw [e]; exact tm_key ht)
  simp at this
  cases s; cases t; simp_all
def TmIs (w : World) (g n : Nat) (m : S45 → Option Int) : Prop := ∃ D : DataW Unit, w.ownsMap Try.prog 45 (plainElem Try.prog 3) g n D ∧ ∀ s, TmWf s → ∀ z, D.atKey (tm_lit s) z = match m s with | none => z | some c => .lit (.int .i64 c)
theorem TmIs.made (w : World) : TmIs (w.alloc (.map #[] 0)) w.heap.size 0 (fun _ => none) := ⟨.map [], World.ownsMap_made _ _ _ _, fun s _ z => by simp [DataW.atKey]⟩
theorem TmIs.move {w w' : World} {g n : Nat} {m : S45 → Option Int} (h : TmIs w g n m) (e : ∀ o, w.heap[g]? = some o → w'.heap[g]? = some o) : TmIs w' g n m := by
  obtain ⟨D, ⟨es, clock, hb, r⟩, hD⟩ := h
  exact ⟨D, ⟨es, clock, e _ hb, r⟩, hD⟩
theorem TmIs.lt {w : World} {g n : Nat} {m : S45 → Option Int} (h : TmIs w g n m) : g < w.heap.size := by
  obtain ⟨D, h, _⟩ := h; exact h.lt
theorem TmIs.below {w w' : World} {g n : Nat} {m : S45 → Option Int} (h : TmIs w g n m) (hb : Below w.heap.size w w') : TmIs w' g n m := h.move fun o ho => kb_ ho hb
theorem TmIs.run {w : World} {g n : Nat} {m : S45 → Option Int} (h : TmIs w g n m) {s : S45} (hs : TmWf s) : (Instr.lookup 99 (.map (some g)) (.agg #[.int .i64 s.f0, .int .i64 s.f1, .int .i64 s.f2]) true).run Try.prog w = .ok (.tuple #[.int .i64 ((m s).getD 0), .bool (m s).isSome]) w := by
  obtain ⟨D, hown, hD⟩ := h
  obtain ⟨v, ps, hrun, hv⟩ := hown.look_ok tm_law underlying99 (tm_zero _) (plainElem_int underlying3 (by decide)) (tm_key hs)
  obtain ⟨c, rfl, hc, hwc⟩ := plainElem_int_inv underlying3 hv
  have h1 := hD s hs
  have h2 := congrArg Prod.fst hc
  rw [h1] at h2
  rw [hrun]
  cases hm : m s with
  | none =>
   rw [hm] at h1 h2
   have : c = 0 := by simpa using h2.symm
   rw [Maps.has_false_of_atKey h1, this]; rfl
  | some d =>
   rw [hm] at h1 h2
   have : c = d := by simpa using h2.symm
   rw [Maps.has_true_of_atKey h1, this]; rfl
theorem TmIs.put {w : World} {g n : Nat} {m m' : S45 → Option Int} (h : TmIs w g n m) (hn : n < maxLen) {s : S45} (hs : TmWf s) {c : Int} (hc : (Lit.int .i64 c).wf = true) (h1 : m' s = some c) (h2 : ∀ t, t ≠ s → m' t = m t) :
   ∃ w', (Instr.mapUpdate 99 (.map (some g)) (.agg #[.int .i64 s.f0, .int .i64 s.f1, .int .i64 s.f2]) (.int .i64 c)).run Try.prog w = .ok () w' ∧ TmIs w' g (n + 1) m' ∧ w.mapTurned w' g := by
  obtain ⟨D, hown, hD⟩ := h
  obtain ⟨w', hrun, hown', ht⟩ := hown.store tm_law underlying99 hn (tm_key hs) (plainElem_int underlying3 hc)
  refine ⟨w', hrun, ⟨_, hown', fun t wt z => ?_⟩, ht⟩
  by_cases e : t = s
  ·subst e; rw [atKey_put_same hown.isMap (tm_law.key (tm_key hs)), h1]
  ·rw [atKey_put_other (fun z => e (tm_inj wt hs z)), hD t wt, h2 t e]
end
def tpos (l : List S45) (t : S45) : Option Int := if t ∈ l then some (l.idxOf t : Int) else none
def tokTo (l : List S45) (n : Nat) : Prop := ∀ i : Fin l.length, i.val < n → tmay l[i] (i.val : Int) = true ∧ l[i] ∉ l.take i.val
def tok (l : List S45) : Prop := l.length ≤ 65536 ∧ tokTo l l.length
instance (l : List S45) (n : Nat) : Decidable (tokTo l n) := inferInstanceAs (Decidable (∀ i : Fin l.length, _))
instance (l : List S45) : Decidable (tok l) := inferInstanceAs (Decidable (_ ∧ _))
theorem tokTo_succ {l : List S45} {t : Nat} (h : t < l.length) (k : tokTo l t) (h1 : tmay l[t] (t : Int) = true) (h2 : l[t] ∉ l.take t) : tokTo l (t + 1) := by
  intro i hi
  by_cases e : i.val = t
  ·obtain ⟨i, hl⟩ := i
   obtain rfl : i = t := e
   exact ⟨h1, h2⟩
  ·exact k i (by omega)
theorem tok_not {l : List S45} {t : Nat} (h : t < l.length) (k : ¬ (tmay l[t] (t : Int) = true ∧ l[t] ∉ l.take t)) : ¬ tok l := fun z => k (z.2 ⟨t, h⟩ h)
theorem tpos_self {l : List S45} {t : Nat} (h : t < l.length) (h2 : l[t] ∉ l.take t) : tpos (l.take (t + 1)) l[t] = some (t : Int) := by
  unfold tpos
  rw [List.take_succ_eq_append_getElem h, if_pos (by simp only [List.mem_append, List.mem_singleton, or_true]), List.idxOf_append, if_neg h2, List.length_take]
  simp only [List.idxOf_cons_self]
  congr 1; omega
theorem tpos_other {l : List S45} {t : Nat} (h : t < l.length) (s : S45) (hs : s ≠ l[t]) : tpos (l.take (t + 1)) s = tpos (l.take t) s := by
  unfold tpos
  rw [List.take_succ_eq_append_getElem h]
  by_cases c : s ∈ l.take t
  ·rw [if_pos (by simp only [List.mem_append, c, true_or]), if_pos c, List.idxOf_append, if_pos c]
  ·rw [if_neg (by simp only [List.mem_append, List.mem_singleton, c, hs, or_self, not_false_eq_true]), if_neg c]
theorem tm_makeMap {P : Program} {t k e : TypeId} (hu : P.underlying t = some (.map k e)) (n : Nat) (w : World) : (Instr.makeMap t (some (.int .i64 (n : Int)))).run P w = .ok (.map (some w.heap.size)) (w.alloc (.map #[] 0)) := by
  simp [Instr.makeMap, run_underlying hu, asInt, asIntOf, newObj]
  rfl
theorem tm_turned {B : Nat} {w0 w w' : World} {g : Nat} (h : Below B w0 w) (hg : B ≤ g) (ht : w.mapTurned w' g) : Below B w0 w' := h.trans ⟨ht.grown.os, ht.grown.tape, ht.grown.output, ht.grown.size, fun k hk => by
  obtain ⟨es, clock, es', clock', hb, rfl⟩ := ht
  exact Go.ChangeMaps.heap_setBlock_other hb _ (by omega)⟩
theorem tm_wf {t : Nat} (h : t ≤ 65536) : (Lit.int .i64 (t : Int)).wf = true := by
  have h0 : IntKind.i64.min = -9223372036854775808 := by decide
  have h1 : IntKind.i64.max = 9223372036854775807 := by decide
  simp [Lit.wf, h0, h1]
  omega
set_option maxHeartbeats 8000000 in
set_option maxRecDepth 100000 in
theorem tm_index (A : Option Addr) (c : Nat) (l : List S45) (w : World) (hr : Kd.C k45 w A l.length l) (hwf : ∀ t ∈ l, TmWf t) :
   Calls Try.prog 57 #[.slice A l.length c] w fun e w' => Below w.heap.size w w' ∧ ((tok l ∧ ∃ g n : Nat, e = .returned (.tuple #[.map (some g), .bool true]) ∧ TmIs w' g n (tpos l)) ∨ (¬ tok l ∧ e = .returned (.tuple #[.map none, .bool false]))) := by
  have hu_t := underlying45
  have HR := ak_ hr
  have HW := ak_ hwf
  clear hr hwf
  by_cases cl : (l.length : Int) > 65536
  ·have cb : decide ((l.length : Int) > 65536) = true := decide_eq_true cl
   have NT := ak_ (show ¬ tok l from fun z => by have := z.1; omega)
   clear cl
   go_enter func57, ntmps57
   go_wp2
   go_ret2
   exact ⟨by repeat (first | exact Below.refl _ _ | apply bn_ | apply bd_), .inr ⟨NT.out, rfl⟩⟩
  ·have cb : decide ((l.length : Int) > 65536) = false := decide_eq_false cl
   have LL := ak_ (show l.length ≤ 65536 by omega)
   clear cl
   have hmm := fun n w => tm_makeMap (P := Try.prog) underlying99 n w
   have HM0 := ak_ (TmIs.made w)
   go_enter func57, ntmps57
   go_wp2
   go_loopw [17] (fun i wr => ∃ t : Nat, i = .int .i64 t ∧ Aside0 (t ≤ l.length) ∧ Aside0 (TmIs wr w.heap.size t (tpos (l.take t))) ∧ Aside0 (tokTo l t) ∧ Aside0 (Below w.heap.size w wr)) (fun i _ => l.length - (intOf i).toNat)
   case atStart => exact ⟨0, rfl, ⟨Nat.zero_le _⟩, ⟨by rw [show tpos (l.take 0) = fun _ => none by funext s; simp [tpos]]; exact HM0.out⟩, ⟨fun _ h => absurd h (Nat.not_lt_zero _)⟩, ⟨(Below.refl _ _).alloc (Nat.le_refl _) _⟩⟩
   case round =>
    clear HM0
    obtain ⟨t, rfl, HT1, HM, HK, HB⟩ := hrel
    by_cases hlt : t < l.length
    ·obtain ⟨ad, e1, hx0, hx1, hx2⟩ := at_T45 (Kd.C_below HR.out HB.out) (t : Int) (by omega) (by omega)
     cases e1
     rw [Int.toNat_natCast] at hx0 hx1 hx2
     have hg : rd_T45 l (t : Int) = l[t] := by
      first | (unfold rd_T45; simp [hlt]; done) | (simp [rd_T45, rdOf, hlt]; done)
     rw [hg] at hx0 hx1 hx2
     have hs : TmWf l[t] := HW.out _ (List.getElem_mem hlt)
     have KS := ak_ (fun h1 h2 => tokTo_succ hlt HK.out h1 h2)
     have KN := ak_ (fun k => tok_not hlt k)
     have PS := ak_ (fun h2 => tpos_self hlt h2)
     have PO := ak_ (fun s hs => tpos_other hlt s hs)
     have hpos : (tpos (l.take t) l[t]).isSome = decide (l[t] ∈ l.take t) := by unfold tpos; split <;> simp_all
     clear hg HK
     generalize l[t] = s at *
     have hkd : decide ((t : Int) < (l.length : Int)) = true := decide_eq_true (by omega)
     have HM1 := HM.out.move (w' := wr.alloc (.cells #[.int .i64 s.f0, .int .i64 s.f1, .int .i64 s.f2] 45)) (fun o h => ka_ h _)
     have hl := HM1.run hs
     rw [hpos] at hl
     have HMA := ak_ HM1
     have HS := ak_ hs
     have HB1 := ak_ (HB.out.alloc HB.out.size (.cells #[.int .i64 s.f0, .int .i64 s.f1, .int .i64 s.f2] 45))
     clear HM HM1 hpos
     by_cases cm : s ∈ l.take t
     ·rw [decide_eq_true cm] at hl
      have NT := ak_ (KN.out (fun z => z.2 cm))
      clear cm KN KS PS PO hs
      go_wp2
      go_ret2
      exact ⟨HB1.out, .inr ⟨NT.out, rfl⟩⟩
     ·rw [decide_eq_false cm] at hl
      have CM := ak_ cm
      have HTL := ak_ (show t < maxLen by have := LL.out; unfold maxLen; omega)
      have HWT := ak_ (tm_wf (Nat.le_trans HT1.out LL.out))
      clear cm hs
      cases hmay : tmay s (t : Int) with
      | false =>
       have NT := ak_ (KN.out (fun z => by rw [hmay] at z; exact Bool.noConfusion z.1))
       have HMY := ak_ hmay
       clear KN KS PS PO hmay
       go_wp2_with (first | (go_at_call 82; refine (tm_may.calls s (t : Int) _).mono ?_; rw [HMY.out]; rintro e w5 ⟨rfl, hb⟩; have HB5 := ak_ (HB1.out.trans (hb.mono HB1.out.size)); clear hb))
       go_ret2
       exact ⟨HB5.out, .inr ⟨NT.out, rfl⟩⟩
      | true =>
       have HMY := ak_ hmay
       have HK1 := ak_ (KS.out hmay CM.out)
       clear KN KS hmay
       go_wp2_with (first | (go_at_call 82; refine (tm_may.calls s (t : Int) _).mono ?_; rw [HMY.out]; rintro e w5 ⟨rfl, hb⟩; have HB5 := ak_ (HB1.out.trans (hb.mono HB1.out.size)); have BS := kb_ (blk_new wr (.cells #[.int .i64 s.f0, .int .i64 s.f1, .int .i64 s.f2] 45)) hb; have hy0 : w5.cell? ⟨wr.heap.size, 0, none⟩ = some (.int .i64 s.f0) := (kc_ BS 0).trans rfl; have hy1 : w5.cell? ⟨wr.heap.size, 1, none⟩ = some (.int .i64 s.f1) := (kc_ BS 1).trans rfl; have hy2 : w5.cell? ⟨wr.heap.size, 2, none⟩ = some (.int .i64 s.f2) := (kc_ BS 2).trans rfl; obtain ⟨w6, hup, hm6, ht6⟩ := TmIs.put (m' := tpos (l.take (t + 1))) (HMA.out.below hb) HTL.out HS.out HWT.out (PS.out CM.out) (fun x hx => PO.out x hx); have HM6 := ak_ hm6; have HB6 := ak_ (tm_turned HB5.out (Nat.le_refl _) ht6); clear hb BS hm6 ht6 hl))
       go_roundw
       case rel => have h9 := LL.out; exact ⟨t + 1, by rw [show wrap64 ((t : Int) + 1) = ((t + 1 : Nat) : Int) by unfold wrap64; omega], ⟨by omega⟩, HM6, HK1, HB6⟩
       case measure => have h9 := LL.out; rw [show wrap64 ((t : Int) + 1) = ((t + 1 : Nat) : Int) by unfold wrap64; omega]; simp [intOf]; omega
    ·have htl : t = l.length := by have := HT1.out; omega
     subst htl
     have hkd : decide ((l.length : Int) < (l.length : Int)) = false := decide_eq_false (by omega)
     have HM2 := HM.out
     rw [List.take_length] at HM2
     have HMF := ak_ HM2
     clear HM HM2 HT1
     go_wp2
     go_ret2
     exact ⟨HB.out, .inl ⟨⟨LL.out, HK.out⟩, _, _, rfl, HMF.out⟩⟩
theorem tm_index_ok (A : Option Addr) (c : Nat) (l : List S45) (w : World) (hr : Kd.C k45 w A l.length l) (hwf : ∀ t ∈ l, TmWf t) (hk : tok l) :
   Calls Try.prog 57 #[.slice A l.length c] w fun e w' => ∃ g n : Nat, e = .returned (.tuple #[.map (some g), .bool true]) ∧ TmIs w' g n (tpos l) ∧ Below w.heap.size w w' :=
  (tm_index A c l w hr hwf).mono fun e w' h => h.2.elim (fun ⟨_, g, n, he, hm⟩ => ⟨g, n, he, hm, h.1⟩) (fun z => absurd hk z.1)
theorem tm_index_no (A : Option Addr) (c : Nat) (l : List S45) (w : World) (hr : Kd.C k45 w A l.length l) (hwf : ∀ t ∈ l, TmWf t) (hk : ¬ tok l) :
   Calls Try.prog 57 #[.slice A l.length c] w fun e w' => e = .returned (.tuple #[.map none, .bool false]) ∧ Below w.heap.size w w' :=
  (tm_index A c l w hr hwf).mono fun e w' h => h.2.elim (fun z => absurd z.1 hk) (fun z => ⟨z.2, h.1⟩)
def term_Check.f (l0 : List S45) : Option Int := if ∀ t ∈ l0, TmWf t then some (if tok l0 then 0 else 1) else none
set_option maxHeartbeats 4000000 in
set_option maxRecDepth 100000 in
theorem term_Check.calls (A : Option Addr) (c : Nat) (l : List S45) (r : Int) (w : World) (hr0 : Kd.C k45 w A l.length l) (hc0 : l.length ≤ c) (h : term_Check.f l = some r) :
   Calls Try.prog 34 #[.slice A l.length c] w fun e w' => e = .returned (.int .i64 r) ∧ Below w.heap.size w w' := by
  unfold term_Check.f at h
  by_cases hw : ∀ t ∈ l, TmWf t
  ·rw [if_pos hw] at h
   have HR := ak_ hr0
   have HW := ak_ hw
   have HB := ak_ (Below.refl w.heap.size w)
   clear hr0 hw hc0
   by_cases hk : tok l
   ·rw [if_pos hk] at h
    obtain rfl := Option.some.inj h
    have HK := ak_ hk
    clear h hk
    go_enter func34, ntmps34
    go_wp2_with (first | (go_at_call 57; refine (tm_index_ok A c l _ HR.out HW.out HK.out).mono ?_; rintro e w1 ⟨g, n, rfl, hm, hb⟩; have m_ := ak_ (bt_ HB.out hb); clear HB hm; have HB := m_; clear m_ hb))
    go_ret
    exact ⟨rfl, HB.out⟩
   ·rw [if_neg hk] at h
    obtain rfl := Option.some.inj h
    have HK := ak_ hk
    clear h hk
    go_enter func34, ntmps34
    go_wp2_with (first | (go_at_call 57; refine (tm_index_no A c l _ HR.out HW.out HK.out).mono ?_; rintro e w1 ⟨rfl, hb⟩; have m_ := ak_ (bt_ HB.out hb); clear HB; have HB := m_; clear m_ hb))
    go_ret
    exact ⟨rfl, HB.out⟩
  ·rw [if_neg hw] at h
   exact absurd h (by simp)
end Go.Proofs.Ytkleiaeihihjnaa.MP
