-- written by a program of this session (wip/tools/mprint.sh) for this seat
import Derived.Test.YtoljdfgkkkpnbaaMPx0
namespace Go.Proofs.Ytoljdfgkkkpnbaa.MP
open Go.RowKit Go.Proofs.YtoljdfgkkkpnbaaW.PrintWords Go.Proofs.YtoljdfgkkkpnbaaW.PrintLast Go.Proofs.YtoljdfgkkkpnbaaW.PrintMore
open Option (bind_eq_some_iff some.injEq)
open _root_.Go.Proofs.Try
open List (setIfInBounds_toArray set_cons_zero set_cons_succ map_toArray map_cons map_nil length_drop length_take)
attribute [local go_sem] max2_int min2_int max_two min_two max_three min_three max_four min_four
set_option linter.unusedVariables false
set_option linter.unusedSimpArgs false
def node_high.f (a0 : Int) : Option (Bool) := if a0 ≥ 1 then (some (decide (a0 ≤ 32))) else (some false)
set_option maxHeartbeats 8000000 in
set_option maxRecDepth 100000 in
theorem node_high.calls (a0 : Int) (r : Bool) (w : World) (h : node_high.f a0 = some r) :
   Calls Try.prog 94 #[.int .i64 a0] w fun e w' => e = .returned (.bool r) ∧ Drawn0 w w' := by
  have H : (if a0 ≥ 1 then (some (decide (a0 ≤ 32))) else (some false)) = some r := h
  clear h
  by_cases c2 : a0 ≥ 1
  ·rw [if_pos c2] at H
   have c2b0 : decide (1 ≤ a0) = true := decide_eq_true c2
   clear c2
   obtain rfl := Option.some.inj H
   go_enter func94, ntmps94
   go_wp2
   go_ret
   exact ⟨by first | rfl | (simp; done) | (simp [*]; done), by repeat (first | exact Drawn0.refl _ | apply Drawn0.step)⟩
  ·rw [if_neg c2] at H
   have c2b0 : decide (1 ≤ a0) = false := decide_eq_false c2
   clear c2
   obtain rfl := Option.some.inj H
   go_enter func94, ntmps94
   go_wp2
   go_ret
   exact ⟨by first | rfl | (simp; done) | (simp [*]; done), by repeat (first | exact Drawn0.refl _ | apply Drawn0.step)⟩
def bits_Len64.j0 : Nat → Int → Int → Option (Int)
  | 0, _, _ => none
  | k + 1, x0, x2 => if x0 ≥ 65536 then (if (x0 / 65536) ≥ 256 then (if 0 ≤ (((x0 / 65536) / 256) % 256) then (if (((x0 / 65536) / 256) % 256) < 256 then (some (wrap64 ((wrap64 ((wrap64 (x2 + 16)) + 8)) + (wrap64 (bt (⟨#[0, 1, 2, 2, 3, 3, 3, 3, 4, 4, 4, 4, 4, 4, 4, 4, 5, 5, 5, 5, 5, 5, 5, 5, 5, 5, 5, 5, 5, 5, 5, 5, 6, 6, 6, 6, 6, 6, 6, 6, 6, 6, 6, 6, 6, 6, 6, 6, 6, 6, 6, 6, 6, 6, 6, 6, 6, 6, 6, 6, 6, 6, 6, 6, 7, 7, 7, 7, 7, 7, 7, 7, 7, 7, 7, 7, 7, 7, 7, 7, 7, 7, 7, 7, 7, 7, 7, 7, 7, 7, 7, 7, 7, 7, 7, 7, 7, 7, 7, 7, 7, 7, 7, 7, 7, 7, 7, 7, 7, 7, 7, 7, 7, 7, 7, 7, 7, 7, 7, 7, 7, 7, 7, 7, 7, 7, 7, 7, 8, 8, 8, 8, 8, 8, 8, 8, 8, 8, 8, 8, 8, 8, 8, 8, 8, 8, 8, 8, 8, 8, 8, 8, 8, 8, 8, 8, 8, 8, 8, 8, 8, 8, 8, 8, 8, 8, 8, 8, 8, 8, 8, 8, 8, 8, 8, 8, 8, 8, 8, 8, 8, 8, 8, 8, 8, 8, 8, 8, 8, 8, 8, 8, 8, 8, 8, 8, 8, 8, 8, 8, 8, 8, 8, 8, 8, 8, 8, 8, 8, 8, 8, 8, 8, 8, 8, 8, 8, 8, 8, 8, 8, 8, 8, 8, 8, 8, 8, 8, 8, 8, 8, 8, 8, 8, 8, 8, 8, 8, 8, 8, 8, 8, 8, 8, 8, 8, 8, 8, 8, 8, 8, 8, 8, 8, 8, 8]⟩ : ByteArray) (((x0 / 65536) / 256) % 256)))))) else (none)) else (none)) else (if 0 ≤ ((x0 / 65536) % 256) then (if ((x0 / 65536) % 256) < 256 then (some (wrap64 ((wrap64 (x2 + 16)) + (wrap64 (bt (⟨#[0, 1, 2, 2, 3, 3, 3, 3, 4, 4, 4, 4, 4, 4, 4, 4, 5, 5, 5, 5, 5, 5, 5, 5, 5, 5, 5, 5, 5, 5, 5, 5, 6, 6, 6, 6, 6, 6, 6, 6, 6, 6, 6, 6, 6, 6, 6, 6, 6, 6, 6, 6, 6, 6, 6, 6, 6, 6, 6, 6, 6, 6, 6, 6, 7, 7, 7, 7, 7, 7, 7, 7, 7, 7, 7, 7, 7, 7, 7, 7, 7, 7, 7, 7, 7, 7, 7, 7, 7, 7, 7, 7, 7, 7, 7, 7, 7, 7, 7, 7, 7, 7, 7, 7, 7, 7, 7, 7, 7, 7, 7, 7, 7, 7, 7, 7, 7, 7, 7, 7, 7, 7, 7, 7, 7, 7, 7, 7, 8, 8, 8, 8, 8, 8, 8, 8, 8, 8, 8, 8, 8, 8, 8, 8, 8, 8, 8, 8, 8, 8, 8, 8, 8, 8, 8, 8, 8, 8, 8, 8, 8, 8, 8, 8, 8, 8, 8, 8, 8, 8, 8, 8, 8, 8, 8, 8, 8, 8, 8, 8, 8, 8, 8, 8, 8, 8, 8, 8, 8, 8, 8, 8, 8, 8, 8, 8, 8, 8, 8, 8, 8, 8, 8, 8, 8, 8, 8, 8, 8, 8, 8, 8, 8, 8, 8, 8, 8, 8, 8, 8, 8, 8, 8, 8, 8, 8, 8, 8, 8, 8, 8, 8, 8, 8, 8, 8, 8, 8, 8, 8, 8, 8, 8, 8, 8, 8, 8, 8, 8, 8, 8, 8, 8, 8, 8, 8]⟩ : ByteArray) ((x0 / 65536) % 256)))))) else (none)) else (none))) else (if x0 ≥ 256 then (if 0 ≤ ((x0 / 256) % 256) then (if ((x0 / 256) % 256) < 256 then (some (wrap64 ((wrap64 (x2 + 8)) + (wrap64 (bt (⟨#[0, 1, 2, 2, 3, 3, 3, 3, 4, 4, 4, 4, 4, 4, 4, 4, 5, 5, 5, 5, 5, 5, 5, 5, 5, 5, 5, 5, 5, 5, 5, 5, 6, 6, 6, 6, 6, 6, 6, 6, 6, 6, 6, 6, 6, 6, 6, 6, 6, 6, 6, 6, 6, 6, 6, 6, 6, 6, 6, 6, 6, 6, 6, 6, 7, 7, 7, 7, 7, 7, 7, 7, 7, 7, 7, 7, 7, 7, 7, 7, 7, 7, 7, 7, 7, 7, 7, 7, 7, 7, 7, 7, 7, 7, 7, 7, 7, 7, 7, 7, 7, 7, 7, 7, 7, 7, 7, 7, 7, 7, 7, 7, 7, 7, 7, 7, 7, 7, 7, 7, 7, 7, 7, 7, 7, 7, 7, 7, 8, 8, 8, 8, 8, 8, 8, 8, 8, 8, 8, 8, 8, 8, 8, 8, 8, 8, 8, 8, 8, 8, 8, 8, 8, 8, 8, 8, 8, 8, 8, 8, 8, 8, 8, 8, 8, 8, 8, 8, 8, 8, 8, 8, 8, 8, 8, 8, 8, 8, 8, 8, 8, 8, 8, 8, 8, 8, 8, 8, 8, 8, 8, 8, 8, 8, 8, 8, 8, 8, 8, 8, 8, 8, 8, 8, 8, 8, 8, 8, 8, 8, 8, 8, 8, 8, 8, 8, 8, 8, 8, 8, 8, 8, 8, 8, 8, 8, 8, 8, 8, 8, 8, 8, 8, 8, 8, 8, 8, 8, 8, 8, 8, 8, 8, 8, 8, 8, 8, 8, 8, 8, 8, 8, 8, 8, 8, 8]⟩ : ByteArray) ((x0 / 256) % 256)))))) else (none)) else (none)) else (if 0 ≤ ((x0) % 256) then (if ((x0) % 256) < 256 then (some (wrap64 (x2 + (wrap64 (bt (⟨#[0, 1, 2, 2, 3, 3, 3, 3, 4, 4, 4, 4, 4, 4, 4, 4, 5, 5, 5, 5, 5, 5, 5, 5, 5, 5, 5, 5, 5, 5, 5, 5, 6, 6, 6, 6, 6, 6, 6, 6, 6, 6, 6, 6, 6, 6, 6, 6, 6, 6, 6, 6, 6, 6, 6, 6, 6, 6, 6, 6, 6, 6, 6, 6, 7, 7, 7, 7, 7, 7, 7, 7, 7, 7, 7, 7, 7, 7, 7, 7, 7, 7, 7, 7, 7, 7, 7, 7, 7, 7, 7, 7, 7, 7, 7, 7, 7, 7, 7, 7, 7, 7, 7, 7, 7, 7, 7, 7, 7, 7, 7, 7, 7, 7, 7, 7, 7, 7, 7, 7, 7, 7, 7, 7, 7, 7, 7, 7, 8, 8, 8, 8, 8, 8, 8, 8, 8, 8, 8, 8, 8, 8, 8, 8, 8, 8, 8, 8, 8, 8, 8, 8, 8, 8, 8, 8, 8, 8, 8, 8, 8, 8, 8, 8, 8, 8, 8, 8, 8, 8, 8, 8, 8, 8, 8, 8, 8, 8, 8, 8, 8, 8, 8, 8, 8, 8, 8, 8, 8, 8, 8, 8, 8, 8, 8, 8, 8, 8, 8, 8, 8, 8, 8, 8, 8, 8, 8, 8, 8, 8, 8, 8, 8, 8, 8, 8, 8, 8, 8, 8, 8, 8, 8, 8, 8, 8, 8, 8, 8, 8, 8, 8, 8, 8, 8, 8, 8, 8, 8, 8, 8, 8, 8, 8, 8, 8, 8, 8, 8, 8, 8, 8, 8, 8, 8, 8]⟩ : ByteArray) ((x0) % 256)))))) else (none)) else (none)))
def bits_Len64.f (k : Nat) (a0 : Int) : Option (Int) := if a0 ≥ 4294967296 then (bits_Len64.j0 k (a0 / 4294967296) 32) else (bits_Len64.j0 k a0 0)
theorem bits_Len64.mono_l : ∀ k, (∀ y0 y1, LeO (bits_Len64.j0 k y0 y1) (bits_Len64.j0 (k + 1) y0 y1))
  | 0 => fun _ _ r h => by simp [bits_Len64.j0] at h
  | k + 1 => by
   have ih0 := bits_Len64.mono_l k
   ·intro y0 y1
    unfold bits_Len64.j0
    repeat' first | (with_reducible first | exact ih0 .. | exact LeO.refl _ | exact LeO.none _ | refine LeO.ite ?_ ?_ | refine LeO.bind ?_ (fun _ => ?_)) | exact ih0 .. | refine LeO.ite ?_ ?_ | refine LeO.bind ?_ (fun _ => ?_)
theorem bits_Len64.mono : ∀ a0 k, LeO (bits_Len64.f k a0) (bits_Len64.f (k + 1) a0) := by
  intro a0 k
  have ih0 := bits_Len64.mono_l k
  unfold bits_Len64.f
  repeat' first | (with_reducible first | exact ih0 .. | exact LeO.refl _ | exact LeO.none _ | refine LeO.ite ?_ ?_ | refine LeO.bind ?_ (fun _ => ?_)) | exact ih0 .. | refine LeO.ite ?_ ?_ | refine LeO.bind ?_ (fun _ => ?_)
set_option maxHeartbeats 8000000 in
set_option maxRecDepth 100000 in
theorem bits_Len64.calls (k : Nat) (a0 : Int) (r : Int) (w : World) (h : bits_Len64.f k a0 = some r) :
   Calls Try.prog 135 #[.int .u64 a0] w fun e w' => e = .returned (.int .i64 r) ∧ Drawn0 w w' := by
  have H : (if a0 ≥ 4294967296 then (bits_Len64.j0 k (a0 / 4294967296) 32) else (bits_Len64.j0 k a0 0)) = some r := h
  clear h
  have HC2 := ak_ H
  clear H
  go_enter func135, ntmps135
  go_upto_if 4 with (fail)
  go_cut [0, 2] (fun v0 v2 wc => ∃ (kq : Nat) (x0_1 : Int) (x2_1 : Int), v0 = .int .u64 x0_1 ∧ v2 = .int .i64 x2_1 ∧ Aside0 (bits_Len64.j0 kq x0_1 x2_1 = some r) ∧ Aside0 (kq ≤ k) ∧ Drawn0 w wc)
  case first =>
   have H := HC2.out
   clear HC2
   by_cases c3 : a0 ≥ 4294967296
   ·rw [if_pos c3] at H
    have c3b0 : decide (4294967296 ≤ a0) = true := decide_eq_true c3
    clear c3
    (first | rw [c3b0] | (simp only [i64_w, i32_w]; rw [c3b0]) | skip)
    have H' := ak_ H
    clear H
    go_wp2
    go_meet
    case rel => exact ⟨_, (a0 / 4294967296), (32), rf_, rf_, H', ⟨by first | omega | exact Nat.le_refl _⟩, by repeat (first | exact Drawn0.refl _ | apply Drawn0.step)⟩
   ·rw [if_neg c3] at H
    have c3b0 : decide (4294967296 ≤ a0) = false := decide_eq_false c3
    clear c3
    (first | rw [c3b0] | (simp only [i64_w, i32_w]; rw [c3b0]) | skip)
    have H' := ak_ H
    clear H
    go_wp2
    go_meet
    case rel => exact ⟨_, (a0), (0), rf_, rf_, H', ⟨by first | omega | exact Nat.le_refl _⟩, by repeat (first | exact Drawn0.refl _ | apply Drawn0.step)⟩
  case rest =>
   clear HC2
   try clear c1
   try clear p2
   try clear c3
   try clear c3b0
   obtain ⟨kq, x0_1, x2_1, rfl, rfl, HA, HJ1, ⟨mc1, rfl⟩⟩ := hcut
   cases kq with
   | zero => exact absurd HA.out (by simp [bits_Len64.j0])
   | succ kj1 =>
    have H := HA.out
    clear HA
    simp only [bits_Len64.j0] at H
    by_cases c4 : x0_1 ≥ 65536
    ·rw [if_pos c4] at H
     have c4b0 : decide (65536 ≤ x0_1) = true := decide_eq_true c4
     clear c4
     by_cases c5 : (x0_1 / 65536) ≥ 256
     ·rw [if_pos c5] at H
      have c5b0 : decide (256 ≤ (x0_1 / 65536)) = true := decide_eq_true c5
      clear c5
      obtain ⟨ji6, hji6⟩ : ∃ j_ : Int, (((x0_1 / 65536) / 256) % 256) = j_ := ⟨_, rfl⟩
      replace H : (if 0 ≤ (ji6) then (if (ji6) < 256 then (some (wrap64 ((wrap64 ((wrap64 (x2_1 + 16)) + 8)) + (wrap64 (bt (⟨#[0, 1, 2, 2, 3, 3, 3, 3, 4, 4, 4, 4, 4, 4, 4, 4, 5, 5, 5, 5, 5, 5, 5, 5, 5, 5, 5, 5, 5, 5, 5, 5, 6, 6, 6, 6, 6, 6, 6, 6, 6, 6, 6, 6, 6, 6, 6, 6, 6, 6, 6, 6, 6, 6, 6, 6, 6, 6, 6, 6, 6, 6, 6, 6, 7, 7, 7, 7, 7, 7, 7, 7, 7, 7, 7, 7, 7, 7, 7, 7, 7, 7, 7, 7, 7, 7, 7, 7, 7, 7, 7, 7, 7, 7, 7, 7, 7, 7, 7, 7, 7, 7, 7, 7, 7, 7, 7, 7, 7, 7, 7, 7, 7, 7, 7, 7, 7, 7, 7, 7, 7, 7, 7, 7, 7, 7, 7, 7, 8, 8, 8, 8, 8, 8, 8, 8, 8, 8, 8, 8, 8, 8, 8, 8, 8, 8, 8, 8, 8, 8, 8, 8, 8, 8, 8, 8, 8, 8, 8, 8, 8, 8, 8, 8, 8, 8, 8, 8, 8, 8, 8, 8, 8, 8, 8, 8, 8, 8, 8, 8, 8, 8, 8, 8, 8, 8, 8, 8, 8, 8, 8, 8, 8, 8, 8, 8, 8, 8, 8, 8, 8, 8, 8, 8, 8, 8, 8, 8, 8, 8, 8, 8, 8, 8, 8, 8, 8, 8, 8, 8, 8, 8, 8, 8, 8, 8, 8, 8, 8, 8, 8, 8, 8, 8, 8, 8, 8, 8, 8, 8, 8, 8, 8, 8, 8, 8, 8, 8, 8, 8, 8, 8, 8, 8, 8, 8]⟩ : ByteArray) (ji6)))))) else (none)) else (none)) = some r := by first | (rw [hji6] at H; exact H) | (simp only [hji6] at H ⊢; exact H)
      by_cases c7 : 0 ≤ (ji6)
      ·rw [if_pos c7] at H
       have c7b0 := decide_eq_true c7
       clear c7
       by_cases c8 : (ji6) < 256
       ·rw [if_pos c8] at H
        have c8b0 := decide_eq_true c8
        clear c8
        obtain rfl := Option.some.inj H
        have p9 : 0 ≤ ((ji6) : Int) := od_ (by first | (with_reducible assumption) | assumption)
        have q9 : (ji6) < (256 : Int) := od_ (by first | (with_reducible assumption) | assumption)
        have hx9 := bt_at (⟨#[0, 1, 2, 2, 3, 3, 3, 3, 4, 4, 4, 4, 4, 4, 4, 4, 5, 5, 5, 5, 5, 5, 5, 5, 5, 5, 5, 5, 5, 5, 5, 5, 6, 6, 6, 6, 6, 6, 6, 6, 6, 6, 6, 6, 6, 6, 6, 6, 6, 6, 6, 6, 6, 6, 6, 6, 6, 6, 6, 6, 6, 6, 6, 6, 7, 7, 7, 7, 7, 7, 7, 7, 7, 7, 7, 7, 7, 7, 7, 7, 7, 7, 7, 7, 7, 7, 7, 7, 7, 7, 7, 7, 7, 7, 7, 7, 7, 7, 7, 7, 7, 7, 7, 7, 7, 7, 7, 7, 7, 7, 7, 7, 7, 7, 7, 7, 7, 7, 7, 7, 7, 7, 7, 7, 7, 7, 7, 7, 8, 8, 8, 8, 8, 8, 8, 8, 8, 8, 8, 8, 8, 8, 8, 8, 8, 8, 8, 8, 8, 8, 8, 8, 8, 8, 8, 8, 8, 8, 8, 8, 8, 8, 8, 8, 8, 8, 8, 8, 8, 8, 8, 8, 8, 8, 8, 8, 8, 8, 8, 8, 8, 8, 8, 8, 8, 8, 8, 8, 8, 8, 8, 8, 8, 8, 8, 8, 8, 8, 8, 8, 8, 8, 8, 8, 8, 8, 8, 8, 8, 8, 8, 8, 8, 8, 8, 8, 8, 8, 8, 8, 8, 8, 8, 8, 8, 8, 8, 8, 8, 8, 8, 8, 8, 8, 8, 8, 8, 8, 8, 8, 8, 8, 8, 8, 8, 8, 8, 8, 8, 8, 8, 8, 8, 8, 8, 8]⟩ : ByteArray) (ji6)
        replace p9 := eq_true p9
        replace q9 := eq_true q9
        go_wp2
        go_ret
        exact ⟨by first | rfl | (simp; done) | (simp only [← hji6] <;> (first | rfl | simp)) | (simp [*]; done), by repeat (first | exact Drawn0.refl _ | apply Drawn0.step)⟩
       ·rw [if_neg c8] at H
        exact absurd H (by simp)
      ·rw [if_neg c7] at H
       exact absurd H (by simp)
     ·rw [if_neg c5] at H
      have c5b0 : decide (256 ≤ (x0_1 / 65536)) = false := decide_eq_false c5
      clear c5
      obtain ⟨ji10, hji10⟩ : ∃ j_ : Int, ((x0_1 / 65536) % 256) = j_ := ⟨_, rfl⟩
      replace H : (if 0 ≤ (ji10) then (if (ji10) < 256 then (some (wrap64 ((wrap64 (x2_1 + 16)) + (wrap64 (bt (⟨#[0, 1, 2, 2, 3, 3, 3, 3, 4, 4, 4, 4, 4, 4, 4, 4, 5, 5, 5, 5, 5, 5, 5, 5, 5, 5, 5, 5, 5, 5, 5, 5, 6, 6, 6, 6, 6, 6, 6, 6, 6, 6, 6, 6, 6, 6, 6, 6, 6, 6, 6, 6, 6, 6, 6, 6, 6, 6, 6, 6, 6, 6, 6, 6, 7, 7, 7, 7, 7, 7, 7, 7, 7, 7, 7, 7, 7, 7, 7, 7, 7, 7, 7, 7, 7, 7, 7, 7, 7, 7, 7, 7, 7, 7, 7, 7, 7, 7, 7, 7, 7, 7, 7, 7, 7, 7, 7, 7, 7, 7, 7, 7, 7, 7, 7, 7, 7, 7, 7, 7, 7, 7, 7, 7, 7, 7, 7, 7, 8, 8, 8, 8, 8, 8, 8, 8, 8, 8, 8, 8, 8, 8, 8, 8, 8, 8, 8, 8, 8, 8, 8, 8, 8, 8, 8, 8, 8, 8, 8, 8, 8, 8, 8, 8, 8, 8, 8, 8, 8, 8, 8, 8, 8, 8, 8, 8, 8, 8, 8, 8, 8, 8, 8, 8, 8, 8, 8, 8, 8, 8, 8, 8, 8, 8, 8, 8, 8, 8, 8, 8, 8, 8, 8, 8, 8, 8, 8, 8, 8, 8, 8, 8, 8, 8, 8, 8, 8, 8, 8, 8, 8, 8, 8, 8, 8, 8, 8, 8, 8, 8, 8, 8, 8, 8, 8, 8, 8, 8, 8, 8, 8, 8, 8, 8, 8, 8, 8, 8, 8, 8, 8, 8, 8, 8, 8, 8]⟩ : ByteArray) (ji10)))))) else (none)) else (none)) = some r := by first | (rw [hji10] at H; exact H) | (simp only [hji10] at H ⊢; exact H)
      by_cases c11 : 0 ≤ (ji10)
      ·rw [if_pos c11] at H
       have c11b0 := decide_eq_true c11
       clear c11
       by_cases c12 : (ji10) < 256
       ·rw [if_pos c12] at H
        have c12b0 := decide_eq_true c12
        clear c12
        obtain rfl := Option.some.inj H
        have p13 : 0 ≤ ((ji10) : Int) := od_ (by first | (with_reducible assumption) | assumption)
        have q13 : (ji10) < (256 : Int) := od_ (by first | (with_reducible assumption) | assumption)
        have hx13 := bt_at (⟨#[0, 1, 2, 2, 3, 3, 3, 3, 4, 4, 4, 4, 4, 4, 4, 4, 5, 5, 5, 5, 5, 5, 5, 5, 5, 5, 5, 5, 5, 5, 5, 5, 6, 6, 6, 6, 6, 6, 6, 6, 6, 6, 6, 6, 6, 6, 6, 6, 6, 6, 6, 6, 6, 6, 6, 6, 6, 6, 6, 6, 6, 6, 6, 6, 7, 7, 7, 7, 7, 7, 7, 7, 7, 7, 7, 7, 7, 7, 7, 7, 7, 7, 7, 7, 7, 7, 7, 7, 7, 7, 7, 7, 7, 7, 7, 7, 7, 7, 7, 7, 7, 7, 7, 7, 7, 7, 7, 7, 7, 7, 7, 7, 7, 7, 7, 7, 7, 7, 7, 7, 7, 7, 7, 7, 7, 7, 7, 7, 8, 8, 8, 8, 8, 8, 8, 8, 8, 8, 8, 8, 8, 8, 8, 8, 8, 8, 8, 8, 8, 8, 8, 8, 8, 8, 8, 8, 8, 8, 8, 8, 8, 8, 8, 8, 8, 8, 8, 8, 8, 8, 8, 8, 8, 8, 8, 8, 8, 8, 8, 8, 8, 8, 8, 8, 8, 8, 8, 8, 8, 8, 8, 8, 8, 8, 8, 8, 8, 8, 8, 8, 8, 8, 8, 8, 8, 8, 8, 8, 8, 8, 8, 8, 8, 8, 8, 8, 8, 8, 8, 8, 8, 8, 8, 8, 8, 8, 8, 8, 8, 8, 8, 8, 8, 8, 8, 8, 8, 8, 8, 8, 8, 8, 8, 8, 8, 8, 8, 8, 8, 8, 8, 8, 8, 8, 8, 8]⟩ : ByteArray) (ji10)
        replace p13 := eq_true p13
        replace q13 := eq_true q13
        go_wp2
        go_ret
        exact ⟨by first | rfl | (simp; done) | (simp only [← hji10] <;> (first | rfl | simp)) | (simp [*]; done), by repeat (first | exact Drawn0.refl _ | apply Drawn0.step)⟩
       ·rw [if_neg c12] at H
        exact absurd H (by simp)
      ·rw [if_neg c11] at H
       exact absurd H (by simp)
    ·rw [if_neg c4] at H
     have c4b0 : decide (65536 ≤ x0_1) = false := decide_eq_false c4
     clear c4
     by_cases c14 : x0_1 ≥ 256
     ·rw [if_pos c14] at H
      have c14b0 : decide (256 ≤ x0_1) = true := decide_eq_true c14
      clear c14
      obtain ⟨ji15, hji15⟩ : ∃ j_ : Int, ((x0_1 / 256) % 256) = j_ := ⟨_, rfl⟩
      replace H : (if 0 ≤ (ji15) then (if (ji15) < 256 then (some (wrap64 ((wrap64 (x2_1 + 8)) + (wrap64 (bt (⟨#[0, 1, 2, 2, 3, 3, 3, 3, 4, 4, 4, 4, 4, 4, 4, 4, 5, 5, 5, 5, 5, 5, 5, 5, 5, 5, 5, 5, 5, 5, 5, 5, 6, 6, 6, 6, 6, 6, 6, 6, 6, 6, 6, 6, 6, 6, 6, 6, 6, 6, 6, 6, 6, 6, 6, 6, 6, 6, 6, 6, 6, 6, 6, 6, 7, 7, 7, 7, 7, 7, 7, 7, 7, 7, 7, 7, 7, 7, 7, 7, 7, 7, 7, 7, 7, 7, 7, 7, 7, 7, 7, 7, 7, 7, 7, 7, 7, 7, 7, 7, 7, 7, 7, 7, 7, 7, 7, 7, 7, 7, 7, 7, 7, 7, 7, 7, 7, 7, 7, 7, 7, 7, 7, 7, 7, 7, 7, 7, 8, 8, 8, 8, 8, 8, 8, 8, 8, 8, 8, 8, 8, 8, 8, 8, 8, 8, 8, 8, 8, 8, 8, 8, 8, 8, 8, 8, 8, 8, 8, 8, 8, 8, 8, 8, 8, 8, 8, 8, 8, 8, 8, 8, 8, 8, 8, 8, 8, 8, 8, 8, 8, 8, 8, 8, 8, 8, 8, 8, 8, 8, 8, 8, 8, 8, 8, 8, 8, 8, 8, 8, 8, 8, 8, 8, 8, 8, 8, 8, 8, 8, 8, 8, 8, 8, 8, 8, 8, 8, 8, 8, 8, 8, 8, 8, 8, 8, 8, 8, 8, 8, 8, 8, 8, 8, 8, 8, 8, 8, 8, 8, 8, 8, 8, 8, 8, 8, 8, 8, 8, 8, 8, 8, 8, 8, 8, 8]⟩ : ByteArray) (ji15)))))) else (none)) else (none)) = some r := by first | (rw [hji15] at H; exact H) | (simp only [hji15] at H ⊢; exact H)
      by_cases c16 : 0 ≤ (ji15)
      ·rw [if_pos c16] at H
       have c16b0 := decide_eq_true c16
       clear c16
       by_cases c17 : (ji15) < 256
       ·rw [if_pos c17] at H
        have c17b0 := decide_eq_true c17
        clear c17
        obtain rfl := Option.some.inj H
        have p18 : 0 ≤ ((ji15) : Int) := od_ (by first | (with_reducible assumption) | assumption)
        have q18 : (ji15) < (256 : Int) := od_ (by first | (with_reducible assumption) | assumption)
        have hx18 := bt_at (⟨#[0, 1, 2, 2, 3, 3, 3, 3, 4, 4, 4, 4, 4, 4, 4, 4, 5, 5, 5, 5, 5, 5, 5, 5, 5, 5, 5, 5, 5, 5, 5, 5, 6, 6, 6, 6, 6, 6, 6, 6, 6, 6, 6, 6, 6, 6, 6, 6, 6, 6, 6, 6, 6, 6, 6, 6, 6, 6, 6, 6, 6, 6, 6, 6, 7, 7, 7, 7, 7, 7, 7, 7, 7, 7, 7, 7, 7, 7, 7, 7, 7, 7, 7, 7, 7, 7, 7, 7, 7, 7, 7, 7, 7, 7, 7, 7, 7, 7, 7, 7, 7, 7, 7, 7, 7, 7, 7, 7, 7, 7, 7, 7, 7, 7, 7, 7, 7, 7, 7, 7, 7, 7, 7, 7, 7, 7, 7, 7, 8, 8, 8, 8, 8, 8, 8, 8, 8, 8, 8, 8, 8, 8, 8, 8, 8, 8, 8, 8, 8, 8, 8, 8, 8, 8, 8, 8, 8, 8, 8, 8, 8, 8, 8, 8, 8, 8, 8, 8, 8, 8, 8, 8, 8, 8, 8, 8, 8, 8, 8, 8, 8, 8, 8, 8, 8, 8, 8, 8, 8, 8, 8, 8, 8, 8, 8, 8, 8, 8, 8, 8, 8, 8, 8, 8, 8, 8, 8, 8, 8, 8, 8, 8, 8, 8, 8, 8, 8, 8, 8, 8, 8, 8, 8, 8, 8, 8, 8, 8, 8, 8, 8, 8, 8, 8, 8, 8, 8, 8, 8, 8, 8, 8, 8, 8, 8, 8, 8, 8, 8, 8, 8, 8, 8, 8, 8, 8]⟩ : ByteArray) (ji15)
        replace p18 := eq_true p18
        replace q18 := eq_true q18
        go_wp2
        go_ret
        exact ⟨by first | rfl | (simp; done) | (simp only [← hji15] <;> (first | rfl | simp)) | (simp [*]; done), by repeat (first | exact Drawn0.refl _ | apply Drawn0.step)⟩
       ·rw [if_neg c17] at H
        exact absurd H (by simp)
      ·rw [if_neg c16] at H
       exact absurd H (by simp)
     ·rw [if_neg c14] at H
      have c14b0 : decide (256 ≤ x0_1) = false := decide_eq_false c14
      clear c14
      obtain ⟨ji19, hji19⟩ : ∃ j_ : Int, ((x0_1) % 256) = j_ := ⟨_, rfl⟩
      replace H : (if 0 ≤ (ji19) then (if (ji19) < 256 then (some (wrap64 (x2_1 + (wrap64 (bt (⟨#[0, 1, 2, 2, 3, 3, 3, 3, 4, 4, 4, 4, 4, 4, 4, 4, 5, 5, 5, 5, 5, 5, 5, 5, 5, 5, 5, 5, 5, 5, 5, 5, 6, 6, 6, 6, 6, 6, 6, 6, 6, 6, 6, 6, 6, 6, 6, 6, 6, 6, 6, 6, 6, 6, 6, 6, 6, 6, 6, 6, 6, 6, 6, 6, 7, 7, 7, 7, 7, 7, 7, 7, 7, 7, 7, 7, 7, 7, 7, 7, 7, 7, 7, 7, 7, 7, 7, 7, 7, 7, 7, 7, 7, 7, 7, 7, 7, 7, 7, 7, 7, 7, 7, 7, 7, 7, 7, 7, 7, 7, 7, 7, 7, 7, 7, 7, 7, 7, 7, 7, 7, 7, 7, 7, 7, 7, 7, 7, 8, 8, 8, 8, 8, 8, 8, 8, 8, 8, 8, 8, 8, 8, 8, 8, 8, 8, 8, 8, 8, 8, 8, 8, 8, 8, 8, 8, 8, 8, 8, 8, 8, 8, 8, 8, 8, 8, 8, 8, 8, 8, 8, 8, 8, 8, 8, 8, 8, 8, 8, 8, 8, 8, 8, 8, 8, 8, 8, 8, 8, 8, 8, 8, 8, 8, 8, 8, 8, 8, 8, 8, 8, 8, 8, 8, 8, 8, 8, 8, 8, 8, 8, 8, 8, 8, 8, 8, 8, 8, 8, 8, 8, 8, 8, 8, 8, 8, 8, 8, 8, 8, 8, 8, 8, 8, 8, 8, 8, 8, 8, 8, 8, 8, 8, 8, 8, 8, 8, 8, 8, 8, 8, 8, 8, 8, 8, 8]⟩ : ByteArray) (ji19)))))) else (none)) else (none)) = some r := by first | (rw [hji19] at H; exact H) | (simp only [hji19] at H ⊢; exact H)
      by_cases c20 : 0 ≤ (ji19)
      ·rw [if_pos c20] at H
       have c20b0 := decide_eq_true c20
       clear c20
       by_cases c21 : (ji19) < 256
       ·rw [if_pos c21] at H
        have c21b0 := decide_eq_true c21
        clear c21
        obtain rfl := Option.some.inj H
        have p22 : 0 ≤ ((ji19) : Int) := od_ (by first | (with_reducible assumption) | assumption)
        have q22 : (ji19) < (256 : Int) := od_ (by first | (with_reducible assumption) | assumption)
        have hx22 := bt_at (⟨#[0, 1, 2, 2, 3, 3, 3, 3, 4, 4, 4, 4, 4, 4, 4, 4, 5, 5, 5, 5, 5, 5, 5, 5, 5, 5, 5, 5, 5, 5, 5, 5, 6, 6, 6, 6, 6, 6, 6, 6, 6, 6, 6, 6, 6, 6, 6, 6, 6, 6, 6, 6, 6, 6, 6, 6, 6, 6, 6, 6, 6, 6, 6, 6, 7, 7, 7, 7, 7, 7, 7, 7, 7, 7, 7, 7, 7, 7, 7, 7, 7, 7, 7, 7, 7, 7, 7, 7, 7, 7, 7, 7, 7, 7, 7, 7, 7, 7, 7, 7, 7, 7, 7, 7, 7, 7, 7, 7, 7, 7, 7, 7, 7, 7, 7, 7, 7, 7, 7, 7, 7, 7, 7, 7, 7, 7, 7, 7, 8, 8, 8, 8, 8, 8, 8, 8, 8, 8, 8, 8, 8, 8, 8, 8, 8, 8, 8, 8, 8, 8, 8, 8, 8, 8, 8, 8, 8, 8, 8, 8, 8, 8, 8, 8, 8, 8, 8, 8, 8, 8, 8, 8, 8, 8, 8, 8, 8, 8, 8, 8, 8, 8, 8, 8, 8, 8, 8, 8, 8, 8, 8, 8, 8, 8, 8, 8, 8, 8, 8, 8, 8, 8, 8, 8, 8, 8, 8, 8, 8, 8, 8, 8, 8, 8, 8, 8, 8, 8, 8, 8, 8, 8, 8, 8, 8, 8, 8, 8, 8, 8, 8, 8, 8, 8, 8, 8, 8, 8, 8, 8, 8, 8, 8, 8, 8, 8, 8, 8, 8, 8, 8, 8, 8, 8, 8, 8]⟩ : ByteArray) (ji19)
        replace p22 := eq_true p22
        replace q22 := eq_true q22
        go_wp2
        go_ret
        exact ⟨by first | rfl | (simp; done) | (simp only [← hji19] <;> (first | rfl | simp)) | (simp [*]; done), by repeat (first | exact Drawn0.refl _ | apply Drawn0.step)⟩
       ·rw [if_neg c21] at H
        exact absurd H (by simp)
      ·rw [if_neg c20] at H
       exact absurd H (by simp)
def node_depth.f (k : Nat) (a0 : Int) : Option (Int) := (bits_Len64.f k a0).bind fun t101 => (some (wrap64 (t101 - 1)))
theorem node_depth.mono : ∀ a0 k, LeO (node_depth.f k a0) (node_depth.f (k + 1) a0) := by
  intro a0 k
  unfold node_depth.f
  repeat' first | (with_reducible first | exact bits_Len64.mono .. | exact LeO.refl _ | exact LeO.none _ | refine LeO.ite ?_ ?_ | refine LeO.bind ?_ (fun _ => ?_)) | exact bits_Len64.mono .. | refine LeO.ite ?_ ?_ | refine LeO.bind ?_ (fun _ => ?_)
set_option maxHeartbeats 8000000 in
set_option maxRecDepth 100000 in
theorem node_depth.calls (k : Nat) (a0 : Int) (r : Int) (w : World) (h : node_depth.f k a0 = some r) :
   Calls Try.prog 95 #[.int .u64 a0] w fun e w' => e = .returned (.int .i64 r) ∧ Drawn0 w w' := by
  have H : ((bits_Len64.f k a0).bind fun t101 => (some (wrap64 (t101 - 1)))) = some r := h
  clear h
  replace H := bind_eq_some_iff.mp H
  obtain ⟨t101, A20, H⟩ := H
  replace H : (some (wrap64 (t101 - 1))) = some r := H
  have A2 := ak_ A20
  clear A20
  obtain rfl := Option.some.inj H
  go_enter func95, ntmps95
  go_wp2_with (first | ((with_reducible refine gate_callee (f := 135) rfl ?_); refine gl_ (some 4) func135 #[.int .u64 a0] ?_; (with_reducible refine (bits_Len64.calls k a0 t101 _ A2.out).mono ?_); rintro e w' ⟨rfl, ⟨nd, rfl⟩⟩; refine ⟨_, rfl, ?_⟩))
  go_ret
  exact ⟨by first | rfl | (simp; done) | (simp [*]; done), by repeat (first | exact Drawn0.refl _ | apply Drawn0.step)⟩
def node_Check.f (k : Nat) (a0 : Int) (a1 : Int) : Option (Int) := (node_high.f a0).bind fun t102 => (if t102 = true then (if a1 < 1 then (some 1) else ((node_depth.f k a1).bind fun t103 => (if t103 > a0 then (some 1) else (some 0)))) else (some 1))
theorem node_Check.mono : ∀ a0 a1 k, LeO (node_Check.f k a0 a1) (node_Check.f (k + 1) a0 a1) := by
  intro a0 a1 k
  unfold node_Check.f
  repeat' first | (with_reducible first | exact node_depth.mono .. | exact LeO.refl _ | exact LeO.none _ | refine LeO.ite ?_ ?_ | refine LeO.bind ?_ (fun _ => ?_)) | exact node_depth.mono .. | refine LeO.ite ?_ ?_ | refine LeO.bind ?_ (fun _ => ?_)
set_option maxHeartbeats 8000000 in
set_option maxRecDepth 100000 in
theorem node_Check.calls (k : Nat) (a0 : Int) (a1 : Int) (r : Int) (w : World) (h : node_Check.f k a0 a1 = some r) :
   Calls Try.prog 46 #[.int .i64 a0, .int .u64 a1] w fun e w' => e = .returned (.int .i64 r) ∧ Drawn0 w w' := by
  have H : ((node_high.f a0).bind fun t102 => (if t102 = true then (if a1 < 1 then (some 1) else ((node_depth.f k a1).bind fun t103 => (if t103 > a0 then (some 1) else (some 0)))) else (some 1))) = some r := h
  clear h
  replace H := bind_eq_some_iff.mp H
  obtain ⟨t102, A30, H⟩ := H
  replace H : (if t102 = true then (if a1 < 1 then (some 1) else ((node_depth.f k a1).bind fun t103 => (if t103 > a0 then (some 1) else (some 0)))) else (some 1)) = some r := H
  have A3 := ak_ A30
  clear A30
  by_cases c4 : t102 = true
  ·subst c4
   have H1 : (if a1 < 1 then (some 1) else ((node_depth.f k a1).bind fun t103 => (if t103 > a0 then (some 1) else (some 0)))) = some r := by rw [if_pos rfl] at H; exact H
   clear H
   have H := H1
   clear H1
   by_cases c5 : a1 < 1
   ·rw [if_pos c5] at H
    have c5b0 := decide_eq_true c5
    clear c5
    obtain rfl := Option.some.inj H
    go_enter func46, ntmps46
    go_wp2_with (first | ((with_reducible refine gate_callee (f := 94) rfl ?_); refine gl_ (some 6) func94 #[.int .i64 a0] ?_; (with_reducible refine (node_high.calls a0 true _ A3.out).mono ?_); rintro e w' ⟨rfl, ⟨nd, rfl⟩⟩; refine ⟨_, rfl, ?_⟩))
    go_ret
    exact ⟨by first | rfl | (simp; done) | (simp [*]; done), by repeat (first | exact Drawn0.refl _ | apply Drawn0.step)⟩
   ·rw [if_neg c5] at H
    have c5b0 := decide_eq_false c5
    clear c5
    replace H := bind_eq_some_iff.mp H
    obtain ⟨t103, A60, H⟩ := H
    replace H : (if t103 > a0 then (some 1) else (some 0)) = some r := H
    have A6 := ak_ A60
    clear A60
    by_cases c7 : t103 > a0
    ·rw [if_pos c7] at H
     have c7b0 : decide (a0 < t103) = true := decide_eq_true c7
     clear c7
     obtain rfl := Option.some.inj H
     go_enter func46, ntmps46
     go_wp2_with (first | ((with_reducible refine gate_callee (f := 94) rfl ?_); refine gl_ (some 6) func94 #[.int .i64 a0] ?_; (with_reducible refine (node_high.calls a0 true _ A3.out).mono ?_); rintro e w' ⟨rfl, ⟨nd, rfl⟩⟩; refine ⟨_, rfl, ?_⟩) | (go_at_call 95; (with_reducible refine (node_depth.calls k a1 t103 _ A6.out).mono ?_); rintro e w' ⟨rfl, ⟨nd, rfl⟩⟩))
     go_ret
     exact ⟨by first | rfl | (simp; done) | (simp [*]; done), by repeat (first | exact Drawn0.refl _ | apply Drawn0.step)⟩
    ·rw [if_neg c7] at H
     have c7b0 : decide (a0 < t103) = false := decide_eq_false c7
     clear c7
     obtain rfl := Option.some.inj H
     go_enter func46, ntmps46
     go_wp2_with (first | ((with_reducible refine gate_callee (f := 94) rfl ?_); refine gl_ (some 6) func94 #[.int .i64 a0] ?_; (with_reducible refine (node_high.calls a0 true _ A3.out).mono ?_); rintro e w' ⟨rfl, ⟨nd, rfl⟩⟩; refine ⟨_, rfl, ?_⟩) | (go_at_call 95; (with_reducible refine (node_depth.calls k a1 t103 _ A6.out).mono ?_); rintro e w' ⟨rfl, ⟨nd, rfl⟩⟩))
     go_ret
     exact ⟨by first | rfl | (simp; done) | (simp [*]; done), by repeat (first | exact Drawn0.refl _ | apply Drawn0.step)⟩
  ·replace c4 := Bool.eq_false_iff.mpr c4
   subst c4
   have H1 : (some 1) = some r := by rw [if_neg (show ¬ (false = true) by decide)] at H; exact H
   clear H
   have H := H1
   clear H1
   obtain rfl := Option.some.inj H
   go_enter func46, ntmps46
   go_wp2_with (first | ((with_reducible refine gate_callee (f := 94) rfl ?_); refine gl_ (some 6) func94 #[.int .i64 a0] ?_; (with_reducible refine (node_high.calls a0 false _ A3.out).mono ?_); rintro e w' ⟨rfl, ⟨nd, rfl⟩⟩; refine ⟨_, rfl, ?_⟩))
   go_ret
   exact ⟨by first | rfl | (simp; done) | (simp [*]; done), by repeat (first | exact Drawn0.refl _ | apply Drawn0.step)⟩
def node_Leaf.f (a0 : Int) (a1 : Int) : Option (Int × Int) := (node_high.f a0).bind fun t104 => (if t104 = true then (if 0 ≤ a0 then (if (shr .u64 a1 a0) > 0 then (some (0, 4)) else (some (Go.bits .or .u64 (shl .u64 1 a0) a1, 0))) else (none)) else (some (0, 1)))
set_option maxHeartbeats 8000000 in
set_option maxRecDepth 100000 in
theorem node_Leaf.calls (a0 : Int) (a1 : Int) (r1 : Int) (r2 : Int) (w : World) (h : node_Leaf.f a0 a1 = some (r1, r2)) :
   Calls Try.prog 112 #[.int .i64 a0, .int .u64 a1] w fun e w' => e = .returned (.tuple #[.int .u64 r1, .int .i64 r2]) ∧ Drawn0 w w' := by
  have H : ((node_high.f a0).bind fun t104 => (if t104 = true then (if 0 ≤ a0 then (if (shr .u64 a1 a0) > 0 then (some (0, 4)) else (some (Go.bits .or .u64 (shl .u64 1 a0) a1, 0))) else (none)) else (some (0, 1)))) = some (r1, r2) := h
  clear h
  replace H := bind_eq_some_iff.mp H
  obtain ⟨t104, A30, H⟩ := H
  replace H : (if t104 = true then (if 0 ≤ a0 then (if (shr .u64 a1 a0) > 0 then (some (0, 4)) else (some (Go.bits .or .u64 (shl .u64 1 a0) a1, 0))) else (none)) else (some (0, 1))) = some (r1, r2) := H
  have A3 := ak_ A30
  clear A30
  by_cases c4 : t104 = true
  ·subst c4
   have H1 : (if 0 ≤ a0 then (if (shr .u64 a1 a0) > 0 then (some (0, 4)) else (some (Go.bits .or .u64 (shl .u64 1 a0) a1, 0))) else (none)) = some (r1, r2) := by rw [if_pos rfl] at H; exact H
   clear H
   have H := H1
   clear H1
   by_cases c5 : 0 ≤ a0
   ·rw [if_pos c5] at H
    have c5b0 := eq_true c5
    have c5b1 := decide_eq_true c5
    clear c5
    obtain ⟨ji6, hji6⟩ : ∃ j_ : Int, (shr .u64 a1 a0) = j_ := ⟨_, rfl⟩
    replace H : (if (ji6) > 0 then (some (0, 4)) else (some (Go.bits .or .u64 (shl .u64 1 a0) a1, 0))) = some (r1, r2) := by first | (rw [hji6] at H; exact H) | (simp only [hji6] at H ⊢; exact H)
    (try rw [hji6] at A3)
    have hji6_ : (a1 / 2 ^ min a0.toNat 64) = ji6 := hji6
    have hji6z : a0 ≤ 64 → (a1 / 2 ^ a0.toNat) = ji6 := shr_small hji6
    by_cases c7 : (ji6) > 0
    ·rw [if_pos c7] at H
     have c7b0 : decide (0 < (ji6)) = true := decide_eq_true c7
     clear c7
     simp only [some.injEq, Prod.mk.injEq] at H
     obtain ⟨rfl, rfl⟩ := H
     go_enter func112, ntmps112
     go_wp2_with (first | ((with_reducible refine gate_callee (f := 94) rfl ?_); refine gl_ (some 8) func94 #[.int .i64 a0] ?_; (with_reducible refine (node_high.calls a0 true _ A3.out).mono ?_); rintro e w' ⟨rfl, ⟨nd, rfl⟩⟩; refine ⟨_, rfl, ?_⟩))
     go_ret2
     exact ⟨by first | rfl | (simp; done) | (simp only [← hji6] <;> (first | rfl | simp)) | (simp [*]; done), by repeat (first | exact Drawn0.refl _ | apply Drawn0.step)⟩
    ·rw [if_neg c7] at H
     have c7b0 : decide (0 < (ji6)) = false := decide_eq_false c7
     clear c7
     have c8b0 := eq_true (od_ (by first | (with_reducible assumption) | assumption) : 0 ≤ a0)
     obtain ⟨ji9, hji9⟩ : ∃ j_ : Int, (shl .u64 1 a0) = j_ := ⟨_, rfl⟩
     replace H : (some (Go.bits .or .u64 (ji9) a1, 0)) = some (r1, r2) := by first | (rw [hji9] at H; exact H) | (simp only [hji9] at H ⊢; exact H)
     (try rw [hji9] at A3)
     have hji9_ : (IntKind.u64.wrap (1 * 2 ^ min a0.toNat 64)) = ji9 := hji9
     have hji9z : a0 ≤ 64 → (IntKind.u64.wrap (1 * 2 ^ a0.toNat)) = ji9 := shl_small hji9
     have hji9u : (IntKind.u64.wrap (2 ^ min a0.toNat 64)) = ji9 := by have h_ := hji9_; rw [Int.one_mul] at h_; exact h_
     have hji9v : a0 ≤ 64 → (IntKind.u64.wrap (2 ^ a0.toNat)) = ji9 := fun hle_ => by have h_ := hji9z hle_; rw [Int.one_mul] at h_; exact h_
     simp only [some.injEq, Prod.mk.injEq] at H
     obtain ⟨rfl, rfl⟩ := H
     go_enter func112, ntmps112
     go_wp2_with (first | ((with_reducible refine gate_callee (f := 94) rfl ?_); refine gl_ (some 8) func94 #[.int .i64 a0] ?_; (with_reducible refine (node_high.calls a0 true _ A3.out).mono ?_); rintro e w' ⟨rfl, ⟨nd, rfl⟩⟩; refine ⟨_, rfl, ?_⟩))
     go_ret2
     exact ⟨by first | rfl | (simp; done) | (simp only [← hji6, ← hji9] <;> (first | rfl | simp)) | (simp [*]; done), by repeat (first | exact Drawn0.refl _ | apply Drawn0.step)⟩
   ·rw [if_neg c5] at H
    exact absurd H (by simp)
  ·replace c4 := Bool.eq_false_iff.mpr c4
   subst c4
   have H1 : (some (0, 1)) = some (r1, r2) := by rw [if_neg (show ¬ (false = true) by decide)] at H; exact H
   clear H
   have H := H1
   clear H1
   simp only [some.injEq, Prod.mk.injEq] at H
   obtain ⟨rfl, rfl⟩ := H
   go_enter func112, ntmps112
   go_wp2_with (first | ((with_reducible refine gate_callee (f := 94) rfl ?_); refine gl_ (some 8) func94 #[.int .i64 a0] ?_; (with_reducible refine (node_high.calls a0 false _ A3.out).mono ?_); rintro e w' ⟨rfl, ⟨nd, rfl⟩⟩; refine ⟨_, rfl, ?_⟩))
   go_ret2
   exact ⟨by first | rfl | (simp; done) | (simp [*]; done), by repeat (first | exact Drawn0.refl _ | apply Drawn0.step)⟩
def leaf_is.f (a0 : Int) (a1 : Int) : Option (Bool) := (node_Leaf.f a0 a1).bind fun bt105 => (some (bt105.2 == 0))
set_option maxHeartbeats 8000000 in
set_option maxRecDepth 100000 in
theorem leaf_is.calls (a0 : Int) (a1 : Int) (r : Bool) (w : World) (h : leaf_is.f a0 a1 = some r) :
   Calls Try.prog 107 #[.int .i64 a0, .int .u64 a1] w fun e w' => e = .returned (.bool r) ∧ Drawn0 w w' := by
  have H : ((node_Leaf.f a0 a1).bind fun bt105 => (some (bt105.2 == 0))) = some r := h
  clear h
  replace H := bind_eq_some_iff.mp H
  obtain ⟨⟨t105, t106⟩, A30, H⟩ := H
  replace H : (some (t106 == 0)) = some r := H
  have A3 := ak_ A30
  clear A30
  obtain rfl := Option.some.inj H
  go_enter func107, ntmps107
  go_wp2_with (first | ((with_reducible refine gate_callee (f := 112) rfl ?_); refine gl_ (some 10) func112 #[.int .i64 a0, .int .u64 a1] ?_; (with_reducible refine (node_Leaf.calls a0 a1 t105 t106 _ A3.out).mono ?_); rintro e w' ⟨rfl, ⟨nd, rfl⟩⟩; refine ⟨_, rfl, ?_⟩))
  go_ret
  exact ⟨by first | rfl | (simp; done) | (simp [*]; done), by repeat (first | exact Drawn0.refl _ | apply Drawn0.step)⟩
mutual
def leaf_Check.j0 : Nat → Int → List Int → Bool → Option (Int)
  | 0, _, _, _ => none
  | k + 1, x0, x1, x14 => if x14 = true then (some 1) else (leaf_Check.l0 k x0 x1 x1 (x1.length : Int) 0)
def leaf_Check.l0 : Nat → Int → List Int → List Int → Int → Int → Option (Int)
  | 0, _, _, _, _, _ => none
  | k + 1, x0, x1, x15, x16, x17 => if x17 < x16 then (if 0 ≤ x17 then (if x17 < (x15.length : Int) then ((leaf_is.f x0 (rd x15 x17)).bind fun t109 => (if t109 = true then (if x17 > 0 then (if 0 ≤ (wrap64 (x17 - 1)) then (if (wrap64 (x17 - 1)) < (x1.length : Int) then (if (rd x1 (wrap64 (x17 - 1))) ≥ (rd x15 x17) then (some 1) else (leaf_Check.l0 k x0 x1 x15 x16 (wrap64 (x17 + 1)))) else (none)) else (none)) else (leaf_Check.l0 k x0 x1 x15 x16 (wrap64 (x17 + 1)))) else (some 1))) else (none)) else (none)) else (some 0)
end
def leaf_Check.f (k : Nat) (a0 : Int) (l1 : List Int) : Option (Int) := (node_Check.f k a0 1).bind fun t107 => (if t107 = 0 then (leaf_Check.j0 k a0 l1 (decide ((l1.length : Int) > 1024))) else (leaf_Check.j0 k a0 l1 true))
theorem leaf_Check.mono_l : ∀ k, (∀ y0 y1 y2, LeO (leaf_Check.j0 k y0 y1 y2) (leaf_Check.j0 (k + 1) y0 y1 y2)) ∧ (∀ y0 y1 y2 y3 y4, LeO (leaf_Check.l0 k y0 y1 y2 y3 y4) (leaf_Check.l0 (k + 1) y0 y1 y2 y3 y4))
  | 0 => ⟨fun _ _ _ r h => by simp [leaf_Check.j0] at h, fun _ _ _ _ _ r h => by simp [leaf_Check.l0] at h⟩
  | k + 1 => by
   obtain ⟨ih0, ih1⟩ := leaf_Check.mono_l k
   refine ⟨?_, ?_⟩
   all_goals intros
   all_goals first | unfold leaf_Check.j0 | unfold leaf_Check.l0
   all_goals repeat' first | (with_reducible first | exact ih0 .. | exact ih1 .. | exact node_Check.mono .. | exact LeO.refl _ | exact LeO.none _ | refine LeO.ite ?_ ?_ | refine LeO.bind ?_ (fun _ => ?_)) | exact ih0 .. | exact ih1 .. | exact node_Check.mono .. | refine LeO.ite ?_ ?_ | refine LeO.bind ?_ (fun _ => ?_)
theorem leaf_Check.mono : ∀ a0 a1 k, LeO (leaf_Check.f k a0 a1) (leaf_Check.f (k + 1) a0 a1) := by
  intro a0 a1 k
  obtain ⟨ih0, ih1⟩ := leaf_Check.mono_l k
  unfold leaf_Check.f
  repeat' first | (with_reducible first | exact ih0 .. | exact ih1 .. | exact node_Check.mono .. | exact LeO.refl _ | exact LeO.none _ | refine LeO.ite ?_ ?_ | refine LeO.bind ?_ (fun _ => ?_)) | exact ih0 .. | exact ih1 .. | exact node_Check.mono .. | refine LeO.ite ?_ ?_ | refine LeO.bind ?_ (fun _ => ?_)
set_option maxHeartbeats 8000000 in
set_option maxRecDepth 100000 in
theorem leaf_Check.calls (k : Nat) (a0 : Int) (A1 : Option Addr) (c1 : Nat) (l1 : List Int) (r : Int) (w : World) (hr1 : Kd.C (Kd.int .u64) w A1 l1.length l1) (hc1 : l1.length ≤ c1) (h : leaf_Check.f k a0 l1 = some r) :
   Calls Try.prog 65 #[.int .i64 a0, .slice A1 l1.length c1] w fun e w' => e = .returned (.int .i64 r) ∧ Drawn0 w w' := by
  have HR1 := ak_ hr1
  have HC1 := ak_ hc1
  clear hr1 hc1
  have H : ((node_Check.f k a0 1).bind fun t107 => (if t107 = 0 then (leaf_Check.j0 k a0 l1 (decide ((l1.length : Int) > 1024))) else (leaf_Check.j0 k a0 l1 true))) = some r := h
  clear h
  have HC3 := ak_ H
  clear H
  go_enter func65, ntmps65
  go_upto_region 1 with (fail)
  go_cut [14] (fun v14 wc => ∃ (kq : Nat) (x14_2 : Bool), v14 = .bool x14_2 ∧ Aside0 (leaf_Check.j0 kq a0 l1 x14_2 = some r) ∧ Aside0 (kq ≤ k) ∧ Drawn0 w wc)
  case first =>
   have H := HC3.out
   clear HC3
   replace H := bind_eq_some_iff.mp H
   obtain ⟨t107, A40, H⟩ := H
   replace H : (if t107 = 0 then (leaf_Check.j0 k a0 l1 (decide ((l1.length : Int) > 1024))) else (leaf_Check.j0 k a0 l1 true)) = some r := H
   have A4 := ak_ A40
   clear A40
   by_cases c5 : t107 = 0
   ·rw [if_pos c5] at H
    have c5b0 : (t107 == 0) = true := beq_iff_eq.mpr c5
    have c5b1 : (t107 != 0) = false := bne_eq_false_iff_eq.mpr c5
    clear c5
    (first | rw [c5b0] | (simp only [i64_w, i32_w]; rw [c5b0]) | skip)
    have H' := ak_ H
    clear H
    go_wp2_with (first | ((with_reducible refine gate_callee (f := 46) rfl ?_); refine gl_ (some 8) func46 #[.int .i64 a0, .int .u64 1] ?_; (with_reducible refine (node_Check.calls k a0 1 t107 _ A4.out).mono ?_); rintro e w' ⟨rfl, ⟨nd, rfl⟩⟩; refine ⟨_, rfl, ?_⟩))
    go_meet
    case rel => exact ⟨_, (decide ((l1.length : Int) > 1024)), rf_, H', ⟨by first | omega | exact Nat.le_refl _⟩, by repeat (first | exact Drawn0.refl _ | apply Drawn0.step)⟩
   ·rw [if_neg c5] at H
    have c5b0 : (t107 == 0) = false := beq_eq_false_iff_ne.mpr c5
    have c5b1 : (t107 != 0) = true := bne_iff_ne.mpr c5
    (first | rw [c5b0] | (simp only [i64_w, i32_w]; rw [c5b0]) | skip)
    have H' := ak_ H
    clear H
    go_wp2_with (first | ((with_reducible refine gate_callee (f := 46) rfl ?_); refine gl_ (some 8) func46 #[.int .i64 a0, .int .u64 1] ?_; (with_reducible refine (node_Check.calls k a0 1 t107 _ A4.out).mono ?_); rintro e w' ⟨rfl, ⟨nd, rfl⟩⟩; refine ⟨_, rfl, ?_⟩))
    go_meet
    case rel => exact ⟨_, (true), rf_, H', ⟨by first | omega | exact Nat.le_refl _⟩, by repeat (first | exact Drawn0.refl _ | apply Drawn0.step)⟩
  case rest =>
   clear HC3
   try clear c1
   try clear p2
   try clear c4
   try clear c5
   try clear c5b0
   try clear c5b1
   obtain ⟨kq, x14_2, rfl, HA, HJ2, ⟨mc2, rfl⟩⟩ := hcut
   cases kq with
   | zero => exact absurd HA.out (by simp [leaf_Check.j0])
   | succ kj2 =>
    have H := HA.out
    clear HA
    simp only [leaf_Check.j0] at H
    by_cases c6 : x14_2 = true
    ·subst c6
     have H1 : (some 1) = some r := by rw [if_pos rfl] at H; exact H
     clear H
     have H := H1
     clear H1
     obtain rfl := Option.some.inj H
     go_wp2
     go_ret
     exact ⟨by first | rfl | (simp; done) | (simp [*]; done), by repeat (first | exact Drawn0.refl _ | apply Drawn0.step)⟩
    ·replace c6 := Bool.eq_false_iff.mpr c6
     subst c6
     have H1 : (leaf_Check.l0 kj2 a0 l1 l1 (l1.length : Int) 0) = some r := by rw [if_neg (show ¬ (false = true) by decide)] at H; exact H
     clear H
     have H := H1
     clear H1
     have H' := ak_ H
     clear H
     go_wp2
     go_loopg [17] kj2 (fun kq v17 w' => ∃ (x17_2 : Int), v17 = .int .i64 x17_2 ∧ Aside0 (leaf_Check.l0 kq a0 l1 l1 (l1.length : Int) x17_2 = some r) ∧ Aside0 (kq ≤ kj2) ∧ Drawn0 w w')
     case atStart => exact ⟨(0), rf_, H', ⟨Nat.le_refl _⟩, by repeat (first | exact Drawn0.refl _ | apply Drawn0.step)⟩
     case round =>
      clear H'
      try clear c1
      try clear c2
      try clear p2
      try clear c4
      try clear c5
      try clear c5b0
      try clear c5b1
      try clear c6
      try clear p2
      obtain ⟨x17_2, rfl, HA, HK2, ⟨m2, rfl⟩⟩ := hrel
      cases gk with
      | zero => exact absurd HA.out (by simp [leaf_Check.l0])
      | succ k2 =>
       have H := HA.out
       clear HA
       simp only [leaf_Check.l0] at H
       by_cases c7 : x17_2 < (l1.length : Int)
       ·rw [if_pos c7] at H
        have c7b0 := decide_eq_true c7
        clear c7
        by_cases c8 : 0 ≤ x17_2
        ·rw [if_pos c8] at H
         have c8b0 := decide_eq_true c8
         clear c8
         by_cases c9 : x17_2 < (l1.length : Int)
         ·rw [if_pos c9] at H
          have c9b0 := decide_eq_true c9
          clear c9
          replace H := bind_eq_some_iff.mp H
          obtain ⟨t109, A100, H⟩ := H
          replace H : (if t109 = true then (if x17_2 > 0 then (if 0 ≤ (wrap64 (x17_2 - 1)) then (if (wrap64 (x17_2 - 1)) < (l1.length : Int) then (if (rd l1 (wrap64 (x17_2 - 1))) ≥ (rd l1 x17_2) then (some 1) else (leaf_Check.l0 k2 a0 l1 l1 (l1.length : Int) (wrap64 (x17_2 + 1)))) else (none)) else (none)) else (leaf_Check.l0 k2 a0 l1 l1 (l1.length : Int) (wrap64 (x17_2 + 1)))) else (some 1)) = some r := H
          have A10 := ak_ A100
          clear A100
          by_cases c11 : t109 = true
          ·subst c11
           have H1 : (if x17_2 > 0 then (if 0 ≤ (wrap64 (x17_2 - 1)) then (if (wrap64 (x17_2 - 1)) < (l1.length : Int) then (if (rd l1 (wrap64 (x17_2 - 1))) ≥ (rd l1 x17_2) then (some 1) else (leaf_Check.l0 k2 a0 l1 l1 (l1.length : Int) (wrap64 (x17_2 + 1)))) else (none)) else (none)) else (leaf_Check.l0 k2 a0 l1 l1 (l1.length : Int) (wrap64 (x17_2 + 1)))) = some r := by rw [if_pos rfl] at H; exact H
           clear H
           have H := H1
           clear H1
           by_cases c12 : x17_2 > 0
           ·rw [if_pos c12] at H
            have c12b0 : decide (0 < x17_2) = true := decide_eq_true c12
            clear c12
            obtain ⟨ji13, hji13⟩ : ∃ j_ : Int, (wrap64 (x17_2 - 1)) = j_ := ⟨_, rfl⟩
            replace H : (if 0 ≤ (ji13) then (if (ji13) < (l1.length : Int) then (if (rd l1 (ji13)) ≥ (rd l1 x17_2) then (some 1) else (leaf_Check.l0 k2 a0 l1 l1 (l1.length : Int) (wrap64 (x17_2 + 1)))) else (none)) else (none)) = some r := by first | (rw [hji13] at H; exact H) | (simp only [hji13] at H ⊢; exact H)
            (try rw [hji13] at A10)
            have hji13w : (IntKind.i64.wrap (x17_2 - 1)) = ji13 := (i64_w _).trans hji13
            by_cases c14 : 0 ≤ (ji13)
            ·rw [if_pos c14] at H
             have c14b0 := decide_eq_true c14
             clear c14
             by_cases c15 : (ji13) < (l1.length : Int)
             ·rw [if_pos c15] at H
              have c15b0 := decide_eq_true c15
              clear c15
              by_cases c16 : (rd l1 (ji13)) ≥ (rd l1 x17_2)
              ·rw [if_pos c16] at H
               have c16b0 : decide ((rd l1 x17_2) ≤ (rd l1 (ji13))) = true := decide_eq_true c16
               clear c16
               obtain rfl := Option.some.inj H
               have p108 : 0 ≤ (x17_2 : Int) := od_ (by first | (with_reducible assumption) | assumption)
               have q108 : x17_2 < (l1.length : Int) := od_ (by first | (with_reducible assumption) | assumption)
               obtain ⟨ad108, e108, hx108_0⟩ := Kd.at_int HR1.out x17_2 p108 q108
               cases e108
               replace p108 := eq_true p108
               replace q108 := eq_true q108
               go_wp2_with (first | ((with_reducible refine gate_callee (f := 107) rfl ?_); refine gl_ (some 24) func107 #[.int .i64 a0, .int .u64 (rd l1 x17_2)] ?_; (with_reducible refine (leaf_is.calls a0 (rd l1 x17_2) true _ A10.out).mono ?_); rintro e w' ⟨rfl, ⟨nd, rfl⟩⟩; refine ⟨_, rfl, ?_⟩; have p110 : 0 ≤ ((ji13) : Int) := od_ (by first | (with_reducible assumption) | assumption); have q110 : (ji13) < (l1.length : Int) := od_ (by first | (with_reducible assumption) | assumption); obtain ⟨ad110, e110, hx110_0⟩ := Kd.at_int HR1.out (ji13) p110 q110; obtain rfl : ad108 = ad110 := (by injection e110); replace p110 := eq_true p110; replace q110 := eq_true q110))
               go_ret
               exact ⟨by first | rfl | (simp; done) | (simp only [← hji13] <;> (first | rfl | simp)) | (simp [*]; done), by repeat (first | exact Drawn0.refl _ | apply Drawn0.step)⟩
              ·rw [if_neg c16] at H
               have c16b0 : decide ((rd l1 x17_2) ≤ (rd l1 (ji13))) = false := decide_eq_false c16
               clear c16
               have H' := ak_ H
               clear H
               have p108 : 0 ≤ (x17_2 : Int) := od_ (by first | (with_reducible assumption) | assumption)
               have q108 : x17_2 < (l1.length : Int) := od_ (by first | (with_reducible assumption) | assumption)
               obtain ⟨ad108, e108, hx108_0⟩ := Kd.at_int HR1.out x17_2 p108 q108
               cases e108
               replace p108 := eq_true p108
               replace q108 := eq_true q108
               go_wp2_with (first | ((with_reducible refine gate_callee (f := 107) rfl ?_); refine gl_ (some 24) func107 #[.int .i64 a0, .int .u64 (rd l1 x17_2)] ?_; (with_reducible refine (leaf_is.calls a0 (rd l1 x17_2) true _ A10.out).mono ?_); rintro e w' ⟨rfl, ⟨nd, rfl⟩⟩; refine ⟨_, rfl, ?_⟩; have p110 : 0 ≤ ((ji13) : Int) := od_ (by first | (with_reducible assumption) | assumption); have q110 : (ji13) < (l1.length : Int) := od_ (by first | (with_reducible assumption) | assumption); obtain ⟨ad110, e110, hx110_0⟩ := Kd.at_int HR1.out (ji13) p110 q110; obtain rfl : ad108 = ad110 := (by injection e110); replace p110 := eq_true p110; replace q110 := eq_true q110))
               go_roundg k2
               case measure => have := HJ2.out; have := HK2.out; omega
               case rel => exact ⟨(wrap64 (x17_2 + 1)), rf_, H', ⟨by have := HJ2.out; have := HK2.out; omega⟩, by repeat (first | exact Drawn0.refl _ | apply Drawn0.step)⟩
             ·rw [if_neg c15] at H
              exact absurd H (by simp)
            ·rw [if_neg c14] at H
             exact absurd H (by simp)
           ·rw [if_neg c12] at H
            have c12b0 : decide (0 < x17_2) = false := decide_eq_false c12
            clear c12
            have H' := ak_ H
            clear H
            have p108 : 0 ≤ (x17_2 : Int) := od_ (by first | (with_reducible assumption) | assumption)
            have q108 : x17_2 < (l1.length : Int) := od_ (by first | (with_reducible assumption) | assumption)
            obtain ⟨ad108, e108, hx108_0⟩ := Kd.at_int HR1.out x17_2 p108 q108
            cases e108
            replace p108 := eq_true p108
            replace q108 := eq_true q108
            go_wp2_with (first | ((with_reducible refine gate_callee (f := 107) rfl ?_); refine gl_ (some 24) func107 #[.int .i64 a0, .int .u64 (rd l1 x17_2)] ?_; (with_reducible refine (leaf_is.calls a0 (rd l1 x17_2) true _ A10.out).mono ?_); rintro e w' ⟨rfl, ⟨nd, rfl⟩⟩; refine ⟨_, rfl, ?_⟩))
            go_roundg k2
            case measure => have := HJ2.out; have := HK2.out; omega
            case rel => exact ⟨(wrap64 (x17_2 + 1)), rf_, H', ⟨by have := HJ2.out; have := HK2.out; omega⟩, by repeat (first | exact Drawn0.refl _ | apply Drawn0.step)⟩
          ·replace c11 := Bool.eq_false_iff.mpr c11
           subst c11
           have H1 : (some 1) = some r := by rw [if_neg (show ¬ (false = true) by decide)] at H; exact H
           clear H
           have H := H1
           clear H1
           obtain rfl := Option.some.inj H
           have p108 : 0 ≤ (x17_2 : Int) := od_ (by first | (with_reducible assumption) | assumption)
           have q108 : x17_2 < (l1.length : Int) := od_ (by first | (with_reducible assumption) | assumption)
           obtain ⟨ad108, e108, hx108_0⟩ := Kd.at_int HR1.out x17_2 p108 q108
           cases e108
           replace p108 := eq_true p108
           replace q108 := eq_true q108
           go_wp2_with (first | ((with_reducible refine gate_callee (f := 107) rfl ?_); refine gl_ (some 24) func107 #[.int .i64 a0, .int .u64 (rd l1 x17_2)] ?_; (with_reducible refine (leaf_is.calls a0 (rd l1 x17_2) false _ A10.out).mono ?_); rintro e w' ⟨rfl, ⟨nd, rfl⟩⟩; refine ⟨_, rfl, ?_⟩))
           go_ret
           exact ⟨by first | rfl | (simp; done) | (simp [*]; done), by repeat (first | exact Drawn0.refl _ | apply Drawn0.step)⟩
         ·rw [if_neg c9] at H
          exact absurd H (by simp)
        ·rw [if_neg c8] at H
         exact absurd H (by simp)
       ·rw [if_neg c7] at H
        have c7b0 := decide_eq_false c7
        clear c7
        obtain rfl := Option.some.inj H
        go_wp2
        go_ret
        exact ⟨by first | rfl | (simp; done) | (simp [*]; done), by repeat (first | exact Drawn0.refl _ | apply Drawn0.step)⟩
def image_put.l0 : Nat → List Int → Int → Int → Int → Option (List Int)
  | 0, _, _, _, _ => none
  | k + 1, x0, x1, x8, x9 => if x9 < x8 then (if 0 ≤ (wrap64 (8 * x9)) then (if x0.length < 140737488355328 then (image_put.l0 k (x0 ++ [(shr .u64 x1 (wrap64 (8 * x9))) % 256]) x1 x8 (wrap64 (x9 + 1))) else (none)) else (none)) else (some x0)
def image_put.f (k : Nat) (l0 : List Int) (a1 : Int) (a2 : Int) : Option (List Int) := image_put.l0 k l0 a1 a2 0
theorem image_put.mono_l : ∀ k, (∀ y0 y1 y2 y3, LeO (image_put.l0 k y0 y1 y2 y3) (image_put.l0 (k + 1) y0 y1 y2 y3))
  | 0 => fun _ _ _ _ r h => by simp [image_put.l0] at h
  | k + 1 => by
   have ih0 := image_put.mono_l k
   ·intro y0 y1 y2 y3
    unfold image_put.l0
    repeat' first | (with_reducible first | exact ih0 .. | exact LeO.refl _ | exact LeO.none _ | refine LeO.ite ?_ ?_ | refine LeO.bind ?_ (fun _ => ?_)) | exact ih0 .. | refine LeO.ite ?_ ?_ | refine LeO.bind ?_ (fun _ => ?_)
theorem image_put.mono : ∀ a0 a1 a2 k, LeO (image_put.f k a0 a1 a2) (image_put.f (k + 1) a0 a1 a2) := by
  intro a0 a1 a2 k
  have ih0 := image_put.mono_l k
  unfold image_put.f
  repeat' first | (with_reducible first | exact ih0 .. | exact LeO.refl _ | exact LeO.none _ | refine LeO.ite ?_ ?_ | refine LeO.bind ?_ (fun _ => ?_)) | exact ih0 .. | refine LeO.ite ?_ ?_ | refine LeO.bind ?_ (fun _ => ?_)
set_option maxHeartbeats 8000000 in
set_option maxRecDepth 100000 in
theorem image_put.calls (k : Nat) (P0_ : Nat → Prop) (u9000_ : Value) (l0 : List Int) (a1 : Int) (a2 : Int) (r : List Int) (w0 w : World) (hB : Below w0.heap.size w0 w) (ho0 : Kd.R (Kd.int .u8) 5 w w0.heap.size P0_ u9000_ l0) (h : image_put.f k l0 a1 a2 = some r) :
   Calls Try.prog 66 #[u9000_, .int .u64 a1, .int .i64 a2] w fun e w' => ∃ v0_ : Value, e = .returned (v0_) ∧ Kd.R (Kd.int .u8) 5 w' w0.heap.size (fun k_ => (P0_ k_ ∨ w.heap.size ≤ k_)) v0_ r ∧ Below w0.heap.size w0 w' ∧ Kept w w' (fun k_ => P0_ k_) := by
  have HO0 := ak_ (show Kd.R (Kd.int .u8) 5 w w0.heap.size (fun k_ => (P0_ k_ ∨ w.heap.size ≤ k_)) u9000_ l0 from Kd.R_mono ho0 (fun k_ hk => (.inl hk)))
  have HK := ak_ (Kept.refl w (fun k_ => P0_ k_))
  have HW0 := ak_ hB.size
  have HB := ak_ hB
  clear hB
  have H : (image_put.l0 k l0 a1 a2 0) = some r := h
  clear h
  have H' := ak_ H
  clear H
  go_enter func66, ntmps66
  go_wp2
  go_loopg [0, 9] k (fun kq v0 v9 w' => ∃ (x0_1 : List Int) (x9_1 : Int), v9 = .int .i64 x9_1 ∧ Aside0 (image_put.l0 kq x0_1 a1 a2 x9_1 = some r) ∧ Aside0 (kq ≤ k) ∧ Aside0 (Kd.R (Kd.int .u8) 5 w' w0.heap.size (fun k_ => (P0_ k_ ∨ w.heap.size ≤ k_)) v0 x0_1) ∧ Aside0 (Kept w w' (fun k_ => P0_ k_)) ∧ Aside0 (Below w0.heap.size w0 w'))
  case atStart => exact ⟨(l0), (0), rf_, H', ⟨Nat.le_refl _⟩, ⟨rl_ HO0⟩, ⟨by repeat (first | (with_reducible first | exact HK.out | apply Kept.alloc | apply Kept.drewN | apply Kept.drew) | exact HK.out)⟩, ⟨bl_ HB⟩⟩
  case round =>
   clear H'
   try clear p2
   obtain ⟨x0_1, x9_1, rfl, HA, HK1, HO_0, HK, HB⟩ := hrel
   cases gk with
   | zero => exact absurd HA.out (by simp [image_put.l0])
   | succ k1 =>
    have H := HA.out
    clear HA
    simp only [image_put.l0] at H
    by_cases c4 : x9_1 < a2
    ·rw [if_pos c4] at H
     have c4b0 := decide_eq_true c4
     clear c4
     obtain ⟨ji5, hji5⟩ : ∃ j_ : Int, (wrap64 (8 * x9_1)) = j_ := ⟨_, rfl⟩
     replace H : (if 0 ≤ (ji5) then (if x0_1.length < 140737488355328 then (image_put.l0 k1 (x0_1 ++ [(shr .u64 a1 (ji5)) % 256]) a1 a2 (wrap64 (x9_1 + 1))) else (none)) else (none)) = some r := by first | (rw [hji5] at H; exact H) | (simp only [hji5] at H ⊢; exact H)
     have hji5w : (IntKind.i64.wrap (8 * x9_1)) = ji5 := (i64_w _).trans hji5
     by_cases c6 : 0 ≤ (ji5)
     ·rw [if_pos c6] at H
      have c6b0 := eq_true c6
      have c6b1 := decide_eq_true c6
      clear c6
      obtain ⟨ji7, hji7⟩ : ∃ j_ : Int, (shr .u64 a1 (ji5)) = j_ := ⟨_, rfl⟩
      replace H : (if x0_1.length < 140737488355328 then (image_put.l0 k1 (x0_1 ++ [(ji7) % 256]) a1 a2 (wrap64 (x9_1 + 1))) else (none)) = some r := by first | (rw [hji7] at H; exact H) | (simp only [hji7] at H ⊢; exact H)
      have hji7_ : (a1 / 2 ^ min (ji5).toNat 64) = ji7 := hji7
      have hji7z : (ji5) ≤ 64 → (a1 / 2 ^ (ji5).toNat) = ji7 := shr_small hji7
      by_cases c8 : x0_1.length < 140737488355328
      ·rw [if_pos c8] at H
       have LMc8 := ak_ c8
       clear c8
       obtain ⟨y111, hy111⟩ : ∃ y_ : List Int, y_ = (x0_1 ++ [(ji7) % 256]) := ⟨_, rfl⟩
       replace H : (image_put.l0 k1 y111 a1 a2 (wrap64 (x9_1 + 1))) = some r := by first | (rw [hy111]; with_reducible exact H) | (have H2_ := (Option.bind_some _ _).symm.trans H; rw [hy111]; with_reducible exact H2_) | (have H2_ := (Option.bind_some _ _).symm.trans H; with_reducible exact H2_) | with_reducible exact H | (rw [hy111]; exact H) | exact H
       have Ny111 := ak_ hy111
       clear hy111
       have H' := ak_ H
       clear H
       go_wp2_with (first | ((with_reducible refine gate_builtin (b := .append) (xs := #[.tmp 12, .tmp 18]) rfl ?_); at_builtin; refine Kd.R_append (Kd.int .u8) (w0 := w0) w0.heap.size rfl (.tmp 12) (.tmp 18) 35 5 (.int .u8 0) 1 rfl underlying35 info5 rfl (by decide) (by omega) u0 x0_1 ((ji7) % 256) [.int .u8 ((ji7) % 256)] (fun k_ => (P0_ k_ ∨ w.heap.size ≤ k_)) (fun _ => False) rfl rfl ?aP (fun _ hk => hk.elim) ?aF ?aO ?aB ?aS ?aL ?_; (case aP => exact rfl); (case aB => exact (bl_ HB)); (case aF => exact (fun k_ hk => (.inr (Nat.le_trans (by first | exact HK.out.1 | exact (show Kept w _ (fun k_ => P0_ k_) from by repeat (first | (with_reducible first | exact HK.out | apply Kept.alloc | apply Kept.drewN | apply Kept.drew) | exact HK.out)).1) hk)))); (case aO => exact (rl_ HO_0)); (case aS => exact (bz_ (bl_ HB))); (case aL => have := LMc8.out; omega); intro v112 w9 ho hb hg hat; rw [← Ny111.out] at ho; replace HB := ak_ hb; replace HK := ak_ (Kept.of_grown (S := (fun k_ => P0_ k_)) hg (by repeat (first | (with_reducible first | exact HK.out | apply Kept.alloc | apply Kept.drewN | apply Kept.drew) | exact HK.out)) (fun k_ e_ => (HO_0.out.1 k_ e_))); have HO113 := ak_ ho; clear HO_0; clear ho hb hg hat))
       go_roundg k1
       case measure => have := HK1.out; omega
       case rel => exact ⟨(y111), (wrap64 (x9_1 + 1)), rf_, H', ⟨by have := HK1.out; omega⟩, ⟨rl_ HO113⟩, ⟨by repeat (first | (with_reducible first | exact HK.out | apply Kept.alloc | apply Kept.drewN | apply Kept.drew) | exact HK.out)⟩, ⟨bl_ HB⟩⟩
      ·rw [if_neg c8] at H
       exact absurd H (by simp)
     ·rw [if_neg c6] at H
      exact absurd H (by simp)
    ·rw [if_neg c4] at H
     have c4b0 := decide_eq_false c4
     clear c4
     obtain rfl := Option.some.inj H
     go_wp2
     go_ret
     exact ⟨_, by first | rfl | (simp <;> rfl) | (simp [*] <;> rfl), by (with_reducible repeat (first | apply Kd.R_alloc | apply Kd.R_drewN | apply Kd.R_drew)); exact HO_0.out, bl_ HB, by repeat (first | (with_reducible first | exact HK.out | apply Kept.alloc | apply Kept.drewN | apply Kept.drew) | exact HK.out)⟩
def image_Set.l0 : Nat → List Int → Int → List Int → Int → Int → Option (List Int × Int)
  | 0, _, _, _, _, _ => none
  | k + 1, x7, x8, x24, x25, x26 => if x26 < x25 then (if 0 ≤ x26 then (if x26 < (x24.length : Int) then ((image_put.f k x7 (IntKind.u64.wrap ((rd x24 x26) - x8)) 8).bind fun t122 => (image_Set.l0 k t122 (IntKind.u64.wrap ((rd x24 x26) + 1)) x24 x25 (wrap64 (x26 + 1)))) else (none)) else (none)) else (some (x7, 0))
def image_Set.f (k : Nat) (a0 : Int) (l1 : List Int) : Option (List Int × Int) := (leaf_Check.f k a0 l1).bind fun t114 => (if t114 = 0 then ((image_put.f k (([1, 0, (a0) % 256] : List Int)) (IntKind.u64.wrap ((l1.length : Int))) 4).bind fun t118 => (image_Set.l0 k t118 0 l1 (l1.length : Int) 0)) else (some (([] : List Int), t114)))
theorem image_Set.mono_l : ∀ k, (∀ y0 y1 y2 y3 y4, LeO (image_Set.l0 k y0 y1 y2 y3 y4) (image_Set.l0 (k + 1) y0 y1 y2 y3 y4))
  | 0 => fun _ _ _ _ _ r h => by simp [image_Set.l0] at h
  | k + 1 => by
   have ih0 := image_Set.mono_l k
   ·intro y0 y1 y2 y3 y4
    unfold image_Set.l0
    repeat' first | (with_reducible first | exact ih0 .. | exact image_put.mono .. | exact leaf_Check.mono .. | exact LeO.refl _ | exact LeO.none _ | refine LeO.ite ?_ ?_ | refine LeO.bind ?_ (fun _ => ?_)) | exact ih0 .. | exact image_put.mono .. | exact leaf_Check.mono .. | refine LeO.ite ?_ ?_ | refine LeO.bind ?_ (fun _ => ?_)
theorem image_Set.mono : ∀ a0 a1 k, LeO (image_Set.f k a0 a1) (image_Set.f (k + 1) a0 a1) := by
  intro a0 a1 k
  have ih0 := image_Set.mono_l k
  unfold image_Set.f
  repeat' first | (with_reducible first | exact ih0 .. | exact image_put.mono .. | exact leaf_Check.mono .. | exact LeO.refl _ | exact LeO.none _ | refine LeO.ite ?_ ?_ | refine LeO.bind ?_ (fun _ => ?_)) | exact ih0 .. | exact image_put.mono .. | exact leaf_Check.mono .. | refine LeO.ite ?_ ?_ | refine LeO.bind ?_ (fun _ => ?_)
set_option maxHeartbeats 8000000 in
set_option maxRecDepth 100000 in
theorem image_Set.calls (k : Nat) (a0 : Int) (A1 : Option Addr) (c1 : Nat) (l1 : List Int) (r1 : List Int) (r2 : Int) (w : World) (hr1 : Kd.C (Kd.int .u64) w A1 l1.length l1) (hc1 : l1.length ≤ c1) (h : image_Set.f k a0 l1 = some (r1, r2)) :
   Calls Try.prog 28 #[.int .i64 a0, .slice A1 l1.length c1] w fun e w' => ∃ v0_ : Value, e = .returned (.tuple #[v0_, .int .i64 r2]) ∧ Kd.R (Kd.int .u8) 5 w' w.heap.size (fun _ => True) v0_ r1 ∧ Below w.heap.size w w' := by
  have HR1 := ak_ hr1
  have HC1 := ak_ hc1
  clear hr1 hc1
  have HB := ak_ (Below.refl w.heap.size w)
  have H : ((leaf_Check.f k a0 l1).bind fun t114 => (if t114 = 0 then ((image_put.f k (([1, 0, (a0) % 256] : List Int)) (IntKind.u64.wrap ((l1.length : Int))) 4).bind fun t118 => (image_Set.l0 k t118 0 l1 (l1.length : Int) 0)) else (some (([] : List Int), t114)))) = some (r1, r2) := h
  clear h
  replace H := bind_eq_some_iff.mp H
  obtain ⟨t114, A30, H⟩ := H
  replace H : (if t114 = 0 then ((image_put.f k (([1, 0, (a0) % 256] : List Int)) (IntKind.u64.wrap ((l1.length : Int))) 4).bind fun t118 => (image_Set.l0 k t118 0 l1 (l1.length : Int) 0)) else (some (([] : List Int), t114))) = some (r1, r2) := H
  have A3 := ak_ A30
  clear A30
  by_cases c4 : t114 = 0
  ·rw [if_pos c4] at H
   have c4b0 : (t114 == 0) = true := beq_iff_eq.mpr c4
   have c4b1 : (t114 != 0) = false := bne_eq_false_iff_eq.mpr c4
   clear c4
   obtain ⟨y115, hy115⟩ : ∃ y_ : List Int, y_ = (([1, 0, (a0) % 256] : List Int)) := ⟨_, rfl⟩
   replace H : ((image_put.f k y115 (IntKind.u64.wrap ((l1.length : Int))) 4).bind fun t118 => (image_Set.l0 k t118 0 l1 (l1.length : Int) 0)) = some (r1, r2) := by first | (rw [hy115]; with_reducible exact H) | (have H2_ := (Option.bind_some _ _).symm.trans H; rw [hy115]; with_reducible exact H2_) | (have H2_ := (Option.bind_some _ _).symm.trans H; with_reducible exact H2_) | with_reducible exact H | (rw [hy115]; exact H) | exact H
   have Ny115 := ak_ hy115
   clear hy115
   replace H := bind_eq_some_iff.mp H
   obtain ⟨t118, A50, H⟩ := H
   replace H : (image_Set.l0 k t118 0 l1 (l1.length : Int) 0) = some (r1, r2) := H
   have A5 := ak_ A50
   clear A50
   have H' := ak_ H
   clear H
   go_enter func28, ntmps28
   go_wp2_with (first | ((with_reducible refine gate_callee (f := 65) rfl ?_); refine gl_ (some 13) func65 #[.int .i64 a0, .slice A1 l1.length c1] ?_; (with_reducible refine (leaf_Check.calls k a0 _ _ l1 t114 _ ?side1 ?side2 A3.out).mono ?_); (case side1 => repeat (first | exact HR1.out | (with_reducible refine Kd.C_alloc ?_ _) | (with_reducible refine Kd.C_drewN ?_ _) | (with_reducible refine Kd.C_drew ?_))); (case side2 => exact HC1.out); rintro e w' ⟨rfl, ⟨nd, rfl⟩⟩; refine ⟨_, rfl, ?_⟩) | ((with_reducible refine gate_dst (N := 19) rfl ?_); refine Kd.R_lit (Kd.int .u8) _ 5 ?hg (N := 19) ?hd (xs := ([1, 0, (a0) % 256] : List Int)) (inner := [.int .u8 1, .int .u8 0, .int .u8 ((a0) % 256)]) (ok := fun _ => True) (okp := fun _ => True) ?hr ?hp (fun _ hk => hk) trivial (Below.refl _ _) (Nat.le_refl _) (by simp) ?_; (case hd => rfl); (case hg => rfl); (case hr => first | (go_simp; done) | (go_simp; rfl)); (case hp => exact (Reps.one (show Kd.M (Kd.int .u8) _ _ _ 1 [.int .u8 1] from rfl) (Reps.one (show Kd.M (Kd.int .u8) _ _ _ 0 [.int .u8 0] from rfl) (Reps.one (show Kd.M (Kd.int .u8) _ _ _ ((a0) % 256) [.int .u8 ((a0) % 256)] from rfl) (Reps.none _ _))))); intro v116 w6 ho7 hb hg_ hnew_; clear hg_ hnew_; (first | rw [← Ny115.out] at ho7 | (simp only [Int.reduceToNat] at ho7; rw [← Ny115.out] at ho7)); have HO117 := ak_ (Kd.R_lower ho7 (bz_ (bl_ HB))); replace HB := ak_ (bt_ (bl_ HB) hb); clear hb ho7; obtain ⟨Ao8, co8, eo8⟩ := Kd.R_slice HO117.out; subst eo8) | ((with_reducible refine gate_callee (f := 66) rfl ?_); refine goesL_ (some 23) rfl rfl func66 (by kernel_rfl) rfl #[.slice Ao8 y115.length co8, .int .u64 (IntKind.u64.wrap ((l1.length : Int))), .int .i64 4] rfl (by (try simp only [map_toArray, map_cons, map_nil]); first | done | rfl | (simp only [length_drop, length_take]; rfl)) ?_; (with_reducible refine (image_put.calls k (fun k_ => some k_ = (.slice Ao8 y115.length co8 : Value).ownBlock) (.slice Ao8 y115.length co8) y115 (IntKind.u64.wrap ((l1.length : Int))) 4 t118 w _ ?side1 ?side2 A5.out).mono ?_); (case side1 => repeat (first | (with_reducible first | exact HB.out | apply ba_ | apply bn_ | apply bd_) | exact HB.out)); (case side2 => exact Kd.R_tight rfl HO117.out); rintro e w9 ⟨v119, rfl, ho0, hb, hkp⟩; refine ⟨_, rfl, ?_⟩; have HO120 := ak_ (Kd.R_mono (ok' := fun k_ => True) ho0 (fun k_ hk_ => trivial)); replace HB := ak_ hb; clear HO117; (try clear hb); (try clear hkp); (try clear ho0)))
   go_loopg [7, 8, 26] k (fun kq v7 v8 v26 w' => ∃ (x7_1 : List Int) (x8_1 : Int) (x26_1 : Int), v8 = .int .u64 x8_1 ∧ v26 = .int .i64 x26_1 ∧ Aside0 (image_Set.l0 kq x7_1 x8_1 l1 (l1.length : Int) x26_1 = some (r1, r2)) ∧ Aside0 (kq ≤ k) ∧ Aside0 (Kd.R (Kd.int .u8) 5 w' w.heap.size (fun _ => True) v7 x7_1) ∧ Aside0 (Below w.heap.size w w'))
   case atStart => exact ⟨(t118), (0), (0), rf_, rf_, H', ⟨Nat.le_refl _⟩, ⟨rl_ HO120⟩, ⟨bl_ HB⟩⟩
   case round =>
    clear H'
    try clear c1
    try clear c2
    try clear p2
    try clear c4
    try clear c4b0
    try clear c4b1
    try clear c6
    obtain ⟨x7_1, x8_1, x26_1, rfl, rfl, HA, HK1, HO_7, HB⟩ := hrel
    cases gk with
    | zero => exact absurd HA.out (by simp [image_Set.l0])
    | succ k1 =>
     have H := HA.out
     clear HA
     simp only [image_Set.l0] at H
     by_cases c10 : x26_1 < (l1.length : Int)
     ·rw [if_pos c10] at H
      have c10b0 := decide_eq_true c10
      clear c10
      by_cases c11 : 0 ≤ x26_1
      ·rw [if_pos c11] at H
       have c11b0 := decide_eq_true c11
       clear c11
       by_cases c12 : x26_1 < (l1.length : Int)
       ·rw [if_pos c12] at H
        have c12b0 := decide_eq_true c12
        clear c12
        replace H := bind_eq_some_iff.mp H
        obtain ⟨t122, A130, H⟩ := H
        replace H : (image_Set.l0 k1 t122 (IntKind.u64.wrap ((rd l1 x26_1) + 1)) l1 (l1.length : Int) (wrap64 (x26_1 + 1))) = some (r1, r2) := H
        have A13 := ak_ A130
        clear A130
        have H' := ak_ H
        clear H
        have p121 : 0 ≤ (x26_1 : Int) := od_ (by first | (with_reducible assumption) | assumption)
        have q121 : x26_1 < (l1.length : Int) := od_ (by first | (with_reducible assumption) | assumption)
        obtain ⟨ad121, e121, hx121_0⟩ := Kd.at_int HR1.out x26_1 p121 q121
        cases e121
        replace hx121_0 := cx_ HB hx121_0
        replace p121 := eq_true p121
        replace q121 := eq_true q121
        obtain ⟨Ao14, co14, eo14⟩ := Kd.R_slice HO_7.out
        subst eo14
        go_wp2_with (first | ((with_reducible refine gate_callee (f := 66) rfl ?_); refine gl_ (some 34) func66 #[.slice Ao14 x7_1.length co14, .int .u64 (IntKind.u64.wrap ((rd l1 x26_1) - x8_1)), .int .i64 8] ?_; (with_reducible refine (image_put.calls k1 (fun k_ => some k_ = (.slice Ao14 x7_1.length co14 : Value).ownBlock) (.slice Ao14 x7_1.length co14) x7_1 (IntKind.u64.wrap ((rd l1 x26_1) - x8_1)) 8 t122 w _ ?side1 ?side2 A13.out).mono ?_); (case side1 => repeat (first | (with_reducible first | exact HB.out | apply ba_ | apply bn_ | apply bd_) | exact HB.out)); (case side2 => exact Kd.R_tight rfl HO_7.out); rintro e w15 ⟨v123, rfl, ho0, hb, hkp⟩; refine ⟨_, rfl, ?_⟩; have HO124 := ak_ (Kd.R_mono (ok' := fun k_ => True) ho0 (fun k_ hk_ => trivial)); replace HB := ak_ hb; clear HO_7; (try clear hb); (try clear hkp); (try clear ho0)))
        go_roundg k1
        case measure => have := HK1.out; omega
        case rel => exact ⟨(t122), (IntKind.u64.wrap ((rd l1 x26_1) + 1)), (wrap64 (x26_1 + 1)), rf_, rf_, H', ⟨by have := HK1.out; omega⟩, ⟨rl_ HO124⟩, ⟨bl_ HB⟩⟩
       ·rw [if_neg c12] at H
        exact absurd H (by simp)
      ·rw [if_neg c11] at H
       exact absurd H (by simp)
     ·rw [if_neg c10] at H
      have c10b0 := decide_eq_false c10
      clear c10
      simp only [some.injEq, Prod.mk.injEq] at H
      obtain ⟨rfl, rfl⟩ := H
      go_wp2
      go_ret2
      exact ⟨_, by first | rfl | (simp <;> rfl) | (simp [*] <;> rfl), by (with_reducible repeat (first | apply Kd.R_alloc | apply Kd.R_drewN | apply Kd.R_drew)); exact HO_7.out, bl_ HB⟩
  ·rw [if_neg c4] at H
   have c4b0 : (t114 == 0) = false := beq_eq_false_iff_ne.mpr c4
   have c4b1 : (t114 != 0) = true := bne_iff_ne.mpr c4
   simp only [some.injEq, Prod.mk.injEq] at H
   obtain ⟨rfl, rfl⟩ := H
   go_enter func28, ntmps28
   go_wp2_with (first | ((with_reducible refine gate_callee (f := 65) rfl ?_); refine gl_ (some 13) func65 #[.int .i64 a0, .slice A1 l1.length c1] ?_; (with_reducible refine (leaf_Check.calls k a0 _ _ l1 t114 _ ?side1 ?side2 A3.out).mono ?_); (case side1 => repeat (first | exact HR1.out | (with_reducible refine Kd.C_alloc ?_ _) | (with_reducible refine Kd.C_drewN ?_ _) | (with_reducible refine Kd.C_drew ?_))); (case side2 => exact HC1.out); rintro e w' ⟨rfl, ⟨nd, rfl⟩⟩; refine ⟨_, rfl, ?_⟩))
   go_ret2
   exact ⟨_, by first | rfl | (simp <;> rfl) | (simp [*] <;> rfl), by first | exact Kd.R_nil _ _ _ _ _ | exact Kd.N_nil _ _ _ _ _ | exact Kd.V_nil _ _ _ _ _ | exact Kd.Q_nil _ _ _ _ _ | exact Kd.S_nil _ _ _ _ _, bl_ HB⟩
def medlarlaw17_live.f (k : Nat)  : Option (Bool) := (image_Set.f k 2 (([1, 3] : List Int))).bind fun bt128 => (if bt128.2 = 0 then (some ((strOfNums bt128.1).toList == (strOfNums (([1, 0, 2, 2, 0, 0, 0, 1, 0, 0, 0, 0, 0, 0, 0, 1, 0, 0, 0, 0, 0, 0, 0] : List Int))).toList)) else (some false))
theorem medlarlaw17_live.mono : ∀ k, LeO (medlarlaw17_live.f k ) (medlarlaw17_live.f (k + 1) ) := by
  intro  k
  unfold medlarlaw17_live.f
  repeat' first | (with_reducible first | exact image_Set.mono .. | exact LeO.refl _ | exact LeO.none _ | refine LeO.ite ?_ ?_ | refine LeO.bind ?_ (fun _ => ?_)) | exact image_Set.mono .. | refine LeO.ite ?_ ?_ | refine LeO.bind ?_ (fun _ => ?_)
set_option maxHeartbeats 8000000 in
set_option maxRecDepth 100000 in
theorem medlarlaw17_live.calls (k : Nat)  (r : Bool) (w : World) (h : medlarlaw17_live.f k  = some r) :
   Calls Try.prog 27 #[] w fun e w' => e = .returned (.bool r) ∧ Below w.heap.size w w' := by
  have HB := ak_ (Below.refl w.heap.size w)
  have H : ((image_Set.f k 2 (([1, 3] : List Int))).bind fun bt128 => (if bt128.2 = 0 then (some ((strOfNums bt128.1).toList == (strOfNums (([1, 0, 2, 2, 0, 0, 0, 1, 0, 0, 0, 0, 0, 0, 0, 1, 0, 0, 0, 0, 0, 0, 0] : List Int))).toList)) else (some false))) = some r := h
  clear h
  obtain ⟨y125, hy125⟩ : ∃ y_ : List Int, y_ = (([1, 3] : List Int)) := ⟨_, rfl⟩
  replace H : ((image_Set.f k 2 y125).bind fun bt128 => (if bt128.2 = 0 then (some ((strOfNums bt128.1).toList == (strOfNums (([1, 0, 2, 2, 0, 0, 0, 1, 0, 0, 0, 0, 0, 0, 0, 1, 0, 0, 0, 0, 0, 0, 0] : List Int))).toList)) else (some false))) = some r := by first | (rw [hy125]; with_reducible exact H) | (have H2_ := (Option.bind_some _ _).symm.trans H; rw [hy125]; with_reducible exact H2_) | (have H2_ := (Option.bind_some _ _).symm.trans H; with_reducible exact H2_) | with_reducible exact H | (rw [hy125]; exact H) | exact H
  have Ny125 := ak_ hy125
  clear hy125
  replace H := bind_eq_some_iff.mp H
  obtain ⟨⟨t128, t129⟩, A10, H⟩ := H
  replace H : (if t129 = 0 then (some ((strOfNums t128).toList == (strOfNums (([1, 0, 2, 2, 0, 0, 0, 1, 0, 0, 0, 0, 0, 0, 0, 1, 0, 0, 0, 0, 0, 0, 0] : List Int))).toList)) else (some false)) = some r := H
  have A1 := ak_ A10
  clear A10
  by_cases c2 : t129 = 0
  ·rw [if_pos c2] at H
   have c2b0 : (t129 == 0) = true := beq_iff_eq.mpr c2
   have c2b1 : (t129 != 0) = false := bne_eq_false_iff_eq.mpr c2
   clear c2
   obtain ⟨y132, hy132⟩ : ∃ y_ : List Int, y_ = (([1, 0, 2, 2, 0, 0, 0, 1, 0, 0, 0, 0, 0, 0, 0, 1, 0, 0, 0, 0, 0, 0, 0] : List Int)) := ⟨_, rfl⟩
   replace H : (some ((strOfNums t128).toList == (strOfNums y132).toList)) = some r := by first | (rw [hy132]; with_reducible exact H) | (have H2_ := (Option.bind_some _ _).symm.trans H; rw [hy132]; with_reducible exact H2_) | (have H2_ := (Option.bind_some _ _).symm.trans H; with_reducible exact H2_) | with_reducible exact H | (rw [hy132]; exact H) | exact H
   have Ny132 := ak_ hy132
   clear hy132
   obtain rfl := Option.some.inj H
   go_enter func27, ntmps27
   go_wp2_with (first | ((with_reducible refine gate_dst (N := 4) rfl ?_); (try (refine gate_guard (by rfl) ?_; dsimp only)); refine Kd.R_lit (Kd.int .u64) _ 23 ?hg (N := 4) ?hd (xs := ([1, 3] : List Int)) (inner := [.int .u64 1, .int .u64 3]) (ok := fun _ => True) (okp := fun _ => True) ?hr ?hp (fun _ hk => hk) trivial (Below.refl _ _) (Nat.le_refl _) (by simp) ?_; (case hd => rfl); (case hg => rfl); (case hr => first | (go_simp; done) | (go_simp; rfl)); (case hp => exact (Reps.one (show Kd.M (Kd.int .u64) _ _ _ 1 [.int .u64 1] from rfl) (Reps.one (show Kd.M (Kd.int .u64) _ _ _ 3 [.int .u64 3] from rfl) (Reps.none _ _)))); intro v126 w3 ho4 hb hg_ hnew_; clear hg_ hnew_; (first | rw [← Ny125.out] at ho4 | (simp only [Int.reduceToNat] at ho4; rw [← Ny125.out] at ho4)); have HO127 := ak_ (Kd.R_lower ho4 (bz_ (bl_ HB))); replace HB := ak_ (bt_ (bl_ HB) hb); clear hb ho4; obtain ⟨Ao5, co5, eo5⟩ := Kd.R_slice HO127.out; subst eo5) | ((with_reducible refine gate_callee (f := 28) rfl ?_); refine goesL_ (some 5) rfl rfl func28 (by kernel_rfl) rfl #[.int .i64 2, .slice Ao5 y125.length co5] rfl (by (try simp only [map_toArray, map_cons, map_nil]); first | done | rfl | (simp only [length_drop, length_take]; rfl)) ?_; (with_reducible refine (image_Set.calls k 2 _ _ y125 t128 t129 _ ?side1 ?side2 A1.out).mono ?_); (case side1 => repeat (first | exact (Kd.R_reads' HO127.out).2.2 | (with_reducible refine Kd.C_alloc ?_ _) | (with_reducible refine Kd.C_drewN ?_ _) | (with_reducible refine Kd.C_drew ?_))); (case side2 => exact (Kd.R_reads' HO127.out).2.1); rintro e w6 ⟨v130, rfl, ho0, hb⟩; refine ⟨_, rfl, ?_⟩; replace HO127 := ak_ (Kd.R_below (rl_ HO127) hb); have HO131 := ak_ (Kd.R_lower ho0 (bz_ (bl_ HB))); replace HB := ak_ (bt_ (bl_ HB) hb); (try clear hb); (try clear hk); (try clear ho0); have hcv7 := own_string (P := Try.prog) underlying35 underlying5 underlying9 (Kd.own_of_R HO131.out)) | ((with_reducible refine gate_dst (N := 13) rfl ?_); (try (refine gate_guard (by rfl) ?_; dsimp only)); refine Kd.R_lit (Kd.int .u8) _ 5 ?hg (N := 13) ?hd (xs := ([1, 0, 2, 2, 0, 0, 0, 1, 0, 0, 0, 0, 0, 0, 0, 1, 0, 0, 0, 0, 0, 0, 0] : List Int)) (inner := [.int .u8 1, .int .u8 0, .int .u8 2, .int .u8 2, .int .u8 0, .int .u8 0, .int .u8 0, .int .u8 1, .int .u8 0, .int .u8 0, .int .u8 0, .int .u8 0, .int .u8 0, .int .u8 0, .int .u8 0, .int .u8 1, .int .u8 0, .int .u8 0, .int .u8 0, .int .u8 0, .int .u8 0, .int .u8 0, .int .u8 0]) (ok := fun _ => True) (okp := fun _ => True) ?hr ?hp (fun _ hk => hk) trivial (Below.refl _ _) (Nat.le_refl _) (by simp) ?_; (case hd => rfl); (case hg => rfl); (case hr => first | (go_simp; done) | (go_simp; rfl)); (case hp => exact (Reps.one (show Kd.M (Kd.int .u8) _ _ _ 1 [.int .u8 1] from rfl) (Reps.one (show Kd.M (Kd.int .u8) _ _ _ 0 [.int .u8 0] from rfl) (Reps.one (show Kd.M (Kd.int .u8) _ _ _ 2 [.int .u8 2] from rfl) (Reps.one (show Kd.M (Kd.int .u8) _ _ _ 2 [.int .u8 2] from rfl) (Reps.one (show Kd.M (Kd.int .u8) _ _ _ 0 [.int .u8 0] from rfl) (Reps.one (show Kd.M (Kd.int .u8) _ _ _ 0 [.int .u8 0] from rfl) (Reps.one (show Kd.M (Kd.int .u8) _ _ _ 0 [.int .u8 0] from rfl) (Reps.one (show Kd.M (Kd.int .u8) _ _ _ 1 [.int .u8 1] from rfl) (Reps.one (show Kd.M (Kd.int .u8) _ _ _ 0 [.int .u8 0] from rfl) (Reps.one (show Kd.M (Kd.int .u8) _ _ _ 0 [.int .u8 0] from rfl) (Reps.one (show Kd.M (Kd.int .u8) _ _ _ 0 [.int .u8 0] from rfl) (Reps.one (show Kd.M (Kd.int .u8) _ _ _ 0 [.int .u8 0] from rfl) (Reps.one (show Kd.M (Kd.int .u8) _ _ _ 0 [.int .u8 0] from rfl) (Reps.one (show Kd.M (Kd.int .u8) _ _ _ 0 [.int .u8 0] from rfl) (Reps.one (show Kd.M (Kd.int .u8) _ _ _ 0 [.int .u8 0] from rfl) (Reps.one (show Kd.M (Kd.int .u8) _ _ _ 1 [.int .u8 1] from rfl) (Reps.one (show Kd.M (Kd.int .u8) _ _ _ 0 [.int .u8 0] from rfl) (Reps.one (show Kd.M (Kd.int .u8) _ _ _ 0 [.int .u8 0] from rfl) (Reps.one (show Kd.M (Kd.int .u8) _ _ _ 0 [.int .u8 0] from rfl) (Reps.one (show Kd.M (Kd.int .u8) _ _ _ 0 [.int .u8 0] from rfl) (Reps.one (show Kd.M (Kd.int .u8) _ _ _ 0 [.int .u8 0] from rfl) (Reps.one (show Kd.M (Kd.int .u8) _ _ _ 0 [.int .u8 0] from rfl) (Reps.one (show Kd.M (Kd.int .u8) _ _ _ 0 [.int .u8 0] from rfl) (Reps.none _ _))))))))))))))))))))))))); intro v133 w8 ho9 hb hg_ hnew_; clear hg_ hnew_; (first | rw [← Ny132.out] at ho9 | (simp only [Int.reduceToNat] at ho9; rw [← Ny132.out] at ho9)); replace HO127 := ak_ (Kd.R_below (rl_ HO127) hb); have HO134 := ak_ (Kd.R_lower (Kd.R_new' ho9 (Kd.R_lt (rl_ HO131))) (bz_ (bl_ HB))); replace HO131 := ak_ (Kd.R_elder' (rl_ HO131) (Kd.R_base ho9) hb); replace HB := ak_ (bt_ (bl_ HB) hb); clear hb ho9; have hcv10 := own_string (P := Try.prog) underlying35 underlying5 underlying9 (Kd.own_of_R HO134.out)))
   go_ret
   exact ea_ (bl_ HB)
  ·rw [if_neg c2] at H
   have c2b0 : (t129 == 0) = false := beq_eq_false_iff_ne.mpr c2
   have c2b1 : (t129 != 0) = true := bne_iff_ne.mpr c2
   obtain rfl := Option.some.inj H
   go_enter func27, ntmps27
   go_wp2_with (first | ((with_reducible refine gate_dst (N := 4) rfl ?_); (try (refine gate_guard (by rfl) ?_; dsimp only)); refine Kd.R_lit (Kd.int .u64) _ 23 ?hg (N := 4) ?hd (xs := ([1, 3] : List Int)) (inner := [.int .u64 1, .int .u64 3]) (ok := fun _ => True) (okp := fun _ => True) ?hr ?hp (fun _ hk => hk) trivial (Below.refl _ _) (Nat.le_refl _) (by simp) ?_; (case hd => rfl); (case hg => rfl); (case hr => first | (go_simp; done) | (go_simp; rfl)); (case hp => exact (Reps.one (show Kd.M (Kd.int .u64) _ _ _ 1 [.int .u64 1] from rfl) (Reps.one (show Kd.M (Kd.int .u64) _ _ _ 3 [.int .u64 3] from rfl) (Reps.none _ _)))); intro v126 w11 ho12 hb hg_ hnew_; clear hg_ hnew_; (first | rw [← Ny125.out] at ho12 | (simp only [Int.reduceToNat] at ho12; rw [← Ny125.out] at ho12)); have HO127 := ak_ (Kd.R_lower ho12 (bz_ (bl_ HB))); replace HB := ak_ (bt_ (bl_ HB) hb); clear hb ho12; obtain ⟨Ao13, co13, eo13⟩ := Kd.R_slice HO127.out; subst eo13) | ((with_reducible refine gate_callee (f := 28) rfl ?_); refine goesL_ (some 5) rfl rfl func28 (by kernel_rfl) rfl #[.int .i64 2, .slice Ao13 y125.length co13] rfl (by (try simp only [map_toArray, map_cons, map_nil]); first | done | rfl | (simp only [length_drop, length_take]; rfl)) ?_; (with_reducible refine (image_Set.calls k 2 _ _ y125 t128 t129 _ ?side1 ?side2 A1.out).mono ?_); (case side1 => repeat (first | exact (Kd.R_reads' HO127.out).2.2 | (with_reducible refine Kd.C_alloc ?_ _) | (with_reducible refine Kd.C_drewN ?_ _) | (with_reducible refine Kd.C_drew ?_))); (case side2 => exact (Kd.R_reads' HO127.out).2.1); rintro e w14 ⟨v130, rfl, ho0, hb⟩; refine ⟨_, rfl, ?_⟩; replace HO127 := ak_ (Kd.R_below (rl_ HO127) hb); have HO131 := ak_ (Kd.R_lower ho0 (bz_ (bl_ HB))); replace HB := ak_ (bt_ (bl_ HB) hb); (try clear hb); (try clear hk); (try clear ho0)))
   go_ret
   exact ea_ (bl_ HB)
def sub_Step.l0 : Nat → Int → Int → Option (Int × Int)
  | 0, _, _ => none
  | k + 1, x0, x5 => if (wrap64 (x5 * x5)) < x0 then (sub_Step.l0 k x0 (wrap64 (x5 + 1))) else (some (x5, 0))
def sub_Step.f (k : Nat) (a0 : Int) : Option (Int × Int) := (node_Check.f k a0 1).bind fun t135 => (if t135 = 0 then (sub_Step.l0 k a0 1) else (some (0, t135)))
theorem sub_Step.mono_l : ∀ k, (∀ y0 y1, LeO (sub_Step.l0 k y0 y1) (sub_Step.l0 (k + 1) y0 y1))
  | 0 => fun _ _ r h => by simp [sub_Step.l0] at h
  | k + 1 => by
   have ih0 := sub_Step.mono_l k
   ·intro y0 y1
    unfold sub_Step.l0
    repeat' first | (with_reducible first | exact ih0 .. | exact node_Check.mono .. | exact LeO.refl _ | exact LeO.none _ | refine LeO.ite ?_ ?_ | refine LeO.bind ?_ (fun _ => ?_)) | exact ih0 .. | exact node_Check.mono .. | refine LeO.ite ?_ ?_ | refine LeO.bind ?_ (fun _ => ?_)
theorem sub_Step.mono : ∀ a0 k, LeO (sub_Step.f k a0) (sub_Step.f (k + 1) a0) := by
  intro a0 k
  have ih0 := sub_Step.mono_l k
  unfold sub_Step.f
  repeat' first | (with_reducible first | exact ih0 .. | exact node_Check.mono .. | exact LeO.refl _ | exact LeO.none _ | refine LeO.ite ?_ ?_ | refine LeO.bind ?_ (fun _ => ?_)) | exact ih0 .. | exact node_Check.mono .. | refine LeO.ite ?_ ?_ | refine LeO.bind ?_ (fun _ => ?_)
set_option maxHeartbeats 8000000 in
set_option maxRecDepth 100000 in
theorem sub_Step.calls (k : Nat) (a0 : Int) (r1 : Int) (r2 : Int) (w : World) (h : sub_Step.f k a0 = some (r1, r2)) :
   Calls Try.prog 125 #[.int .i64 a0] w fun e w' => e = .returned (.tuple #[.int .i64 r1, .int .i64 r2]) ∧ Drawn0 w w' := by
  have H : ((node_Check.f k a0 1).bind fun t135 => (if t135 = 0 then (sub_Step.l0 k a0 1) else (some (0, t135)))) = some (r1, r2) := h
  clear h
  replace H := bind_eq_some_iff.mp H
  obtain ⟨t135, A20, H⟩ := H
  replace H : (if t135 = 0 then (sub_Step.l0 k a0 1) else (some (0, t135))) = some (r1, r2) := H
  have A2 := ak_ A20
  clear A20
  by_cases c3 : t135 = 0
  ·rw [if_pos c3] at H
   have c3b0 : (t135 == 0) = true := beq_iff_eq.mpr c3
   have c3b1 : (t135 != 0) = false := bne_eq_false_iff_eq.mpr c3
   clear c3
   have H' := ak_ H
   clear H
   go_enter func125, ntmps125
   go_wp2_with (first | ((with_reducible refine gate_callee (f := 46) rfl ?_); refine gl_ (some 7) func46 #[.int .i64 a0, .int .u64 1] ?_; (with_reducible refine (node_Check.calls k a0 1 t135 _ A2.out).mono ?_); rintro e w' ⟨rfl, ⟨nd, rfl⟩⟩; refine ⟨_, rfl, ?_⟩))
   go_loopg [5] k (fun kq v5 w' => ∃ (x5_1 : Int), v5 = .int .i64 x5_1 ∧ Aside0 (sub_Step.l0 kq a0 x5_1 = some (r1, r2)) ∧ Aside0 (kq ≤ k) ∧ Drawn0 w w')
   case atStart => exact ⟨(1), rf_, H', ⟨Nat.le_refl _⟩, by repeat (first | exact Drawn0.refl _ | apply Drawn0.step)⟩
   case round =>
    clear H'
    try clear c1
    try clear p2
    try clear c3
    try clear c3b0
    try clear c3b1
    obtain ⟨x5_1, rfl, HA, HK1, ⟨m1, rfl⟩⟩ := hrel
    cases gk with
    | zero => exact absurd HA.out (by simp [sub_Step.l0])
    | succ k1 =>
     have H := HA.out
     clear HA
     simp only [sub_Step.l0] at H
     by_cases c4 : (wrap64 (x5_1 * x5_1)) < a0
     ·rw [if_pos c4] at H
      have c4b0 := decide_eq_true c4
      clear c4
      have H' := ak_ H
      clear H
      go_wp2
      go_roundg k1
      case measure => have := HK1.out; omega
      case rel => exact ⟨(wrap64 (x5_1 + 1)), rf_, H', ⟨by have := HK1.out; omega⟩, by repeat (first | exact Drawn0.refl _ | apply Drawn0.step)⟩
     ·rw [if_neg c4] at H
      have c4b0 := decide_eq_false c4
      clear c4
      simp only [some.injEq, Prod.mk.injEq] at H
      obtain ⟨rfl, rfl⟩ := H
      go_wp2
      go_ret2
      exact ⟨by first | rfl | (simp; done) | (simp [*]; done), by repeat (first | exact Drawn0.refl _ | apply Drawn0.step)⟩
  ·rw [if_neg c3] at H
   have c3b0 : (t135 == 0) = false := beq_eq_false_iff_ne.mpr c3
   have c3b1 : (t135 != 0) = true := bne_iff_ne.mpr c3
   simp only [some.injEq, Prod.mk.injEq] at H
   obtain ⟨rfl, rfl⟩ := H
   go_enter func125, ntmps125
   go_wp2_with (first | ((with_reducible refine gate_callee (f := 46) rfl ?_); refine gl_ (some 7) func46 #[.int .i64 a0, .int .u64 1] ?_; (with_reducible refine (node_Check.calls k a0 1 t135 _ A2.out).mono ?_); rintro e w' ⟨rfl, ⟨nd, rfl⟩⟩; refine ⟨_, rfl, ?_⟩))
   go_ret2
   exact ⟨by first | rfl | (simp; done) | (simp [*]; done), by repeat (first | exact Drawn0.refl _ | apply Drawn0.step)⟩
def layer_Pairs.l0 : Nat → Int → Int → Int → Int → Int → Option (Int × Int)
  | 0, _, _, _, _, _ => none
  | k + 1, x0, x2, x4, x16, x17 => if x17 < x16 then (if x4 = 0 then (none) else (if (Int.tmod x17 x4) = 0 then (layer_Pairs.l0 k x0 (wrap64 (x2 + (wrap64 (x0 - x17)))) x4 x16 (wrap64 (x17 + 1))) else (layer_Pairs.l0 k x0 (wrap64 (x2 + (wrap64 ((mn (wrap64 ((wrap64 ((wrap64 (Int.tdiv x17 x4)) + 1)) * x4)) x0) - x17)))) x4 x16 (wrap64 (x17 + 1))))) else (some (x2, 0))
def layer_Pairs.f (k : Nat) (a0 : Int) : Option (Int × Int) := (sub_Step.f k a0).bind fun bt136 => (if bt136.2 = 0 then (layer_Pairs.l0 k a0 0 bt136.1 a0 0) else (some (0, bt136.2)))
theorem layer_Pairs.mono_l : ∀ k, (∀ y0 y1 y2 y3 y4, LeO (layer_Pairs.l0 k y0 y1 y2 y3 y4) (layer_Pairs.l0 (k + 1) y0 y1 y2 y3 y4))
  | 0 => fun _ _ _ _ _ r h => by simp [layer_Pairs.l0] at h
  | k + 1 => by
   have ih0 := layer_Pairs.mono_l k
   ·intro y0 y1 y2 y3 y4
    unfold layer_Pairs.l0
    repeat' first | (with_reducible first | exact ih0 .. | exact sub_Step.mono .. | exact LeO.refl _ | exact LeO.none _ | refine LeO.ite ?_ ?_ | refine LeO.bind ?_ (fun _ => ?_)) | exact ih0 .. | exact sub_Step.mono .. | refine LeO.ite ?_ ?_ | refine LeO.bind ?_ (fun _ => ?_)
theorem layer_Pairs.mono : ∀ a0 k, LeO (layer_Pairs.f k a0) (layer_Pairs.f (k + 1) a0) := by
  intro a0 k
  have ih0 := layer_Pairs.mono_l k
  unfold layer_Pairs.f
  repeat' first | (with_reducible first | exact ih0 .. | exact sub_Step.mono .. | exact LeO.refl _ | exact LeO.none _ | refine LeO.ite ?_ ?_ | refine LeO.bind ?_ (fun _ => ?_)) | exact ih0 .. | exact sub_Step.mono .. | refine LeO.ite ?_ ?_ | refine LeO.bind ?_ (fun _ => ?_)
set_option maxHeartbeats 8000000 in
set_option maxRecDepth 100000 in
theorem layer_Pairs.calls (k : Nat) (a0 : Int) (r1 : Int) (r2 : Int) (w : World) (h : layer_Pairs.f k a0 = some (r1, r2)) :
   Calls Try.prog 86 #[.int .i64 a0] w fun e w' => e = .returned (.tuple #[.int .i64 r1, .int .i64 r2]) ∧ Below w.heap.size w w' := by
  have HB := ak_ (Below.refl w.heap.size w)
  have H : ((sub_Step.f k a0).bind fun bt136 => (if bt136.2 = 0 then (layer_Pairs.l0 k a0 0 bt136.1 a0 0) else (some (0, bt136.2)))) = some (r1, r2) := h
  clear h
  replace H := bind_eq_some_iff.mp H
  obtain ⟨⟨t136, t137⟩, A20, H⟩ := H
  replace H : (if t137 = 0 then (layer_Pairs.l0 k a0 0 t136 a0 0) else (some (0, t137))) = some (r1, r2) := H
  have A2 := ak_ A20
  clear A20
  by_cases c3 : t137 = 0
  ·rw [if_pos c3] at H
   have c3b0 : (t137 == 0) = true := beq_iff_eq.mpr c3
   have c3b1 : (t137 != 0) = false := bne_eq_false_iff_eq.mpr c3
   clear c3
   have H' := ak_ H
   clear H
   go_enter func86, ntmps86
   go_wp2_with (first | ((with_reducible refine gate_callee (f := 125) rfl ?_); refine gl_ (some 10) func125 #[.int .i64 a0] ?_; (with_reducible refine (sub_Step.calls k a0 t136 t137 _ A2.out).mono ?_); rintro e w' ⟨rfl, ⟨nd, rfl⟩⟩; refine ⟨_, rfl, ?_⟩))
   go_loopg [2, 17] k (fun kq v2 v17 w' => ∃ (x2_1 : Int) (x17_1 : Int), v2 = .int .i64 x2_1 ∧ v17 = .int .i64 x17_1 ∧ Aside0 (layer_Pairs.l0 kq a0 x2_1 t136 a0 x17_1 = some (r1, r2)) ∧ Aside0 (kq ≤ k) ∧ Aside0 (Below w.heap.size w w'))
   case atStart => exact ⟨(0), (0), rf_, rf_, H', ⟨Nat.le_refl _⟩, ⟨bl_ HB⟩⟩
   case round =>
    clear H'
    try clear c1
    try clear p2
    try clear c3
    try clear c3b0
    try clear c3b1
    obtain ⟨x2_1, x17_1, rfl, rfl, HA, HK1, HB⟩ := hrel
    cases gk with
    | zero => exact absurd HA.out (by simp [layer_Pairs.l0])
    | succ k1 =>
     have H := HA.out
     clear HA
     simp only [layer_Pairs.l0] at H
     by_cases c4 : x17_1 < a0
     ·rw [if_pos c4] at H
      have c4b0 := decide_eq_true c4
      clear c4
      by_cases c5 : t136 = 0
      ·rw [if_pos c5] at H
       exact absurd H (by simp)
      ·rw [if_neg c5] at H
       have c5b0 : (t136 == 0) = false := beq_eq_false_iff_ne.mpr c5
       have c5b1 : (t136 != 0) = true := bne_iff_ne.mpr c5
       obtain ⟨ji6, hji6⟩ : ∃ j_ : Int, (mn (wrap64 ((wrap64 ((wrap64 (Int.tdiv x17_1 t136)) + 1)) * t136)) a0) = j_ := ⟨_, rfl⟩
       replace H : (if (Int.tmod x17_1 t136) = 0 then (layer_Pairs.l0 k1 a0 (wrap64 (x2_1 + (wrap64 (a0 - x17_1)))) t136 a0 (wrap64 (x17_1 + 1))) else (layer_Pairs.l0 k1 a0 (wrap64 (x2_1 + (wrap64 ((ji6) - x17_1)))) t136 a0 (wrap64 (x17_1 + 1)))) = some (r1, r2) := by first | (rw [hji6] at H; exact H) | (simp only [hji6] at H ⊢; exact H)
       have hji6_ : (if a0 < (wrap64 ((wrap64 ((wrap64 (Int.tdiv x17_1 t136)) + 1)) * t136)) then a0 else (wrap64 ((wrap64 ((wrap64 (Int.tdiv x17_1 t136)) + 1)) * t136))) = ji6 := hji6
       by_cases c7 : (Int.tmod x17_1 t136) = 0
       ·rw [if_pos c7] at H
        have c7b0 : ((Int.tmod x17_1 t136) == 0) = true := beq_iff_eq.mpr c7
        have c7b1 : ((Int.tmod x17_1 t136) != 0) = false := bne_eq_false_iff_eq.mpr c7
        clear c7
        have H' := ak_ H
        clear H
        go_wp2
        go_roundg k1
        case measure => have := HK1.out; omega
        case rel => exact ⟨(wrap64 (x2_1 + (wrap64 (a0 - x17_1)))), (wrap64 (x17_1 + 1)), rf_, rf_, H', ⟨by have := HK1.out; omega⟩, ⟨bl_ HB⟩⟩
       ·rw [if_neg c7] at H
        have c7b0 : ((Int.tmod x17_1 t136) == 0) = false := beq_eq_false_iff_ne.mpr c7
        have c7b1 : ((Int.tmod x17_1 t136) != 0) = true := bne_iff_ne.mpr c7
        have H' := ak_ H
        clear H
        go_wp2
        go_roundg k1
        case measure => have := HK1.out; omega
        case rel => exact ⟨(wrap64 (x2_1 + (wrap64 ((ji6) - x17_1)))), (wrap64 (x17_1 + 1)), (by first | rfl | (simp; done) | (simp only [← hji6] <;> (first | rfl | simp)) | (simp [*]; done)), rf_, H', ⟨by have := HK1.out; omega⟩, ⟨bl_ HB⟩⟩
     ·rw [if_neg c4] at H
      have c4b0 := decide_eq_false c4
      clear c4
      simp only [some.injEq, Prod.mk.injEq] at H
      obtain ⟨rfl, rfl⟩ := H
      go_wp2
      go_ret2
      exact ea_ (bl_ HB)
  ·rw [if_neg c3] at H
   have c3b0 : (t137 == 0) = false := beq_eq_false_iff_ne.mpr c3
   have c3b1 : (t137 != 0) = true := bne_iff_ne.mpr c3
   simp only [some.injEq, Prod.mk.injEq] at H
   obtain ⟨rfl, rfl⟩ := H
   go_enter func86, ntmps86
   go_wp2_with (first | ((with_reducible refine gate_callee (f := 125) rfl ?_); refine gl_ (some 10) func125 #[.int .i64 a0] ?_; (with_reducible refine (sub_Step.calls k a0 t136 t137 _ A2.out).mono ?_); rintro e w' ⟨rfl, ⟨nd, rfl⟩⟩; refine ⟨_, rfl, ?_⟩))
   go_ret2
   exact ea_ (bl_ HB)
def store_Many.f (k : Nat) (a0 : Int) (a1 : Int) : Option (Int × Int) := (layer_Pairs.f k a0).bind fun bt138 => (if bt138.2 = 0 then (if a1 = 1 then (some (wrap64 (a0 + 1), 0)) else (if a1 = 2 then (some (wrap64 ((wrap64 (Int.tdiv (wrap64 (a0 * (wrap64 (a0 + 1)))) 2)) + 1), 0)) else (if a1 = 3 then (some (wrap64 (bt138.1 + 1), 0)) else (some (0, 1))))) else (some (0, bt138.2)))
theorem store_Many.mono : ∀ a0 a1 k, LeO (store_Many.f k a0 a1) (store_Many.f (k + 1) a0 a1) := by
  intro a0 a1 k
  unfold store_Many.f
  repeat' first | (with_reducible first | exact layer_Pairs.mono .. | exact LeO.refl _ | exact LeO.none _ | refine LeO.ite ?_ ?_ | refine LeO.bind ?_ (fun _ => ?_)) | exact layer_Pairs.mono .. | refine LeO.ite ?_ ?_ | refine LeO.bind ?_ (fun _ => ?_)
set_option maxHeartbeats 8000000 in
set_option maxRecDepth 100000 in
theorem store_Many.calls (k : Nat) (a0 : Int) (a1 : Int) (r1 : Int) (r2 : Int) (w : World) (h : store_Many.f k a0 a1 = some (r1, r2)) :
   Calls Try.prog 40 #[.int .i64 a0, .int .i64 a1] w fun e w' => e = .returned (.tuple #[.int .i64 r1, .int .i64 r2]) ∧ Below w.heap.size w w' := by
  have HB := ak_ (Below.refl w.heap.size w)
  have H : ((layer_Pairs.f k a0).bind fun bt138 => (if bt138.2 = 0 then (if a1 = 1 then (some (wrap64 (a0 + 1), 0)) else (if a1 = 2 then (some (wrap64 ((wrap64 (Int.tdiv (wrap64 (a0 * (wrap64 (a0 + 1)))) 2)) + 1), 0)) else (if a1 = 3 then (some (wrap64 (bt138.1 + 1), 0)) else (some (0, 1))))) else (some (0, bt138.2)))) = some (r1, r2) := h
  clear h
  replace H := bind_eq_some_iff.mp H
  obtain ⟨⟨t138, t139⟩, A30, H⟩ := H
  replace H : (if t139 = 0 then (if a1 = 1 then (some (wrap64 (a0 + 1), 0)) else (if a1 = 2 then (some (wrap64 ((wrap64 (Int.tdiv (wrap64 (a0 * (wrap64 (a0 + 1)))) 2)) + 1), 0)) else (if a1 = 3 then (some (wrap64 (t138 + 1), 0)) else (some (0, 1))))) else (some (0, t139))) = some (r1, r2) := H
  have A3 := ak_ A30
  clear A30
  by_cases c4 : t139 = 0
  ·rw [if_pos c4] at H
   have c4b0 : (t139 == 0) = true := beq_iff_eq.mpr c4
   have c4b1 : (t139 != 0) = false := bne_eq_false_iff_eq.mpr c4
   clear c4
   by_cases c5 : a1 = 1
   ·rw [if_pos c5] at H
    have c5b0 : (a1 == 1) = true := beq_iff_eq.mpr c5
    have c5b1 : (a1 != 1) = false := bne_eq_false_iff_eq.mpr c5
    clear c5
    simp only [some.injEq, Prod.mk.injEq] at H
    obtain ⟨rfl, rfl⟩ := H
    go_enter func40, ntmps40
    go_wp2_with (first | ((with_reducible refine gate_callee (f := 86) rfl ?_); refine gl_ (some 10) func86 #[.int .i64 a0] ?_; (with_reducible refine (layer_Pairs.calls k a0 t138 t139 _ A3.out).mono ?_); rintro e w6 ⟨rfl, hb⟩; refine ⟨_, rfl, ?_⟩; replace HB := ak_ (bt_ (bl_ HB) hb); (try clear hb); (try clear hk)))
    go_ret2
    exact ea_ (bl_ HB)
   ·rw [if_neg c5] at H
    have c5b0 : (a1 == 1) = false := beq_eq_false_iff_ne.mpr c5
    have c5b1 : (a1 != 1) = true := bne_iff_ne.mpr c5
    by_cases c7 : a1 = 2
    ·rw [if_pos c7] at H
     have c7b0 : (a1 == 2) = true := beq_iff_eq.mpr c7
     have c7b1 : (a1 != 2) = false := bne_eq_false_iff_eq.mpr c7
     clear c7
     simp only [some.injEq, Prod.mk.injEq] at H
     obtain ⟨rfl, rfl⟩ := H
     go_enter func40, ntmps40
     go_wp2_with (first | ((with_reducible refine gate_callee (f := 86) rfl ?_); refine gl_ (some 10) func86 #[.int .i64 a0] ?_; (with_reducible refine (layer_Pairs.calls k a0 t138 t139 _ A3.out).mono ?_); rintro e w8 ⟨rfl, hb⟩; refine ⟨_, rfl, ?_⟩; replace HB := ak_ (bt_ (bl_ HB) hb); (try clear hb); (try clear hk)))
     go_ret2
     exact ea_ (bl_ HB)
    ·rw [if_neg c7] at H
     have c7b0 : (a1 == 2) = false := beq_eq_false_iff_ne.mpr c7
     have c7b1 : (a1 != 2) = true := bne_iff_ne.mpr c7
     by_cases c9 : a1 = 3
     ·rw [if_pos c9] at H
      have c9b0 : (a1 == 3) = true := beq_iff_eq.mpr c9
      have c9b1 : (a1 != 3) = false := bne_eq_false_iff_eq.mpr c9
      clear c9
      simp only [some.injEq, Prod.mk.injEq] at H
      obtain ⟨rfl, rfl⟩ := H
      go_enter func40, ntmps40
      go_wp2_with (first | ((with_reducible refine gate_callee (f := 86) rfl ?_); refine gl_ (some 10) func86 #[.int .i64 a0] ?_; (with_reducible refine (layer_Pairs.calls k a0 t138 t139 _ A3.out).mono ?_); rintro e w10 ⟨rfl, hb⟩; refine ⟨_, rfl, ?_⟩; replace HB := ak_ (bt_ (bl_ HB) hb); (try clear hb); (try clear hk)))
      go_ret2
      exact ea_ (bl_ HB)
     ·rw [if_neg c9] at H
      have c9b0 : (a1 == 3) = false := beq_eq_false_iff_ne.mpr c9
      have c9b1 : (a1 != 3) = true := bne_iff_ne.mpr c9
      simp only [some.injEq, Prod.mk.injEq] at H
      obtain ⟨rfl, rfl⟩ := H
      go_enter func40, ntmps40
      go_wp2_with (first | ((with_reducible refine gate_callee (f := 86) rfl ?_); refine gl_ (some 10) func86 #[.int .i64 a0] ?_; (with_reducible refine (layer_Pairs.calls k a0 t138 t139 _ A3.out).mono ?_); rintro e w11 ⟨rfl, hb⟩; refine ⟨_, rfl, ?_⟩; replace HB := ak_ (bt_ (bl_ HB) hb); (try clear hb); (try clear hk)))
      go_ret2
      exact ea_ (bl_ HB)
  ·rw [if_neg c4] at H
   have c4b0 : (t139 == 0) = false := beq_eq_false_iff_ne.mpr c4
   have c4b1 : (t139 != 0) = true := bne_iff_ne.mpr c4
   simp only [some.injEq, Prod.mk.injEq] at H
   obtain ⟨rfl, rfl⟩ := H
   go_enter func40, ntmps40
   go_wp2_with (first | ((with_reducible refine gate_callee (f := 86) rfl ?_); refine gl_ (some 10) func86 #[.int .i64 a0] ?_; (with_reducible refine (layer_Pairs.calls k a0 t138 t139 _ A3.out).mono ?_); rintro e w12 ⟨rfl, hb⟩; refine ⟨_, rfl, ?_⟩; replace HB := ak_ (bt_ (bl_ HB) hb); (try clear hb); (try clear hk)))
   go_ret2
   exact ea_ (bl_ HB)
def node_both.f (k : Nat) (a0 : Int) (a1 : Int) (a2 : Int) : Option (Int) := (node_Check.f k a0 a1).bind fun t140 => (if t140 = 0 then ((node_Check.f k a0 a2).bind fun t141 => (if t141 = 0 then (some 0) else (some 1))) else (some 1))
theorem node_both.mono : ∀ a0 a1 a2 k, LeO (node_both.f k a0 a1 a2) (node_both.f (k + 1) a0 a1 a2) := by
  intro a0 a1 a2 k
  unfold node_both.f
  repeat' first | (with_reducible first | exact node_Check.mono .. | exact LeO.refl _ | exact LeO.none _ | refine LeO.ite ?_ ?_ | refine LeO.bind ?_ (fun _ => ?_)) | exact node_Check.mono .. | refine LeO.ite ?_ ?_ | refine LeO.bind ?_ (fun _ => ?_)
set_option maxHeartbeats 8000000 in
set_option maxRecDepth 100000 in
theorem node_both.calls (k : Nat) (a0 : Int) (a1 : Int) (a2 : Int) (r : Int) (w : World) (h : node_both.f k a0 a1 a2 = some r) :
   Calls Try.prog 153 #[.int .i64 a0, .int .u64 a1, .int .u64 a2] w fun e w' => e = .returned (.int .i64 r) ∧ Drawn0 w w' := by
  have H : ((node_Check.f k a0 a1).bind fun t140 => (if t140 = 0 then ((node_Check.f k a0 a2).bind fun t141 => (if t141 = 0 then (some 0) else (some 1))) else (some 1))) = some r := h
  clear h
  replace H := bind_eq_some_iff.mp H
  obtain ⟨t140, A40, H⟩ := H
  replace H : (if t140 = 0 then ((node_Check.f k a0 a2).bind fun t141 => (if t141 = 0 then (some 0) else (some 1))) else (some 1)) = some r := H
  have A4 := ak_ A40
  clear A40
  by_cases c5 : t140 = 0
  ·rw [if_pos c5] at H
   have c5b0 : (t140 == 0) = true := beq_iff_eq.mpr c5
   have c5b1 : (t140 != 0) = false := bne_eq_false_iff_eq.mpr c5
   clear c5
   replace H := bind_eq_some_iff.mp H
   obtain ⟨t141, A60, H⟩ := H
   replace H : (if t141 = 0 then (some 0) else (some 1)) = some r := H
   have A6 := ak_ A60
   clear A60
   by_cases c7 : t141 = 0
   ·rw [if_pos c7] at H
    have c7b0 : (t141 == 0) = true := beq_iff_eq.mpr c7
    have c7b1 : (t141 != 0) = false := bne_eq_false_iff_eq.mpr c7
    clear c7
    obtain rfl := Option.some.inj H
    go_enter func153, ntmps153
    go_wp2_with (first | ((with_reducible refine gate_callee (f := 46) rfl ?_); refine gl_ (some 9) func46 #[.int .i64 a0, .int .u64 a1] ?_; (with_reducible refine (node_Check.calls k a0 a1 t140 _ A4.out).mono ?_); rintro e w' ⟨rfl, ⟨nd, rfl⟩⟩; refine ⟨_, rfl, ?_⟩) | (go_at_call 46; (with_reducible refine (node_Check.calls k a0 a2 t141 _ A6.out).mono ?_); rintro e w' ⟨rfl, ⟨nd, rfl⟩⟩))
    go_ret
    exact ⟨by first | rfl | (simp; done) | (simp [*]; done), by repeat (first | exact Drawn0.refl _ | apply Drawn0.step)⟩
   ·rw [if_neg c7] at H
    have c7b0 : (t141 == 0) = false := beq_eq_false_iff_ne.mpr c7
    have c7b1 : (t141 != 0) = true := bne_iff_ne.mpr c7
    obtain rfl := Option.some.inj H
    go_enter func153, ntmps153
    go_wp2_with (first | ((with_reducible refine gate_callee (f := 46) rfl ?_); refine gl_ (some 9) func46 #[.int .i64 a0, .int .u64 a1] ?_; (with_reducible refine (node_Check.calls k a0 a1 t140 _ A4.out).mono ?_); rintro e w' ⟨rfl, ⟨nd, rfl⟩⟩; refine ⟨_, rfl, ?_⟩) | (go_at_call 46; (with_reducible refine (node_Check.calls k a0 a2 t141 _ A6.out).mono ?_); rintro e w' ⟨rfl, ⟨nd, rfl⟩⟩))
    go_ret
    exact ⟨by first | rfl | (simp; done) | (simp [*]; done), by repeat (first | exact Drawn0.refl _ | apply Drawn0.step)⟩
  ·rw [if_neg c5] at H
   have c5b0 : (t140 == 0) = false := beq_eq_false_iff_ne.mpr c5
   have c5b1 : (t140 != 0) = true := bne_iff_ne.mpr c5
   obtain rfl := Option.some.inj H
   go_enter func153, ntmps153
   go_wp2_with (first | ((with_reducible refine gate_callee (f := 46) rfl ?_); refine gl_ (some 9) func46 #[.int .i64 a0, .int .u64 a1] ?_; (with_reducible refine (node_Check.calls k a0 a1 t140 _ A4.out).mono ?_); rintro e w' ⟨rfl, ⟨nd, rfl⟩⟩; refine ⟨_, rfl, ?_⟩))
   go_ret
   exact ⟨by first | rfl | (simp; done) | (simp [*]; done), by repeat (first | exact Drawn0.refl _ | apply Drawn0.step)⟩
def node_above.f (k : Nat) (a0 : Int) (a1 : Int) : Option (Bool) := (node_depth.f k a0).bind fun t142 => ((node_depth.f k a1).bind fun t143 => (if t142 ≤ t143 then ((node_depth.f k a1).bind fun t144 => ((node_depth.f k a0).bind fun t145 => (if 0 ≤ (wrap64 (t144 - t145)) then (some ((shr .u64 a1 (wrap64 (t144 - t145))) == a0)) else (none)))) else (some false)))
theorem node_above.mono : ∀ a0 a1 k, LeO (node_above.f k a0 a1) (node_above.f (k + 1) a0 a1) := by
  intro a0 a1 k
  unfold node_above.f
  repeat' first | (with_reducible first | exact node_depth.mono .. | exact LeO.refl _ | exact LeO.none _ | refine LeO.ite ?_ ?_ | refine LeO.bind ?_ (fun _ => ?_)) | exact node_depth.mono .. | refine LeO.ite ?_ ?_ | refine LeO.bind ?_ (fun _ => ?_)
set_option maxHeartbeats 8000000 in
set_option maxRecDepth 100000 in
theorem node_above.calls (k : Nat) (a0 : Int) (a1 : Int) (r : Bool) (w : World) (h : node_above.f k a0 a1 = some r) :
   Calls Try.prog 154 #[.int .u64 a0, .int .u64 a1] w fun e w' => e = .returned (.bool r) ∧ Drawn0 w w' := by
  have H : ((node_depth.f k a0).bind fun t142 => ((node_depth.f k a1).bind fun t143 => (if t142 ≤ t143 then ((node_depth.f k a1).bind fun t144 => ((node_depth.f k a0).bind fun t145 => (if 0 ≤ (wrap64 (t144 - t145)) then (some ((shr .u64 a1 (wrap64 (t144 - t145))) == a0)) else (none)))) else (some false)))) = some r := h
  clear h
  replace H := bind_eq_some_iff.mp H
  obtain ⟨t142, A30, H⟩ := H
  replace H : ((node_depth.f k a1).bind fun t143 => (if t142 ≤ t143 then ((node_depth.f k a1).bind fun t144 => ((node_depth.f k a0).bind fun t145 => (if 0 ≤ (wrap64 (t144 - t145)) then (some ((shr .u64 a1 (wrap64 (t144 - t145))) == a0)) else (none)))) else (some false))) = some r := H
  have A3 := ak_ A30
  clear A30
  replace H := bind_eq_some_iff.mp H
  obtain ⟨t143, A40, H⟩ := H
  replace H : (if t142 ≤ t143 then ((node_depth.f k a1).bind fun t144 => ((node_depth.f k a0).bind fun t145 => (if 0 ≤ (wrap64 (t144 - t145)) then (some ((shr .u64 a1 (wrap64 (t144 - t145))) == a0)) else (none)))) else (some false)) = some r := H
  have A4 := ak_ A40
  clear A40
  by_cases c5 : t142 ≤ t143
  ·rw [if_pos c5] at H
   have c5b0 := decide_eq_true c5
   clear c5
   replace H := bind_eq_some_iff.mp H
   obtain ⟨t144, A60, H⟩ := H
   replace H : ((node_depth.f k a0).bind fun t145 => (if 0 ≤ (wrap64 (t144 - t145)) then (some ((shr .u64 a1 (wrap64 (t144 - t145))) == a0)) else (none))) = some r := H
   have A6 := ak_ A60
   clear A60
   replace H := bind_eq_some_iff.mp H
   obtain ⟨t145, A70, H⟩ := H
   replace H : (if 0 ≤ (wrap64 (t144 - t145)) then (some ((shr .u64 a1 (wrap64 (t144 - t145))) == a0)) else (none)) = some r := H
   have A7 := ak_ A70
   clear A70
   obtain ⟨ji8, hji8⟩ : ∃ j_ : Int, (wrap64 (t144 - t145)) = j_ := ⟨_, rfl⟩
   replace H : (if 0 ≤ (ji8) then (some ((shr .u64 a1 (ji8)) == a0)) else (none)) = some r := by first | (rw [hji8] at H; exact H) | (simp only [hji8] at H ⊢; exact H)
   (try rw [hji8] at A3)
   (try rw [hji8] at A4)
   (try rw [hji8] at A6)
   (try rw [hji8] at A7)
   have hji8w : (IntKind.i64.wrap (t144 - t145)) = ji8 := (i64_w _).trans hji8
   by_cases c9 : 0 ≤ (ji8)
   ·rw [if_pos c9] at H
    have c9b0 := eq_true c9
    have c9b1 := decide_eq_true c9
    clear c9
    obtain ⟨ji10, hji10⟩ : ∃ j_ : Int, (shr .u64 a1 (ji8)) = j_ := ⟨_, rfl⟩
    replace H : (some ((ji10) == a0)) = some r := by first | (rw [hji10] at H; exact H) | (simp only [hji10] at H ⊢; exact H)
    (try rw [hji10] at A3)
    (try rw [hji10] at A4)
    (try rw [hji10] at A6)
    (try rw [hji10] at A7)
    have hji10_ : (a1 / 2 ^ min (ji8).toNat 64) = ji10 := hji10
    have hji10z : (ji8) ≤ 64 → (a1 / 2 ^ (ji8).toNat) = ji10 := shr_small hji10
    obtain rfl := Option.some.inj H
    go_enter func154, ntmps154
    go_wp2_with (first | ((with_reducible refine gate_callee (f := 95) rfl ?_); refine gl_ (some 6) func95 #[.int .u64 a0] ?_; (with_reducible refine (node_depth.calls k a0 t142 _ A3.out).mono ?_); rintro e w' ⟨rfl, ⟨nd, rfl⟩⟩; refine ⟨_, rfl, ?_⟩) | ((with_reducible refine gate_callee (f := 95) rfl ?_); refine gl_ (some 8) func95 #[.int .u64 a1] ?_; (with_reducible refine (node_depth.calls k a1 t143 _ A4.out).mono ?_); rintro e w' ⟨rfl, ⟨nd, rfl⟩⟩; refine ⟨_, rfl, ?_⟩) | (go_at_call 95; (with_reducible refine (node_depth.calls k a1 t144 _ A6.out).mono ?_); rintro e w' ⟨rfl, ⟨nd, rfl⟩⟩) | (go_at_call 95; (with_reducible refine (node_depth.calls k a0 t145 _ A7.out).mono ?_); rintro e w' ⟨rfl, ⟨nd, rfl⟩⟩))
    go_ret
    exact ⟨by first | rfl | (simp; done) | (simp only [← hji8, ← hji10] <;> (first | rfl | simp)) | (simp [*]; done), by repeat (first | exact Drawn0.refl _ | apply Drawn0.step)⟩
   ·rw [if_neg c9] at H
    exact absurd H (by simp)
  ·rw [if_neg c5] at H
   have c5b0 := decide_eq_false c5
   clear c5
   obtain rfl := Option.some.inj H
   go_enter func154, ntmps154
   go_wp2_with (first | ((with_reducible refine gate_callee (f := 95) rfl ?_); refine gl_ (some 6) func95 #[.int .u64 a0] ?_; (with_reducible refine (node_depth.calls k a0 t142 _ A3.out).mono ?_); rintro e w' ⟨rfl, ⟨nd, rfl⟩⟩; refine ⟨_, rfl, ?_⟩) | ((with_reducible refine gate_callee (f := 95) rfl ?_); refine gl_ (some 8) func95 #[.int .u64 a1] ?_; (with_reducible refine (node_depth.calls k a1 t143 _ A4.out).mono ?_); rintro e w' ⟨rfl, ⟨nd, rfl⟩⟩; refine ⟨_, rfl, ?_⟩))
   go_ret
   exact ⟨by first | rfl | (simp; done) | (simp [*]; done), by repeat (first | exact Drawn0.refl _ | apply Drawn0.step)⟩
def node_Above.f (k : Nat) (a0 : Int) (a1 : Int) (a2 : Int) : Option (Bool × Int) := (node_both.f k a0 a1 a2).bind fun t146 => (if t146 = 0 then ((node_above.f k a1 a2).bind fun t147 => (some (t147, 0))) else (some (false, t146)))
theorem node_Above.mono : ∀ a0 a1 a2 k, LeO (node_Above.f k a0 a1 a2) (node_Above.f (k + 1) a0 a1 a2) := by
  intro a0 a1 a2 k
  unfold node_Above.f
  repeat' first | (with_reducible first | exact node_above.mono .. | exact node_both.mono .. | exact LeO.refl _ | exact LeO.none _ | refine LeO.ite ?_ ?_ | refine LeO.bind ?_ (fun _ => ?_)) | exact node_above.mono .. | exact node_both.mono .. | refine LeO.ite ?_ ?_ | refine LeO.bind ?_ (fun _ => ?_)
set_option maxHeartbeats 8000000 in
set_option maxRecDepth 100000 in
theorem node_Above.calls (k : Nat) (a0 : Int) (a1 : Int) (a2 : Int) (r1 : Bool) (r2 : Int) (w : World) (h : node_Above.f k a0 a1 a2 = some (r1, r2)) :
   Calls Try.prog 136 #[.int .i64 a0, .int .u64 a1, .int .u64 a2] w fun e w' => e = .returned (.tuple #[.bool r1, .int .i64 r2]) ∧ Drawn0 w w' := by
  have H : ((node_both.f k a0 a1 a2).bind fun t146 => (if t146 = 0 then ((node_above.f k a1 a2).bind fun t147 => (some (t147, 0))) else (some (false, t146)))) = some (r1, r2) := h
  clear h
  replace H := bind_eq_some_iff.mp H
  obtain ⟨t146, A40, H⟩ := H
  replace H : (if t146 = 0 then ((node_above.f k a1 a2).bind fun t147 => (some (t147, 0))) else (some (false, t146))) = some (r1, r2) := H
  have A4 := ak_ A40
  clear A40
  by_cases c5 : t146 = 0
  ·rw [if_pos c5] at H
   have c5b0 : (t146 == 0) = true := beq_iff_eq.mpr c5
   have c5b1 : (t146 != 0) = false := bne_eq_false_iff_eq.mpr c5
   clear c5
   replace H := bind_eq_some_iff.mp H
   obtain ⟨t147, A60, H⟩ := H
   replace H : (some (t147, 0)) = some (r1, r2) := H
   have A6 := ak_ A60
   clear A60
   simp only [some.injEq, Prod.mk.injEq] at H
   obtain ⟨rfl, rfl⟩ := H
   go_enter func136, ntmps136
   go_wp2_with (first | ((with_reducible refine gate_callee (f := 153) rfl ?_); refine gl_ (some 12) func153 #[.int .i64 a0, .int .u64 a1, .int .u64 a2] ?_; (with_reducible refine (node_both.calls k a0 a1 a2 t146 _ A4.out).mono ?_); rintro e w' ⟨rfl, ⟨nd, rfl⟩⟩; refine ⟨_, rfl, ?_⟩) | ((with_reducible refine gate_callee (f := 154) rfl ?_); refine gl_ (some 18) func154 #[.int .u64 a1, .int .u64 a2] ?_; (with_reducible refine (node_above.calls k a1 a2 t147 _ A6.out).mono ?_); rintro e w' ⟨rfl, ⟨nd, rfl⟩⟩; refine ⟨_, rfl, ?_⟩))
   go_ret2
   exact ⟨by first | rfl | (simp; done) | (simp [*]; done), by repeat (first | exact Drawn0.refl _ | apply Drawn0.step)⟩
  ·rw [if_neg c5] at H
   have c5b0 : (t146 == 0) = false := beq_eq_false_iff_ne.mpr c5
   have c5b1 : (t146 != 0) = true := bne_iff_ne.mpr c5
   simp only [some.injEq, Prod.mk.injEq] at H
   obtain ⟨rfl, rfl⟩ := H
   go_enter func136, ntmps136
   go_wp2_with (first | ((with_reducible refine gate_callee (f := 153) rfl ?_); refine gl_ (some 12) func153 #[.int .i64 a0, .int .u64 a1, .int .u64 a2] ?_; (with_reducible refine (node_both.calls k a0 a1 a2 t146 _ A4.out).mono ?_); rintro e w' ⟨rfl, ⟨nd, rfl⟩⟩; refine ⟨_, rfl, ?_⟩))
   go_ret2
   exact ⟨by first | rfl | (simp; done) | (simp [*]; done), by repeat (first | exact Drawn0.refl _ | apply Drawn0.step)⟩
def sub_Check.f (k : Nat) (a0 : Int) (a1_0 : Int) (a1_1 : Int) : Option (Int) := if a1_1 = 0 then ((node_Check.f k a0 a1_0).bind fun t149 => (some t149)) else ((node_Above.f k a0 a1_0 a1_1).bind fun bt150 => (if bt150.2 = 0 then (if bt150.1 = true then (if a1_0 = a1_1 then (some 1) else (some 0)) else (some 1)) else (some 1)))
theorem sub_Check.mono : ∀ a0 a1 a2 k, LeO (sub_Check.f k a0 a1 a2) (sub_Check.f (k + 1) a0 a1 a2) := by
  intro a0 a1 a2 k
  unfold sub_Check.f
  repeat' first | (with_reducible first | exact node_Above.mono .. | exact node_Check.mono .. | exact LeO.refl _ | exact LeO.none _ | refine LeO.ite ?_ ?_ | refine LeO.bind ?_ (fun _ => ?_)) | exact node_Above.mono .. | exact node_Check.mono .. | refine LeO.ite ?_ ?_ | refine LeO.bind ?_ (fun _ => ?_)
set_option maxHeartbeats 8000000 in
set_option maxRecDepth 100000 in
theorem sub_Check.calls (k : Nat) (a0 : Int) (a1_0 : Int) (a1_1 : Int) (r : Int) (w : World) (h : sub_Check.f k a0 a1_0 a1_1 = some r) :
   Calls Try.prog 97 #[.int .i64 a0, .agg #[.int .u64 a1_0, .int .u64 a1_1]] w fun e w' => e = .returned (.int .i64 r) ∧ Below w.heap.size w w' := by
  have hu39 := underlying39
  have HB := ak_ (Below.refl w.heap.size w)
  have H : (if a1_1 = 0 then ((node_Check.f k a0 a1_0).bind fun t149 => (some t149)) else ((node_Above.f k a0 a1_0 a1_1).bind fun bt150 => (if bt150.2 = 0 then (if bt150.1 = true then (if a1_0 = a1_1 then (some 1) else (some 0)) else (some 1)) else (some 1)))) = some r := h
  clear h
  by_cases c3 : a1_1 = 0
  ·rw [if_pos c3] at H
   have c3b0 : (a1_1 == 0) = true := beq_iff_eq.mpr c3
   have c3b1 : (a1_1 != 0) = false := bne_eq_false_iff_eq.mpr c3
   clear c3
   replace H := bind_eq_some_iff.mp H
   obtain ⟨t149, A40, H⟩ := H
   replace H : (some t149) = some r := H
   have A4 := ak_ A40
   clear A40
   obtain rfl := Option.some.inj H
   go_enter func97, ntmps97
   go_wp2_with (first | ((with_reducible refine gate_dst (N := 3) rfl ?_); refine bx_ 3 #[.int .u64 a1_0, .int .u64 a1_1] 39 ?_; intro gb148 hg w5 hbox hb; have BK148 := ak_ hbox; have GW148 := ak_ (gs_ hg HB); have GE148 := ak_ (gs_ hg HB); replace HB := ak_ (bt_ (bl_ HB) hb); clear hb hbox hg; obtain ⟨hcz6_0, hcz6_1, hfz6_0, hfz6_1⟩ := kc2_ BK148.out) | ((with_reducible refine gate_callee (f := 46) rfl ?_); refine gl_ (some 13) func46 #[.int .i64 a0, .int .u64 a1_0] ?_; (with_reducible refine (node_Check.calls k a0 a1_0 t149 _ A4.out).mono ?_); rintro e w' ⟨rfl, ⟨nd, rfl⟩⟩; refine ⟨_, rfl, ?_⟩))
   go_ret
   exact ea_ (bw1_ HB GE148)
  ·rw [if_neg c3] at H
   have c3b0 : (a1_1 == 0) = false := beq_eq_false_iff_ne.mpr c3
   have c3b1 : (a1_1 != 0) = true := bne_iff_ne.mpr c3
   replace H := bind_eq_some_iff.mp H
   obtain ⟨⟨t150, t151⟩, A70, H⟩ := H
   replace H : (if t151 = 0 then (if t150 = true then (if a1_0 = a1_1 then (some 1) else (some 0)) else (some 1)) else (some 1)) = some r := H
   have A7 := ak_ A70
   clear A70
   by_cases c8 : t151 = 0
   ·rw [if_pos c8] at H
    have c8b0 : (t151 == 0) = true := beq_iff_eq.mpr c8
    have c8b1 : (t151 != 0) = false := bne_eq_false_iff_eq.mpr c8
    clear c8
    by_cases c9 : t150 = true
    ·subst c9
     have H1 : (if a1_0 = a1_1 then (some 1) else (some 0)) = some r := by rw [if_pos rfl] at H; exact H
     clear H
     have H := H1
     clear H1
     by_cases c10 : a1_0 = a1_1
     ·rw [if_pos c10] at H
      have c10b0 : (a1_0 == a1_1) = true := beq_iff_eq.mpr c10
      have c10b1 : (a1_0 != a1_1) = false := bne_eq_false_iff_eq.mpr c10
      clear c10
      obtain rfl := Option.some.inj H
      go_enter func97, ntmps97
      go_wp2_with (first | ((with_reducible refine gate_dst (N := 3) rfl ?_); refine bx_ 3 #[.int .u64 a1_0, .int .u64 a1_1] 39 ?_; intro gb148 hg w11 hbox hb; have BK148 := ak_ hbox; have GW148 := ak_ (gs_ hg HB); have GE148 := ak_ (gs_ hg HB); replace HB := ak_ (bt_ (bl_ HB) hb); clear hb hbox hg; obtain ⟨hcz12_0, hcz12_1, hfz12_0, hfz12_1⟩ := kc2_ BK148.out) | ((with_reducible refine gate_callee (f := 136) rfl ?_); refine gl_ (some 20) func136 #[.int .i64 a0, .int .u64 a1_0, .int .u64 a1_1] ?_; (with_reducible refine (node_Above.calls k a0 a1_0 a1_1 true t151 _ A7.out).mono ?_); rintro e w' ⟨rfl, ⟨nd, rfl⟩⟩; refine ⟨_, rfl, ?_⟩))
      go_ret
      exact ea_ (bw1_ HB GE148)
     ·rw [if_neg c10] at H
      have c10b0 : (a1_0 == a1_1) = false := beq_eq_false_iff_ne.mpr c10
      have c10b1 : (a1_0 != a1_1) = true := bne_iff_ne.mpr c10
      obtain rfl := Option.some.inj H
      go_enter func97, ntmps97
      go_wp2_with (first | ((with_reducible refine gate_dst (N := 3) rfl ?_); refine bx_ 3 #[.int .u64 a1_0, .int .u64 a1_1] 39 ?_; intro gb148 hg w13 hbox hb; have BK148 := ak_ hbox; have GW148 := ak_ (gs_ hg HB); have GE148 := ak_ (gs_ hg HB); replace HB := ak_ (bt_ (bl_ HB) hb); clear hb hbox hg; obtain ⟨hcz14_0, hcz14_1, hfz14_0, hfz14_1⟩ := kc2_ BK148.out) | ((with_reducible refine gate_callee (f := 136) rfl ?_); refine gl_ (some 20) func136 #[.int .i64 a0, .int .u64 a1_0, .int .u64 a1_1] ?_; (with_reducible refine (node_Above.calls k a0 a1_0 a1_1 true t151 _ A7.out).mono ?_); rintro e w' ⟨rfl, ⟨nd, rfl⟩⟩; refine ⟨_, rfl, ?_⟩))
      go_ret
      exact ea_ (bw1_ HB GE148)
    ·replace c9 := Bool.eq_false_iff.mpr c9
     subst c9
     have H1 : (some 1) = some r := by rw [if_neg (show ¬ (false = true) by decide)] at H; exact H
     clear H
     have H := H1
     clear H1
     obtain rfl := Option.some.inj H
     go_enter func97, ntmps97
     go_wp2_with (first | ((with_reducible refine gate_dst (N := 3) rfl ?_); refine bx_ 3 #[.int .u64 a1_0, .int .u64 a1_1] 39 ?_; intro gb148 hg w15 hbox hb; have BK148 := ak_ hbox; have GW148 := ak_ (gs_ hg HB); have GE148 := ak_ (gs_ hg HB); replace HB := ak_ (bt_ (bl_ HB) hb); clear hb hbox hg; obtain ⟨hcz16_0, hcz16_1, hfz16_0, hfz16_1⟩ := kc2_ BK148.out) | ((with_reducible refine gate_callee (f := 136) rfl ?_); refine gl_ (some 20) func136 #[.int .i64 a0, .int .u64 a1_0, .int .u64 a1_1] ?_; (with_reducible refine (node_Above.calls k a0 a1_0 a1_1 false t151 _ A7.out).mono ?_); rintro e w' ⟨rfl, ⟨nd, rfl⟩⟩; refine ⟨_, rfl, ?_⟩))
     go_ret
     exact ea_ (bw1_ HB GE148)
   ·rw [if_neg c8] at H
    have c8b0 : (t151 == 0) = false := beq_eq_false_iff_ne.mpr c8
    have c8b1 : (t151 != 0) = true := bne_iff_ne.mpr c8
    obtain rfl := Option.some.inj H
    go_enter func97, ntmps97
    go_wp2_with (first | ((with_reducible refine gate_dst (N := 3) rfl ?_); refine bx_ 3 #[.int .u64 a1_0, .int .u64 a1_1] 39 ?_; intro gb148 hg w17 hbox hb; have BK148 := ak_ hbox; have GW148 := ak_ (gs_ hg HB); have GE148 := ak_ (gs_ hg HB); replace HB := ak_ (bt_ (bl_ HB) hb); clear hb hbox hg; obtain ⟨hcz18_0, hcz18_1, hfz18_0, hfz18_1⟩ := kc2_ BK148.out) | ((with_reducible refine gate_callee (f := 136) rfl ?_); refine gl_ (some 20) func136 #[.int .i64 a0, .int .u64 a1_0, .int .u64 a1_1] ?_; (with_reducible refine (node_Above.calls k a0 a1_0 a1_1 t150 t151 _ A7.out).mono ?_); rintro e w' ⟨rfl, ⟨nd, rfl⟩⟩; refine ⟨_, rfl, ?_⟩))
    go_ret
    exact ea_ (bw1_ HB GE148)
def node_Depth.f (k : Nat) (a0 : Int) (a1 : Int) : Option (Int × Int) := (node_Check.f k a0 a1).bind fun t152 => (if t152 = 0 then ((node_depth.f k a1).bind fun t153 => (some (t153, 0))) else (some (0, t152)))
theorem node_Depth.mono : ∀ a0 a1 k, LeO (node_Depth.f k a0 a1) (node_Depth.f (k + 1) a0 a1) := by
  intro a0 a1 k
  unfold node_Depth.f
  repeat' first | (with_reducible first | exact node_Check.mono .. | exact node_depth.mono .. | exact LeO.refl _ | exact LeO.none _ | refine LeO.ite ?_ ?_ | refine LeO.bind ?_ (fun _ => ?_)) | exact node_Check.mono .. | exact node_depth.mono .. | refine LeO.ite ?_ ?_ | refine LeO.bind ?_ (fun _ => ?_)
set_option maxHeartbeats 8000000 in
set_option maxRecDepth 100000 in
theorem node_Depth.calls (k : Nat) (a0 : Int) (a1 : Int) (r1 : Int) (r2 : Int) (w : World) (h : node_Depth.f k a0 a1 = some (r1, r2)) :
   Calls Try.prog 155 #[.int .i64 a0, .int .u64 a1] w fun e w' => e = .returned (.tuple #[.int .i64 r1, .int .i64 r2]) ∧ Drawn0 w w' := by
  have H : ((node_Check.f k a0 a1).bind fun t152 => (if t152 = 0 then ((node_depth.f k a1).bind fun t153 => (some (t153, 0))) else (some (0, t152)))) = some (r1, r2) := h
  clear h
  replace H := bind_eq_some_iff.mp H
  obtain ⟨t152, A30, H⟩ := H
  replace H : (if t152 = 0 then ((node_depth.f k a1).bind fun t153 => (some (t153, 0))) else (some (0, t152))) = some (r1, r2) := H
  have A3 := ak_ A30
  clear A30
  by_cases c4 : t152 = 0
  ·rw [if_pos c4] at H
   have c4b0 : (t152 == 0) = true := beq_iff_eq.mpr c4
   have c4b1 : (t152 != 0) = false := bne_eq_false_iff_eq.mpr c4
   clear c4
   replace H := bind_eq_some_iff.mp H
   obtain ⟨t153, A50, H⟩ := H
   replace H : (some (t153, 0)) = some (r1, r2) := H
   have A5 := ak_ A50
   clear A50
   simp only [some.injEq, Prod.mk.injEq] at H
   obtain ⟨rfl, rfl⟩ := H
   go_enter func155, ntmps155
   go_wp2_with (first | ((with_reducible refine gate_callee (f := 46) rfl ?_); refine gl_ (some 9) func46 #[.int .i64 a0, .int .u64 a1] ?_; (with_reducible refine (node_Check.calls k a0 a1 t152 _ A3.out).mono ?_); rintro e w' ⟨rfl, ⟨nd, rfl⟩⟩; refine ⟨_, rfl, ?_⟩) | ((with_reducible refine gate_callee (f := 95) rfl ?_); refine gl_ (some 14) func95 #[.int .u64 a1] ?_; (with_reducible refine (node_depth.calls k a1 t153 _ A5.out).mono ?_); rintro e w' ⟨rfl, ⟨nd, rfl⟩⟩; refine ⟨_, rfl, ?_⟩))
   go_ret2
   exact ⟨by first | rfl | (simp; done) | (simp [*]; done), by repeat (first | exact Drawn0.refl _ | apply Drawn0.step)⟩
  ·rw [if_neg c4] at H
   have c4b0 : (t152 == 0) = false := beq_eq_false_iff_ne.mpr c4
   have c4b1 : (t152 != 0) = true := bne_iff_ne.mpr c4
   simp only [some.injEq, Prod.mk.injEq] at H
   obtain ⟨rfl, rfl⟩ := H
   go_enter func155, ntmps155
   go_wp2_with (first | ((with_reducible refine gate_callee (f := 46) rfl ?_); refine gl_ (some 9) func46 #[.int .i64 a0, .int .u64 a1] ?_; (with_reducible refine (node_Check.calls k a0 a1 t152 _ A3.out).mono ?_); rintro e w' ⟨rfl, ⟨nd, rfl⟩⟩; refine ⟨_, rfl, ?_⟩))
   go_ret2
   exact ⟨by first | rfl | (simp; done) | (simp [*]; done), by repeat (first | exact Drawn0.refl _ | apply Drawn0.step)⟩
def sub_depths.f (k : Nat) (a0 : Int) (a1_0 : Int) (a1_1 : Int) : Option (Int × Int × Int × Bool × Int) := (sub_Step.f k a0).bind fun bt155 => (if bt155.2 = 0 then ((node_Depth.f k a0 a1_0).bind fun bt157 => (if bt157.2 = 0 then (if a1_1 = 0 then (if bt155.1 = 0 then (none) else (if (Int.tmod bt157.1 bt155.1) = 0 then (some (bt157.1, 0, mn (wrap64 ((wrap64 ((wrap64 (Int.tdiv bt157.1 bt155.1)) + 1)) * bt155.1)) a0, true, bt157.2)) else (some (bt157.1, 0, mn (wrap64 ((wrap64 ((wrap64 (Int.tdiv bt157.1 bt155.1)) + 1)) * bt155.1)) a0, (bt157.1 == a0), bt157.2)))) else ((node_Depth.f k a0 a1_1).bind fun bt159 => (if bt155.1 = 0 then (none) else (if (Int.tmod bt157.1 bt155.1) = 0 then (some (bt157.1, bt159.1, mn (wrap64 ((wrap64 ((wrap64 (Int.tdiv bt157.1 bt155.1)) + 1)) * bt155.1)) a0, true, bt159.2)) else (some (bt157.1, bt159.1, mn (wrap64 ((wrap64 ((wrap64 (Int.tdiv bt157.1 bt155.1)) + 1)) * bt155.1)) a0, (bt157.1 == a0), bt159.2)))))) else (if bt155.1 = 0 then (none) else (if (Int.tmod bt157.1 bt155.1) = 0 then (some (bt157.1, 0, mn (wrap64 ((wrap64 ((wrap64 (Int.tdiv bt157.1 bt155.1)) + 1)) * bt155.1)) a0, true, bt157.2)) else (some (bt157.1, 0, mn (wrap64 ((wrap64 ((wrap64 (Int.tdiv bt157.1 bt155.1)) + 1)) * bt155.1)) a0, (bt157.1 == a0), bt157.2)))))) else (some (0, 0, 0, false, bt155.2)))
theorem sub_depths.mono : ∀ a0 a1 a2 k, LeO (sub_depths.f k a0 a1 a2) (sub_depths.f (k + 1) a0 a1 a2) := by
  intro a0 a1 a2 k
  unfold sub_depths.f
  repeat' first | (with_reducible first | exact node_Depth.mono .. | exact sub_Step.mono .. | exact LeO.refl _ | exact LeO.none _ | refine LeO.ite ?_ ?_ | refine LeO.bind ?_ (fun _ => ?_)) | exact node_Depth.mono .. | exact sub_Step.mono .. | refine LeO.ite ?_ ?_ | refine LeO.bind ?_ (fun _ => ?_)
set_option maxHeartbeats 8000000 in
set_option maxRecDepth 100000 in
theorem sub_depths.calls (k : Nat) (a0 : Int) (a1_0 : Int) (a1_1 : Int) (r1 : Int) (r2 : Int) (r3 : Int) (r4 : Bool) (r5 : Int) (w : World) (h : sub_depths.f k a0 a1_0 a1_1 = some (r1, r2, r3, r4, r5)) :
   Calls Try.prog 137 #[.int .i64 a0, .agg #[.int .u64 a1_0, .int .u64 a1_1]] w fun e w' => e = .returned (.tuple #[.int .i64 r1, .int .i64 r2, .int .i64 r3, .bool r4, .int .i64 r5]) ∧ Below w.heap.size w w' := by
  have hu39 := underlying39
  have HB := ak_ (Below.refl w.heap.size w)
  have H : ((sub_Step.f k a0).bind fun bt155 => (if bt155.2 = 0 then ((node_Depth.f k a0 a1_0).bind fun bt157 => (if bt157.2 = 0 then (if a1_1 = 0 then (if bt155.1 = 0 then (none) else (if (Int.tmod bt157.1 bt155.1) = 0 then (some (bt157.1, 0, mn (wrap64 ((wrap64 ((wrap64 (Int.tdiv bt157.1 bt155.1)) + 1)) * bt155.1)) a0, true, bt157.2)) else (some (bt157.1, 0, mn (wrap64 ((wrap64 ((wrap64 (Int.tdiv bt157.1 bt155.1)) + 1)) * bt155.1)) a0, (bt157.1 == a0), bt157.2)))) else ((node_Depth.f k a0 a1_1).bind fun bt159 => (if bt155.1 = 0 then (none) else (if (Int.tmod bt157.1 bt155.1) = 0 then (some (bt157.1, bt159.1, mn (wrap64 ((wrap64 ((wrap64 (Int.tdiv bt157.1 bt155.1)) + 1)) * bt155.1)) a0, true, bt159.2)) else (some (bt157.1, bt159.1, mn (wrap64 ((wrap64 ((wrap64 (Int.tdiv bt157.1 bt155.1)) + 1)) * bt155.1)) a0, (bt157.1 == a0), bt159.2)))))) else (if bt155.1 = 0 then (none) else (if (Int.tmod bt157.1 bt155.1) = 0 then (some (bt157.1, 0, mn (wrap64 ((wrap64 ((wrap64 (Int.tdiv bt157.1 bt155.1)) + 1)) * bt155.1)) a0, true, bt157.2)) else (some (bt157.1, 0, mn (wrap64 ((wrap64 ((wrap64 (Int.tdiv bt157.1 bt155.1)) + 1)) * bt155.1)) a0, (bt157.1 == a0), bt157.2)))))) else (some (0, 0, 0, false, bt155.2)))) = some (r1, r2, r3, r4, r5) := h
  clear h
  replace H := bind_eq_some_iff.mp H
  obtain ⟨⟨t155, t156⟩, A30, H⟩ := H
  replace H : (if t156 = 0 then ((node_Depth.f k a0 a1_0).bind fun bt157 => (if bt157.2 = 0 then (if a1_1 = 0 then (if t155 = 0 then (none) else (if (Int.tmod bt157.1 t155) = 0 then (some (bt157.1, 0, mn (wrap64 ((wrap64 ((wrap64 (Int.tdiv bt157.1 t155)) + 1)) * t155)) a0, true, bt157.2)) else (some (bt157.1, 0, mn (wrap64 ((wrap64 ((wrap64 (Int.tdiv bt157.1 t155)) + 1)) * t155)) a0, (bt157.1 == a0), bt157.2)))) else ((node_Depth.f k a0 a1_1).bind fun bt159 => (if t155 = 0 then (none) else (if (Int.tmod bt157.1 t155) = 0 then (some (bt157.1, bt159.1, mn (wrap64 ((wrap64 ((wrap64 (Int.tdiv bt157.1 t155)) + 1)) * t155)) a0, true, bt159.2)) else (some (bt157.1, bt159.1, mn (wrap64 ((wrap64 ((wrap64 (Int.tdiv bt157.1 t155)) + 1)) * t155)) a0, (bt157.1 == a0), bt159.2)))))) else (if t155 = 0 then (none) else (if (Int.tmod bt157.1 t155) = 0 then (some (bt157.1, 0, mn (wrap64 ((wrap64 ((wrap64 (Int.tdiv bt157.1 t155)) + 1)) * t155)) a0, true, bt157.2)) else (some (bt157.1, 0, mn (wrap64 ((wrap64 ((wrap64 (Int.tdiv bt157.1 t155)) + 1)) * t155)) a0, (bt157.1 == a0), bt157.2)))))) else (some (0, 0, 0, false, t156))) = some (r1, r2, r3, r4, r5) := H
  have A3 := ak_ A30
  clear A30
  by_cases c4 : t156 = 0
  ·rw [if_pos c4] at H
   have c4b0 : (t156 == 0) = true := beq_iff_eq.mpr c4
   have c4b1 : (t156 != 0) = false := bne_eq_false_iff_eq.mpr c4
   clear c4
   replace H := bind_eq_some_iff.mp H
   obtain ⟨⟨t157, t158⟩, A50, H⟩ := H
   replace H : (if t158 = 0 then (if a1_1 = 0 then (if t155 = 0 then (none) else (if (Int.tmod t157 t155) = 0 then (some (t157, 0, mn (wrap64 ((wrap64 ((wrap64 (Int.tdiv t157 t155)) + 1)) * t155)) a0, true, t158)) else (some (t157, 0, mn (wrap64 ((wrap64 ((wrap64 (Int.tdiv t157 t155)) + 1)) * t155)) a0, (t157 == a0), t158)))) else ((node_Depth.f k a0 a1_1).bind fun bt159 => (if t155 = 0 then (none) else (if (Int.tmod t157 t155) = 0 then (some (t157, bt159.1, mn (wrap64 ((wrap64 ((wrap64 (Int.tdiv t157 t155)) + 1)) * t155)) a0, true, bt159.2)) else (some (t157, bt159.1, mn (wrap64 ((wrap64 ((wrap64 (Int.tdiv t157 t155)) + 1)) * t155)) a0, (t157 == a0), bt159.2)))))) else (if t155 = 0 then (none) else (if (Int.tmod t157 t155) = 0 then (some (t157, 0, mn (wrap64 ((wrap64 ((wrap64 (Int.tdiv t157 t155)) + 1)) * t155)) a0, true, t158)) else (some (t157, 0, mn (wrap64 ((wrap64 ((wrap64 (Int.tdiv t157 t155)) + 1)) * t155)) a0, (t157 == a0), t158))))) = some (r1, r2, r3, r4, r5) := H
   have A5 := ak_ A50
   clear A50
   by_cases c6 : t158 = 0
   ·rw [if_pos c6] at H
    have c6b0 : (t158 == 0) = true := beq_iff_eq.mpr c6
    have c6b1 : (t158 != 0) = false := bne_eq_false_iff_eq.mpr c6
    clear c6
    by_cases c7 : a1_1 = 0
    ·rw [if_pos c7] at H
     have c7b0 : (a1_1 == 0) = true := beq_iff_eq.mpr c7
     have c7b1 : (a1_1 != 0) = false := bne_eq_false_iff_eq.mpr c7
     clear c7
     by_cases c8 : t155 = 0
     ·rw [if_pos c8] at H
      exact absurd H (by simp)
     ·rw [if_neg c8] at H
      have c8b0 : (t155 == 0) = false := beq_eq_false_iff_ne.mpr c8
      have c8b1 : (t155 != 0) = true := bne_iff_ne.mpr c8
      obtain ⟨ji9, hji9⟩ : ∃ j_ : Int, (mn (wrap64 ((wrap64 ((wrap64 (Int.tdiv t157 t155)) + 1)) * t155)) a0) = j_ := ⟨_, rfl⟩
      replace H : (if (Int.tmod t157 t155) = 0 then (some (t157, 0, ji9, true, t158)) else (some (t157, 0, ji9, (t157 == a0), t158))) = some (r1, r2, r3, r4, r5) := by first | (rw [hji9] at H; exact H) | (simp only [hji9] at H ⊢; exact H)
      (try rw [hji9] at A3)
      (try rw [hji9] at A5)
      have hji9_ : (if a0 < (wrap64 ((wrap64 ((wrap64 (Int.tdiv t157 t155)) + 1)) * t155)) then a0 else (wrap64 ((wrap64 ((wrap64 (Int.tdiv t157 t155)) + 1)) * t155))) = ji9 := hji9
      by_cases c10 : (Int.tmod t157 t155) = 0
      ·rw [if_pos c10] at H
       have c10b0 : ((Int.tmod t157 t155) == 0) = true := beq_iff_eq.mpr c10
       have c10b1 : ((Int.tmod t157 t155) != 0) = false := bne_eq_false_iff_eq.mpr c10
       clear c10
       simp only [some.injEq, Prod.mk.injEq] at H
       obtain ⟨rfl, rfl, rfl, rfl, rfl⟩ := H
       go_enter func137, ntmps137
       go_wp2_with (first | ((with_reducible refine gate_dst (N := 3) rfl ?_); refine bx_ 3 #[.int .u64 a1_0, .int .u64 a1_1] 39 ?_; intro gb154 hg w11 hbox hb; have BK154 := ak_ hbox; have GW154 := ak_ (gs_ hg HB); have GE154 := ak_ (gs_ hg HB); replace HB := ak_ (bt_ (bl_ HB) hb); clear hb hbox hg) | (go_at_call 125; (with_reducible refine (sub_Step.calls k a0 t155 t156 _ A3.out).mono ?_); rintro e w' ⟨rfl, ⟨nd, rfl⟩⟩; (try first | exact ⟨rfl, _, World.drewN_drewN _ _ _⟩ | exact ⟨rfl, _, Eq.trans (World.drewN_drewN _ _ _) (congrArg (World.drewN _) (Nat.add_assoc _ _ _))⟩); obtain ⟨hcz12_0, hcz12_1, hfz12_0, hfz12_1⟩ := kc2_ BK154.out) | (go_at_call 155; (with_reducible refine (node_Depth.calls k a0 a1_0 t157 t158 _ A5.out).mono ?_); rintro e w' ⟨rfl, ⟨nd, rfl⟩⟩; (try first | exact ⟨rfl, _, World.drewN_drewN _ _ _⟩ | exact ⟨rfl, _, Eq.trans (World.drewN_drewN _ _ _) (congrArg (World.drewN _) (Nat.add_assoc _ _ _))⟩)))
       repeat (go_quiet (first | ((with_reducible refine gate_dst (N := 3) rfl ?_); refine bx_ 3 #[.int .u64 a1_0, .int .u64 a1_1] 39 ?_; intro gb154 hg w11 hbox hb; have BK154 := ak_ hbox; have GW154 := ak_ (gs_ hg HB); have GE154 := ak_ (gs_ hg HB); replace HB := ak_ (bt_ (bl_ HB) hb); clear hb hbox hg) | (go_at_call 125; (with_reducible refine (sub_Step.calls k a0 t155 t156 _ A3.out).mono ?_); rintro e w' ⟨rfl, ⟨nd, rfl⟩⟩; (try first | exact ⟨rfl, _, World.drewN_drewN _ _ _⟩ | exact ⟨rfl, _, Eq.trans (World.drewN_drewN _ _ _) (congrArg (World.drewN _) (Nat.add_assoc _ _ _))⟩); obtain ⟨hcz12_0, hcz12_1, hfz12_0, hfz12_1⟩ := kc2_ BK154.out) | (go_at_call 155; (with_reducible refine (node_Depth.calls k a0 a1_0 t157 t158 _ A5.out).mono ?_); rintro e w' ⟨rfl, ⟨nd, rfl⟩⟩; (try first | exact ⟨rfl, _, World.drewN_drewN _ _ _⟩ | exact ⟨rfl, _, Eq.trans (World.drewN_drewN _ _ _) (congrArg (World.drewN _) (Nat.add_assoc _ _ _))⟩))); try go_wp2_with (first | ((with_reducible refine gate_dst (N := 3) rfl ?_); refine bx_ 3 #[.int .u64 a1_0, .int .u64 a1_1] 39 ?_; intro gb154 hg w11 hbox hb; have BK154 := ak_ hbox; have GW154 := ak_ (gs_ hg HB); have GE154 := ak_ (gs_ hg HB); replace HB := ak_ (bt_ (bl_ HB) hb); clear hb hbox hg) | (go_at_call 125; (with_reducible refine (sub_Step.calls k a0 t155 t156 _ A3.out).mono ?_); rintro e w' ⟨rfl, ⟨nd, rfl⟩⟩; (try first | exact ⟨rfl, _, World.drewN_drewN _ _ _⟩ | exact ⟨rfl, _, Eq.trans (World.drewN_drewN _ _ _) (congrArg (World.drewN _) (Nat.add_assoc _ _ _))⟩); obtain ⟨hcz12_0, hcz12_1, hfz12_0, hfz12_1⟩ := kc2_ BK154.out) | (go_at_call 155; (with_reducible refine (node_Depth.calls k a0 a1_0 t157 t158 _ A5.out).mono ?_); rintro e w' ⟨rfl, ⟨nd, rfl⟩⟩; (try first | exact ⟨rfl, _, World.drewN_drewN _ _ _⟩ | exact ⟨rfl, _, Eq.trans (World.drewN_drewN _ _ _) (congrArg (World.drewN _) (Nat.add_assoc _ _ _))⟩))))
       refine bodyPost_ret (results_list (rs := [.tmp 4, .tmp 5, .tmp 6, .tmp 7, .tmp 8]) rfl (by simp) (.tmp (.tmp (.tmp (.tmp (.tmp .nil)))))) rfl ?_
       exact ⟨by first | rfl | (simp <;> rfl) | (simp only [← hji9]; first | rfl | (simp <;> rfl)) | (simp [*] <;> rfl), bw1_ HB GE154⟩
      ·rw [if_neg c10] at H
       have c10b0 : ((Int.tmod t157 t155) == 0) = false := beq_eq_false_iff_ne.mpr c10
       have c10b1 : ((Int.tmod t157 t155) != 0) = true := bne_iff_ne.mpr c10
       simp only [some.injEq, Prod.mk.injEq] at H
       obtain ⟨rfl, rfl, rfl, rfl, rfl⟩ := H
       go_enter func137, ntmps137
       go_wp2_with (first | ((with_reducible refine gate_dst (N := 3) rfl ?_); refine bx_ 3 #[.int .u64 a1_0, .int .u64 a1_1] 39 ?_; intro gb154 hg w13 hbox hb; have BK154 := ak_ hbox; have GW154 := ak_ (gs_ hg HB); have GE154 := ak_ (gs_ hg HB); replace HB := ak_ (bt_ (bl_ HB) hb); clear hb hbox hg) | (go_at_call 125; (with_reducible refine (sub_Step.calls k a0 t155 t156 _ A3.out).mono ?_); rintro e w' ⟨rfl, ⟨nd, rfl⟩⟩; (try first | exact ⟨rfl, _, World.drewN_drewN _ _ _⟩ | exact ⟨rfl, _, Eq.trans (World.drewN_drewN _ _ _) (congrArg (World.drewN _) (Nat.add_assoc _ _ _))⟩); obtain ⟨hcz14_0, hcz14_1, hfz14_0, hfz14_1⟩ := kc2_ BK154.out) | (go_at_call 155; (with_reducible refine (node_Depth.calls k a0 a1_0 t157 t158 _ A5.out).mono ?_); rintro e w' ⟨rfl, ⟨nd, rfl⟩⟩; (try first | exact ⟨rfl, _, World.drewN_drewN _ _ _⟩ | exact ⟨rfl, _, Eq.trans (World.drewN_drewN _ _ _) (congrArg (World.drewN _) (Nat.add_assoc _ _ _))⟩)))
       repeat (go_quiet (first | ((with_reducible refine gate_dst (N := 3) rfl ?_); refine bx_ 3 #[.int .u64 a1_0, .int .u64 a1_1] 39 ?_; intro gb154 hg w13 hbox hb; have BK154 := ak_ hbox; have GW154 := ak_ (gs_ hg HB); have GE154 := ak_ (gs_ hg HB); replace HB := ak_ (bt_ (bl_ HB) hb); clear hb hbox hg) | (go_at_call 125; (with_reducible refine (sub_Step.calls k a0 t155 t156 _ A3.out).mono ?_); rintro e w' ⟨rfl, ⟨nd, rfl⟩⟩; (try first | exact ⟨rfl, _, World.drewN_drewN _ _ _⟩ | exact ⟨rfl, _, Eq.trans (World.drewN_drewN _ _ _) (congrArg (World.drewN _) (Nat.add_assoc _ _ _))⟩); obtain ⟨hcz14_0, hcz14_1, hfz14_0, hfz14_1⟩ := kc2_ BK154.out) | (go_at_call 155; (with_reducible refine (node_Depth.calls k a0 a1_0 t157 t158 _ A5.out).mono ?_); rintro e w' ⟨rfl, ⟨nd, rfl⟩⟩; (try first | exact ⟨rfl, _, World.drewN_drewN _ _ _⟩ | exact ⟨rfl, _, Eq.trans (World.drewN_drewN _ _ _) (congrArg (World.drewN _) (Nat.add_assoc _ _ _))⟩))); try go_wp2_with (first | ((with_reducible refine gate_dst (N := 3) rfl ?_); refine bx_ 3 #[.int .u64 a1_0, .int .u64 a1_1] 39 ?_; intro gb154 hg w13 hbox hb; have BK154 := ak_ hbox; have GW154 := ak_ (gs_ hg HB); have GE154 := ak_ (gs_ hg HB); replace HB := ak_ (bt_ (bl_ HB) hb); clear hb hbox hg) | (go_at_call 125; (with_reducible refine (sub_Step.calls k a0 t155 t156 _ A3.out).mono ?_); rintro e w' ⟨rfl, ⟨nd, rfl⟩⟩; (try first | exact ⟨rfl, _, World.drewN_drewN _ _ _⟩ | exact ⟨rfl, _, Eq.trans (World.drewN_drewN _ _ _) (congrArg (World.drewN _) (Nat.add_assoc _ _ _))⟩); obtain ⟨hcz14_0, hcz14_1, hfz14_0, hfz14_1⟩ := kc2_ BK154.out) | (go_at_call 155; (with_reducible refine (node_Depth.calls k a0 a1_0 t157 t158 _ A5.out).mono ?_); rintro e w' ⟨rfl, ⟨nd, rfl⟩⟩; (try first | exact ⟨rfl, _, World.drewN_drewN _ _ _⟩ | exact ⟨rfl, _, Eq.trans (World.drewN_drewN _ _ _) (congrArg (World.drewN _) (Nat.add_assoc _ _ _))⟩))))
       refine bodyPost_ret (results_list (rs := [.tmp 4, .tmp 5, .tmp 6, .tmp 7, .tmp 8]) rfl (by simp) (.tmp (.tmp (.tmp (.tmp (.tmp .nil)))))) rfl ?_
       exact ⟨by first | rfl | (simp <;> rfl) | (simp only [← hji9]; first | rfl | (simp <;> rfl)) | (simp [*] <;> rfl), bw1_ HB GE154⟩
    ·rw [if_neg c7] at H
     have c7b0 : (a1_1 == 0) = false := beq_eq_false_iff_ne.mpr c7
     have c7b1 : (a1_1 != 0) = true := bne_iff_ne.mpr c7
     replace H := bind_eq_some_iff.mp H
     obtain ⟨⟨t159, t160⟩, A150, H⟩ := H
     replace H : (if t155 = 0 then (none) else (if (Int.tmod t157 t155) = 0 then (some (t157, t159, mn (wrap64 ((wrap64 ((wrap64 (Int.tdiv t157 t155)) + 1)) * t155)) a0, true, t160)) else (some (t157, t159, mn (wrap64 ((wrap64 ((wrap64 (Int.tdiv t157 t155)) + 1)) * t155)) a0, (t157 == a0), t160)))) = some (r1, r2, r3, r4, r5) := H
     have A15 := ak_ A150
     clear A150
     by_cases c16 : t155 = 0
     ·rw [if_pos c16] at H
      exact absurd H (by simp)
     ·rw [if_neg c16] at H
      have c16b0 : (t155 == 0) = false := beq_eq_false_iff_ne.mpr c16
      have c16b1 : (t155 != 0) = true := bne_iff_ne.mpr c16
      obtain ⟨ji17, hji17⟩ : ∃ j_ : Int, (mn (wrap64 ((wrap64 ((wrap64 (Int.tdiv t157 t155)) + 1)) * t155)) a0) = j_ := ⟨_, rfl⟩
      replace H : (if (Int.tmod t157 t155) = 0 then (some (t157, t159, ji17, true, t160)) else (some (t157, t159, ji17, (t157 == a0), t160))) = some (r1, r2, r3, r4, r5) := by first | (rw [hji17] at H; exact H) | (simp only [hji17] at H ⊢; exact H)
      (try rw [hji17] at A3)
      (try rw [hji17] at A5)
      (try rw [hji17] at A15)
      have hji17_ : (if a0 < (wrap64 ((wrap64 ((wrap64 (Int.tdiv t157 t155)) + 1)) * t155)) then a0 else (wrap64 ((wrap64 ((wrap64 (Int.tdiv t157 t155)) + 1)) * t155))) = ji17 := hji17
      by_cases c18 : (Int.tmod t157 t155) = 0
      ·rw [if_pos c18] at H
       have c18b0 : ((Int.tmod t157 t155) == 0) = true := beq_iff_eq.mpr c18
       have c18b1 : ((Int.tmod t157 t155) != 0) = false := bne_eq_false_iff_eq.mpr c18
       clear c18
       simp only [some.injEq, Prod.mk.injEq] at H
       obtain ⟨rfl, rfl, rfl, rfl, rfl⟩ := H
       go_enter func137, ntmps137
       go_wp2_with (first | ((with_reducible refine gate_dst (N := 3) rfl ?_); refine bx_ 3 #[.int .u64 a1_0, .int .u64 a1_1] 39 ?_; intro gb154 hg w19 hbox hb; have BK154 := ak_ hbox; have GW154 := ak_ (gs_ hg HB); have GE154 := ak_ (gs_ hg HB); replace HB := ak_ (bt_ (bl_ HB) hb); clear hb hbox hg) | (go_at_call 125; (with_reducible refine (sub_Step.calls k a0 t155 t156 _ A3.out).mono ?_); rintro e w' ⟨rfl, ⟨nd, rfl⟩⟩; (try first | exact ⟨rfl, _, World.drewN_drewN _ _ _⟩ | exact ⟨rfl, _, Eq.trans (World.drewN_drewN _ _ _) (congrArg (World.drewN _) (Nat.add_assoc _ _ _))⟩); obtain ⟨hcz20_0, hcz20_1, hfz20_0, hfz20_1⟩ := kc2_ BK154.out) | (go_at_call 155; (with_reducible refine (node_Depth.calls k a0 a1_0 t157 t158 _ A5.out).mono ?_); rintro e w' ⟨rfl, ⟨nd, rfl⟩⟩; (try first | exact ⟨rfl, _, World.drewN_drewN _ _ _⟩ | exact ⟨rfl, _, Eq.trans (World.drewN_drewN _ _ _) (congrArg (World.drewN _) (Nat.add_assoc _ _ _))⟩)) | (go_at_call 155; (with_reducible refine (node_Depth.calls k a0 a1_1 t159 t160 _ A15.out).mono ?_); rintro e w' ⟨rfl, ⟨nd, rfl⟩⟩; (try first | exact ⟨rfl, _, World.drewN_drewN _ _ _⟩ | exact ⟨rfl, _, Eq.trans (World.drewN_drewN _ _ _) (congrArg (World.drewN _) (Nat.add_assoc _ _ _))⟩)))
       repeat (go_quiet (first | ((with_reducible refine gate_dst (N := 3) rfl ?_); refine bx_ 3 #[.int .u64 a1_0, .int .u64 a1_1] 39 ?_; intro gb154 hg w19 hbox hb; have BK154 := ak_ hbox; have GW154 := ak_ (gs_ hg HB); have GE154 := ak_ (gs_ hg HB); replace HB := ak_ (bt_ (bl_ HB) hb); clear hb hbox hg) | (go_at_call 125; (with_reducible refine (sub_Step.calls k a0 t155 t156 _ A3.out).mono ?_); rintro e w' ⟨rfl, ⟨nd, rfl⟩⟩; (try first | exact ⟨rfl, _, World.drewN_drewN _ _ _⟩ | exact ⟨rfl, _, Eq.trans (World.drewN_drewN _ _ _) (congrArg (World.drewN _) (Nat.add_assoc _ _ _))⟩); obtain ⟨hcz20_0, hcz20_1, hfz20_0, hfz20_1⟩ := kc2_ BK154.out) | (go_at_call 155; (with_reducible refine (node_Depth.calls k a0 a1_0 t157 t158 _ A5.out).mono ?_); rintro e w' ⟨rfl, ⟨nd, rfl⟩⟩; (try first | exact ⟨rfl, _, World.drewN_drewN _ _ _⟩ | exact ⟨rfl, _, Eq.trans (World.drewN_drewN _ _ _) (congrArg (World.drewN _) (Nat.add_assoc _ _ _))⟩)) | (go_at_call 155; (with_reducible refine (node_Depth.calls k a0 a1_1 t159 t160 _ A15.out).mono ?_); rintro e w' ⟨rfl, ⟨nd, rfl⟩⟩; (try first | exact ⟨rfl, _, World.drewN_drewN _ _ _⟩ | exact ⟨rfl, _, Eq.trans (World.drewN_drewN _ _ _) (congrArg (World.drewN _) (Nat.add_assoc _ _ _))⟩))); try go_wp2_with (first | ((with_reducible refine gate_dst (N := 3) rfl ?_); refine bx_ 3 #[.int .u64 a1_0, .int .u64 a1_1] 39 ?_; intro gb154 hg w19 hbox hb; have BK154 := ak_ hbox; have GW154 := ak_ (gs_ hg HB); have GE154 := ak_ (gs_ hg HB); replace HB := ak_ (bt_ (bl_ HB) hb); clear hb hbox hg) | (go_at_call 125; (with_reducible refine (sub_Step.calls k a0 t155 t156 _ A3.out).mono ?_); rintro e w' ⟨rfl, ⟨nd, rfl⟩⟩; (try first | exact ⟨rfl, _, World.drewN_drewN _ _ _⟩ | exact ⟨rfl, _, Eq.trans (World.drewN_drewN _ _ _) (congrArg (World.drewN _) (Nat.add_assoc _ _ _))⟩); obtain ⟨hcz20_0, hcz20_1, hfz20_0, hfz20_1⟩ := kc2_ BK154.out) | (go_at_call 155; (with_reducible refine (node_Depth.calls k a0 a1_0 t157 t158 _ A5.out).mono ?_); rintro e w' ⟨rfl, ⟨nd, rfl⟩⟩; (try first | exact ⟨rfl, _, World.drewN_drewN _ _ _⟩ | exact ⟨rfl, _, Eq.trans (World.drewN_drewN _ _ _) (congrArg (World.drewN _) (Nat.add_assoc _ _ _))⟩)) | (go_at_call 155; (with_reducible refine (node_Depth.calls k a0 a1_1 t159 t160 _ A15.out).mono ?_); rintro e w' ⟨rfl, ⟨nd, rfl⟩⟩; (try first | exact ⟨rfl, _, World.drewN_drewN _ _ _⟩ | exact ⟨rfl, _, Eq.trans (World.drewN_drewN _ _ _) (congrArg (World.drewN _) (Nat.add_assoc _ _ _))⟩))))
       refine bodyPost_ret (results_list (rs := [.tmp 4, .tmp 5, .tmp 6, .tmp 7, .tmp 8]) rfl (by simp) (.tmp (.tmp (.tmp (.tmp (.tmp .nil)))))) rfl ?_
       exact ⟨by first | rfl | (simp <;> rfl) | (simp only [← hji17]; first | rfl | (simp <;> rfl)) | (simp [*] <;> rfl), bw1_ HB GE154⟩
      ·rw [if_neg c18] at H
       have c18b0 : ((Int.tmod t157 t155) == 0) = false := beq_eq_false_iff_ne.mpr c18
       have c18b1 : ((Int.tmod t157 t155) != 0) = true := bne_iff_ne.mpr c18
       simp only [some.injEq, Prod.mk.injEq] at H
       obtain ⟨rfl, rfl, rfl, rfl, rfl⟩ := H
       go_enter func137, ntmps137
       go_wp2_with (first | ((with_reducible refine gate_dst (N := 3) rfl ?_); refine bx_ 3 #[.int .u64 a1_0, .int .u64 a1_1] 39 ?_; intro gb154 hg w21 hbox hb; have BK154 := ak_ hbox; have GW154 := ak_ (gs_ hg HB); have GE154 := ak_ (gs_ hg HB); replace HB := ak_ (bt_ (bl_ HB) hb); clear hb hbox hg) | (go_at_call 125; (with_reducible refine (sub_Step.calls k a0 t155 t156 _ A3.out).mono ?_); rintro e w' ⟨rfl, ⟨nd, rfl⟩⟩; (try first | exact ⟨rfl, _, World.drewN_drewN _ _ _⟩ | exact ⟨rfl, _, Eq.trans (World.drewN_drewN _ _ _) (congrArg (World.drewN _) (Nat.add_assoc _ _ _))⟩); obtain ⟨hcz22_0, hcz22_1, hfz22_0, hfz22_1⟩ := kc2_ BK154.out) | (go_at_call 155; (with_reducible refine (node_Depth.calls k a0 a1_0 t157 t158 _ A5.out).mono ?_); rintro e w' ⟨rfl, ⟨nd, rfl⟩⟩; (try first | exact ⟨rfl, _, World.drewN_drewN _ _ _⟩ | exact ⟨rfl, _, Eq.trans (World.drewN_drewN _ _ _) (congrArg (World.drewN _) (Nat.add_assoc _ _ _))⟩)) | (go_at_call 155; (with_reducible refine (node_Depth.calls k a0 a1_1 t159 t160 _ A15.out).mono ?_); rintro e w' ⟨rfl, ⟨nd, rfl⟩⟩; (try first | exact ⟨rfl, _, World.drewN_drewN _ _ _⟩ | exact ⟨rfl, _, Eq.trans (World.drewN_drewN _ _ _) (congrArg (World.drewN _) (Nat.add_assoc _ _ _))⟩)))
       repeat (go_quiet (first | ((with_reducible refine gate_dst (N := 3) rfl ?_); refine bx_ 3 #[.int .u64 a1_0, .int .u64 a1_1] 39 ?_; intro gb154 hg w21 hbox hb; have BK154 := ak_ hbox; have GW154 := ak_ (gs_ hg HB); have GE154 := ak_ (gs_ hg HB); replace HB := ak_ (bt_ (bl_ HB) hb); clear hb hbox hg) | (go_at_call 125; (with_reducible refine (sub_Step.calls k a0 t155 t156 _ A3.out).mono ?_); rintro e w' ⟨rfl, ⟨nd, rfl⟩⟩; (try first | exact ⟨rfl, _, World.drewN_drewN _ _ _⟩ | exact ⟨rfl, _, Eq.trans (World.drewN_drewN _ _ _) (congrArg (World.drewN _) (Nat.add_assoc _ _ _))⟩); obtain ⟨hcz22_0, hcz22_1, hfz22_0, hfz22_1⟩ := kc2_ BK154.out) | (go_at_call 155; (with_reducible refine (node_Depth.calls k a0 a1_0 t157 t158 _ A5.out).mono ?_); rintro e w' ⟨rfl, ⟨nd, rfl⟩⟩; (try first | exact ⟨rfl, _, World.drewN_drewN _ _ _⟩ | exact ⟨rfl, _, Eq.trans (World.drewN_drewN _ _ _) (congrArg (World.drewN _) (Nat.add_assoc _ _ _))⟩)) | (go_at_call 155; (with_reducible refine (node_Depth.calls k a0 a1_1 t159 t160 _ A15.out).mono ?_); rintro e w' ⟨rfl, ⟨nd, rfl⟩⟩; (try first | exact ⟨rfl, _, World.drewN_drewN _ _ _⟩ | exact ⟨rfl, _, Eq.trans (World.drewN_drewN _ _ _) (congrArg (World.drewN _) (Nat.add_assoc _ _ _))⟩))); try go_wp2_with (first | ((with_reducible refine gate_dst (N := 3) rfl ?_); refine bx_ 3 #[.int .u64 a1_0, .int .u64 a1_1] 39 ?_; intro gb154 hg w21 hbox hb; have BK154 := ak_ hbox; have GW154 := ak_ (gs_ hg HB); have GE154 := ak_ (gs_ hg HB); replace HB := ak_ (bt_ (bl_ HB) hb); clear hb hbox hg) | (go_at_call 125; (with_reducible refine (sub_Step.calls k a0 t155 t156 _ A3.out).mono ?_); rintro e w' ⟨rfl, ⟨nd, rfl⟩⟩; (try first | exact ⟨rfl, _, World.drewN_drewN _ _ _⟩ | exact ⟨rfl, _, Eq.trans (World.drewN_drewN _ _ _) (congrArg (World.drewN _) (Nat.add_assoc _ _ _))⟩); obtain ⟨hcz22_0, hcz22_1, hfz22_0, hfz22_1⟩ := kc2_ BK154.out) | (go_at_call 155; (with_reducible refine (node_Depth.calls k a0 a1_0 t157 t158 _ A5.out).mono ?_); rintro e w' ⟨rfl, ⟨nd, rfl⟩⟩; (try first | exact ⟨rfl, _, World.drewN_drewN _ _ _⟩ | exact ⟨rfl, _, Eq.trans (World.drewN_drewN _ _ _) (congrArg (World.drewN _) (Nat.add_assoc _ _ _))⟩)) | (go_at_call 155; (with_reducible refine (node_Depth.calls k a0 a1_1 t159 t160 _ A15.out).mono ?_); rintro e w' ⟨rfl, ⟨nd, rfl⟩⟩; (try first | exact ⟨rfl, _, World.drewN_drewN _ _ _⟩ | exact ⟨rfl, _, Eq.trans (World.drewN_drewN _ _ _) (congrArg (World.drewN _) (Nat.add_assoc _ _ _))⟩))))
       refine bodyPost_ret (results_list (rs := [.tmp 4, .tmp 5, .tmp 6, .tmp 7, .tmp 8]) rfl (by simp) (.tmp (.tmp (.tmp (.tmp (.tmp .nil)))))) rfl ?_
       exact ⟨by first | rfl | (simp <;> rfl) | (simp only [← hji17]; first | rfl | (simp <;> rfl)) | (simp [*] <;> rfl), bw1_ HB GE154⟩
   ·rw [if_neg c6] at H
    have c6b0 : (t158 == 0) = false := beq_eq_false_iff_ne.mpr c6
    have c6b1 : (t158 != 0) = true := bne_iff_ne.mpr c6
    by_cases c23 : t155 = 0
    ·rw [if_pos c23] at H
     exact absurd H (by simp)
    ·rw [if_neg c23] at H
     have c23b0 : (t155 == 0) = false := beq_eq_false_iff_ne.mpr c23
     have c23b1 : (t155 != 0) = true := bne_iff_ne.mpr c23
     obtain ⟨ji24, hji24⟩ : ∃ j_ : Int, (mn (wrap64 ((wrap64 ((wrap64 (Int.tdiv t157 t155)) + 1)) * t155)) a0) = j_ := ⟨_, rfl⟩
     replace H : (if (Int.tmod t157 t155) = 0 then (some (t157, 0, ji24, true, t158)) else (some (t157, 0, ji24, (t157 == a0), t158))) = some (r1, r2, r3, r4, r5) := by first | (rw [hji24] at H; exact H) | (simp only [hji24] at H ⊢; exact H)
     (try rw [hji24] at A3)
     (try rw [hji24] at A5)
     have hji24_ : (if a0 < (wrap64 ((wrap64 ((wrap64 (Int.tdiv t157 t155)) + 1)) * t155)) then a0 else (wrap64 ((wrap64 ((wrap64 (Int.tdiv t157 t155)) + 1)) * t155))) = ji24 := hji24
     by_cases c25 : (Int.tmod t157 t155) = 0
     ·rw [if_pos c25] at H
      have c25b0 : ((Int.tmod t157 t155) == 0) = true := beq_iff_eq.mpr c25
      have c25b1 : ((Int.tmod t157 t155) != 0) = false := bne_eq_false_iff_eq.mpr c25
      clear c25
      simp only [some.injEq, Prod.mk.injEq] at H
      obtain ⟨rfl, rfl, rfl, rfl, rfl⟩ := H
      go_enter func137, ntmps137
      go_wp2_with (first | ((with_reducible refine gate_dst (N := 3) rfl ?_); refine bx_ 3 #[.int .u64 a1_0, .int .u64 a1_1] 39 ?_; intro gb154 hg w26 hbox hb; have BK154 := ak_ hbox; have GW154 := ak_ (gs_ hg HB); have GE154 := ak_ (gs_ hg HB); replace HB := ak_ (bt_ (bl_ HB) hb); clear hb hbox hg) | (go_at_call 125; (with_reducible refine (sub_Step.calls k a0 t155 t156 _ A3.out).mono ?_); rintro e w' ⟨rfl, ⟨nd, rfl⟩⟩; (try first | exact ⟨rfl, _, World.drewN_drewN _ _ _⟩ | exact ⟨rfl, _, Eq.trans (World.drewN_drewN _ _ _) (congrArg (World.drewN _) (Nat.add_assoc _ _ _))⟩); obtain ⟨hcz27_0, hcz27_1, hfz27_0, hfz27_1⟩ := kc2_ BK154.out) | (go_at_call 155; (with_reducible refine (node_Depth.calls k a0 a1_0 t157 t158 _ A5.out).mono ?_); rintro e w' ⟨rfl, ⟨nd, rfl⟩⟩; (try first | exact ⟨rfl, _, World.drewN_drewN _ _ _⟩ | exact ⟨rfl, _, Eq.trans (World.drewN_drewN _ _ _) (congrArg (World.drewN _) (Nat.add_assoc _ _ _))⟩)))
      repeat (go_quiet (first | ((with_reducible refine gate_dst (N := 3) rfl ?_); refine bx_ 3 #[.int .u64 a1_0, .int .u64 a1_1] 39 ?_; intro gb154 hg w26 hbox hb; have BK154 := ak_ hbox; have GW154 := ak_ (gs_ hg HB); have GE154 := ak_ (gs_ hg HB); replace HB := ak_ (bt_ (bl_ HB) hb); clear hb hbox hg) | (go_at_call 125; (with_reducible refine (sub_Step.calls k a0 t155 t156 _ A3.out).mono ?_); rintro e w' ⟨rfl, ⟨nd, rfl⟩⟩; (try first | exact ⟨rfl, _, World.drewN_drewN _ _ _⟩ | exact ⟨rfl, _, Eq.trans (World.drewN_drewN _ _ _) (congrArg (World.drewN _) (Nat.add_assoc _ _ _))⟩); obtain ⟨hcz27_0, hcz27_1, hfz27_0, hfz27_1⟩ := kc2_ BK154.out) | (go_at_call 155; (with_reducible refine (node_Depth.calls k a0 a1_0 t157 t158 _ A5.out).mono ?_); rintro e w' ⟨rfl, ⟨nd, rfl⟩⟩; (try first | exact ⟨rfl, _, World.drewN_drewN _ _ _⟩ | exact ⟨rfl, _, Eq.trans (World.drewN_drewN _ _ _) (congrArg (World.drewN _) (Nat.add_assoc _ _ _))⟩))); try go_wp2_with (first | ((with_reducible refine gate_dst (N := 3) rfl ?_); refine bx_ 3 #[.int .u64 a1_0, .int .u64 a1_1] 39 ?_; intro gb154 hg w26 hbox hb; have BK154 := ak_ hbox; have GW154 := ak_ (gs_ hg HB); have GE154 := ak_ (gs_ hg HB); replace HB := ak_ (bt_ (bl_ HB) hb); clear hb hbox hg) | (go_at_call 125; (with_reducible refine (sub_Step.calls k a0 t155 t156 _ A3.out).mono ?_); rintro e w' ⟨rfl, ⟨nd, rfl⟩⟩; (try first | exact ⟨rfl, _, World.drewN_drewN _ _ _⟩ | exact ⟨rfl, _, Eq.trans (World.drewN_drewN _ _ _) (congrArg (World.drewN _) (Nat.add_assoc _ _ _))⟩); obtain ⟨hcz27_0, hcz27_1, hfz27_0, hfz27_1⟩ := kc2_ BK154.out) | (go_at_call 155; (with_reducible refine (node_Depth.calls k a0 a1_0 t157 t158 _ A5.out).mono ?_); rintro e w' ⟨rfl, ⟨nd, rfl⟩⟩; (try first | exact ⟨rfl, _, World.drewN_drewN _ _ _⟩ | exact ⟨rfl, _, Eq.trans (World.drewN_drewN _ _ _) (congrArg (World.drewN _) (Nat.add_assoc _ _ _))⟩))))
      refine bodyPost_ret (results_list (rs := [.tmp 4, .tmp 5, .tmp 6, .tmp 7, .tmp 8]) rfl (by simp) (.tmp (.tmp (.tmp (.tmp (.tmp .nil)))))) rfl ?_
      exact ⟨by first | rfl | (simp <;> rfl) | (simp only [← hji24]; first | rfl | (simp <;> rfl)) | (simp [*] <;> rfl), bw1_ HB GE154⟩
     ·rw [if_neg c25] at H
      have c25b0 : ((Int.tmod t157 t155) == 0) = false := beq_eq_false_iff_ne.mpr c25
      have c25b1 : ((Int.tmod t157 t155) != 0) = true := bne_iff_ne.mpr c25
      simp only [some.injEq, Prod.mk.injEq] at H
      obtain ⟨rfl, rfl, rfl, rfl, rfl⟩ := H
      go_enter func137, ntmps137
      go_wp2_with (first | ((with_reducible refine gate_dst (N := 3) rfl ?_); refine bx_ 3 #[.int .u64 a1_0, .int .u64 a1_1] 39 ?_; intro gb154 hg w28 hbox hb; have BK154 := ak_ hbox; have GW154 := ak_ (gs_ hg HB); have GE154 := ak_ (gs_ hg HB); replace HB := ak_ (bt_ (bl_ HB) hb); clear hb hbox hg) | (go_at_call 125; (with_reducible refine (sub_Step.calls k a0 t155 t156 _ A3.out).mono ?_); rintro e w' ⟨rfl, ⟨nd, rfl⟩⟩; (try first | exact ⟨rfl, _, World.drewN_drewN _ _ _⟩ | exact ⟨rfl, _, Eq.trans (World.drewN_drewN _ _ _) (congrArg (World.drewN _) (Nat.add_assoc _ _ _))⟩); obtain ⟨hcz29_0, hcz29_1, hfz29_0, hfz29_1⟩ := kc2_ BK154.out) | (go_at_call 155; (with_reducible refine (node_Depth.calls k a0 a1_0 t157 t158 _ A5.out).mono ?_); rintro e w' ⟨rfl, ⟨nd, rfl⟩⟩; (try first | exact ⟨rfl, _, World.drewN_drewN _ _ _⟩ | exact ⟨rfl, _, Eq.trans (World.drewN_drewN _ _ _) (congrArg (World.drewN _) (Nat.add_assoc _ _ _))⟩)))
      repeat (go_quiet (first | ((with_reducible refine gate_dst (N := 3) rfl ?_); refine bx_ 3 #[.int .u64 a1_0, .int .u64 a1_1] 39 ?_; intro gb154 hg w28 hbox hb; have BK154 := ak_ hbox; have GW154 := ak_ (gs_ hg HB); have GE154 := ak_ (gs_ hg HB); replace HB := ak_ (bt_ (bl_ HB) hb); clear hb hbox hg) | (go_at_call 125; (with_reducible refine (sub_Step.calls k a0 t155 t156 _ A3.out).mono ?_); rintro e w' ⟨rfl, ⟨nd, rfl⟩⟩; (try first | exact ⟨rfl, _, World.drewN_drewN _ _ _⟩ | exact ⟨rfl, _, Eq.trans (World.drewN_drewN _ _ _) (congrArg (World.drewN _) (Nat.add_assoc _ _ _))⟩); obtain ⟨hcz29_0, hcz29_1, hfz29_0, hfz29_1⟩ := kc2_ BK154.out) | (go_at_call 155; (with_reducible refine (node_Depth.calls k a0 a1_0 t157 t158 _ A5.out).mono ?_); rintro e w' ⟨rfl, ⟨nd, rfl⟩⟩; (try first | exact ⟨rfl, _, World.drewN_drewN _ _ _⟩ | exact ⟨rfl, _, Eq.trans (World.drewN_drewN _ _ _) (congrArg (World.drewN _) (Nat.add_assoc _ _ _))⟩))); try go_wp2_with (first | ((with_reducible refine gate_dst (N := 3) rfl ?_); refine bx_ 3 #[.int .u64 a1_0, .int .u64 a1_1] 39 ?_; intro gb154 hg w28 hbox hb; have BK154 := ak_ hbox; have GW154 := ak_ (gs_ hg HB); have GE154 := ak_ (gs_ hg HB); replace HB := ak_ (bt_ (bl_ HB) hb); clear hb hbox hg) | (go_at_call 125; (with_reducible refine (sub_Step.calls k a0 t155 t156 _ A3.out).mono ?_); rintro e w' ⟨rfl, ⟨nd, rfl⟩⟩; (try first | exact ⟨rfl, _, World.drewN_drewN _ _ _⟩ | exact ⟨rfl, _, Eq.trans (World.drewN_drewN _ _ _) (congrArg (World.drewN _) (Nat.add_assoc _ _ _))⟩); obtain ⟨hcz29_0, hcz29_1, hfz29_0, hfz29_1⟩ := kc2_ BK154.out) | (go_at_call 155; (with_reducible refine (node_Depth.calls k a0 a1_0 t157 t158 _ A5.out).mono ?_); rintro e w' ⟨rfl, ⟨nd, rfl⟩⟩; (try first | exact ⟨rfl, _, World.drewN_drewN _ _ _⟩ | exact ⟨rfl, _, Eq.trans (World.drewN_drewN _ _ _) (congrArg (World.drewN _) (Nat.add_assoc _ _ _))⟩))))
      refine bodyPost_ret (results_list (rs := [.tmp 4, .tmp 5, .tmp 6, .tmp 7, .tmp 8]) rfl (by simp) (.tmp (.tmp (.tmp (.tmp (.tmp .nil)))))) rfl ?_
      exact ⟨by first | rfl | (simp <;> rfl) | (simp only [← hji24]; first | rfl | (simp <;> rfl)) | (simp [*] <;> rfl), bw1_ HB GE154⟩
  ·rw [if_neg c4] at H
   have c4b0 : (t156 == 0) = false := beq_eq_false_iff_ne.mpr c4
   have c4b1 : (t156 != 0) = true := bne_iff_ne.mpr c4
   simp only [some.injEq, Prod.mk.injEq] at H
   obtain ⟨rfl, rfl, rfl, rfl, rfl⟩ := H
   go_enter func137, ntmps137
   go_wp2_with (first | ((with_reducible refine gate_dst (N := 3) rfl ?_); refine bx_ 3 #[.int .u64 a1_0, .int .u64 a1_1] 39 ?_; intro gb154 hg w30 hbox hb; have BK154 := ak_ hbox; have GW154 := ak_ (gs_ hg HB); have GE154 := ak_ (gs_ hg HB); replace HB := ak_ (bt_ (bl_ HB) hb); clear hb hbox hg) | (go_at_call 125; (with_reducible refine (sub_Step.calls k a0 t155 t156 _ A3.out).mono ?_); rintro e w' ⟨rfl, ⟨nd, rfl⟩⟩; (try first | exact ⟨rfl, _, World.drewN_drewN _ _ _⟩ | exact ⟨rfl, _, Eq.trans (World.drewN_drewN _ _ _) (congrArg (World.drewN _) (Nat.add_assoc _ _ _))⟩)))
   repeat (go_quiet (first | ((with_reducible refine gate_dst (N := 3) rfl ?_); refine bx_ 3 #[.int .u64 a1_0, .int .u64 a1_1] 39 ?_; intro gb154 hg w30 hbox hb; have BK154 := ak_ hbox; have GW154 := ak_ (gs_ hg HB); have GE154 := ak_ (gs_ hg HB); replace HB := ak_ (bt_ (bl_ HB) hb); clear hb hbox hg) | (go_at_call 125; (with_reducible refine (sub_Step.calls k a0 t155 t156 _ A3.out).mono ?_); rintro e w' ⟨rfl, ⟨nd, rfl⟩⟩; (try first | exact ⟨rfl, _, World.drewN_drewN _ _ _⟩ | exact ⟨rfl, _, Eq.trans (World.drewN_drewN _ _ _) (congrArg (World.drewN _) (Nat.add_assoc _ _ _))⟩))); try go_wp2_with (first | ((with_reducible refine gate_dst (N := 3) rfl ?_); refine bx_ 3 #[.int .u64 a1_0, .int .u64 a1_1] 39 ?_; intro gb154 hg w30 hbox hb; have BK154 := ak_ hbox; have GW154 := ak_ (gs_ hg HB); have GE154 := ak_ (gs_ hg HB); replace HB := ak_ (bt_ (bl_ HB) hb); clear hb hbox hg) | (go_at_call 125; (with_reducible refine (sub_Step.calls k a0 t155 t156 _ A3.out).mono ?_); rintro e w' ⟨rfl, ⟨nd, rfl⟩⟩; (try first | exact ⟨rfl, _, World.drewN_drewN _ _ _⟩ | exact ⟨rfl, _, Eq.trans (World.drewN_drewN _ _ _) (congrArg (World.drewN _) (Nat.add_assoc _ _ _))⟩))))
   refine bodyPost_ret (results_list (rs := [.tmp 4, .tmp 5, .tmp 6, .tmp 7, .tmp 8]) rfl (by simp) (.tmp (.tmp (.tmp (.tmp (.tmp .nil)))))) rfl ?_
   exact ea_ (bw1_ HB GE154)
def sub_Useful.f (k : Nat) (a0 : Int) (a1_0 : Int) (a1_1 : Int) : Option (Bool × Int) := (sub_Check.f k a0 a1_0 a1_1).bind fun t162 => (if t162 = 0 then (if a1_1 = 0 then (some ((a1_0 == 1), 0)) else ((sub_depths.f k a0 a1_0 a1_1).bind fun bt163 => (if bt163.2.2.2.2 = 0 then (if bt163.2.2.2.1 = true then (some (true, bt163.2.2.2.2)) else (some (decide (bt163.2.1 ≤ bt163.2.2.1), bt163.2.2.2.2))) else (some (false, bt163.2.2.2.2))))) else (some (false, t162)))
theorem sub_Useful.mono : ∀ a0 a1 a2 k, LeO (sub_Useful.f k a0 a1 a2) (sub_Useful.f (k + 1) a0 a1 a2) := by
  intro a0 a1 a2 k
  unfold sub_Useful.f
  repeat' first | (with_reducible first | exact sub_Check.mono .. | exact sub_depths.mono .. | exact LeO.refl _ | exact LeO.none _ | refine LeO.ite ?_ ?_ | refine LeO.bind ?_ (fun _ => ?_)) | exact sub_Check.mono .. | exact sub_depths.mono .. | refine LeO.ite ?_ ?_ | refine LeO.bind ?_ (fun _ => ?_)
set_option maxHeartbeats 8000000 in
set_option maxRecDepth 100000 in
theorem sub_Useful.calls (k : Nat) (a0 : Int) (a1_0 : Int) (a1_1 : Int) (r1 : Bool) (r2 : Int) (w : World) (h : sub_Useful.f k a0 a1_0 a1_1 = some (r1, r2)) :
   Calls Try.prog 98 #[.int .i64 a0, .agg #[.int .u64 a1_0, .int .u64 a1_1]] w fun e w' => e = .returned (.tuple #[.bool r1, .int .i64 r2]) ∧ Below w.heap.size w w' := by
  have hu39 := underlying39
  have HB := ak_ (Below.refl w.heap.size w)
  have H : ((sub_Check.f k a0 a1_0 a1_1).bind fun t162 => (if t162 = 0 then (if a1_1 = 0 then (some ((a1_0 == 1), 0)) else ((sub_depths.f k a0 a1_0 a1_1).bind fun bt163 => (if bt163.2.2.2.2 = 0 then (if bt163.2.2.2.1 = true then (some (true, bt163.2.2.2.2)) else (some (decide (bt163.2.1 ≤ bt163.2.2.1), bt163.2.2.2.2))) else (some (false, bt163.2.2.2.2))))) else (some (false, t162)))) = some (r1, r2) := h
  clear h
  replace H := bind_eq_some_iff.mp H
  obtain ⟨t162, A30, H⟩ := H
  replace H : (if t162 = 0 then (if a1_1 = 0 then (some ((a1_0 == 1), 0)) else ((sub_depths.f k a0 a1_0 a1_1).bind fun bt163 => (if bt163.2.2.2.2 = 0 then (if bt163.2.2.2.1 = true then (some (true, bt163.2.2.2.2)) else (some (decide (bt163.2.1 ≤ bt163.2.2.1), bt163.2.2.2.2))) else (some (false, bt163.2.2.2.2))))) else (some (false, t162))) = some (r1, r2) := H
  have A3 := ak_ A30
  clear A30
  by_cases c4 : t162 = 0
  ·rw [if_pos c4] at H
   have c4b0 : (t162 == 0) = true := beq_iff_eq.mpr c4
   have c4b1 : (t162 != 0) = false := bne_eq_false_iff_eq.mpr c4
   clear c4
   by_cases c5 : a1_1 = 0
   ·rw [if_pos c5] at H
    have c5b0 : (a1_1 == 0) = true := beq_iff_eq.mpr c5
    have c5b1 : (a1_1 != 0) = false := bne_eq_false_iff_eq.mpr c5
    clear c5
    simp only [some.injEq, Prod.mk.injEq] at H
    obtain ⟨rfl, rfl⟩ := H
    go_enter func98, ntmps98
    go_wp2_with (first | ((with_reducible refine gate_dst (N := 3) rfl ?_); refine bx_ 3 #[.int .u64 a1_0, .int .u64 a1_1] 39 ?_; intro gb161 hg w6 hbox hb; have BK161 := ak_ hbox; have GW161 := ak_ (gs_ hg HB); have GE161 := ak_ (gs_ hg HB); replace HB := ak_ (bt_ (bl_ HB) hb); clear hb hbox hg; obtain ⟨hcz7_0, hcz7_1, hfz7_0, hfz7_1⟩ := kc2_ BK161.out) | ((with_reducible refine gate_callee (f := 97) rfl ?_); refine gl_ (some 14) func97 #[.int .i64 a0, .agg #[.int .u64 a1_0, .int .u64 a1_1]] ?_; (with_reducible refine (sub_Check.calls k a0 a1_0 a1_1 t162 _ A3.out).mono ?_); rintro e w8 ⟨rfl, hb⟩; refine ⟨_, rfl, ?_⟩; replace BK161 := ak_ (kb_ (kl_ BK161) hb); replace HB := ak_ (bt_ (bw1_ HB GE161) hb); (try clear hb); (try clear hk); obtain ⟨hcz9_0, hcz9_1, hfz9_0, hfz9_1⟩ := kc2_ BK161.out))
    go_ret2
    exact ea_ (bw1_ HB GE161)
   ·rw [if_neg c5] at H
    have c5b0 : (a1_1 == 0) = false := beq_eq_false_iff_ne.mpr c5
    have c5b1 : (a1_1 != 0) = true := bne_iff_ne.mpr c5
    replace H := bind_eq_some_iff.mp H
    obtain ⟨⟨t163, t164, t165, t166, t167⟩, A100, H⟩ := H
    replace H : (if t167 = 0 then (if t166 = true then (some (true, t167)) else (some (decide (t164 ≤ t165), t167))) else (some (false, t167))) = some (r1, r2) := H
    have A10 := ak_ A100
    clear A100
    by_cases c11 : t167 = 0
    ·rw [if_pos c11] at H
     have c11b0 : (t167 == 0) = true := beq_iff_eq.mpr c11
     have c11b1 : (t167 != 0) = false := bne_eq_false_iff_eq.mpr c11
     clear c11
     by_cases c12 : t166 = true
     ·subst c12
      have H1 : (some (true, t167)) = some (r1, r2) := by rw [if_pos rfl] at H; exact H
      clear H
      have H := H1
      clear H1
      simp only [some.injEq, Prod.mk.injEq] at H
      obtain ⟨rfl, rfl⟩ := H
      go_enter func98, ntmps98
      go_wp2_with (first | ((with_reducible refine gate_dst (N := 3) rfl ?_); refine bx_ 3 #[.int .u64 a1_0, .int .u64 a1_1] 39 ?_; intro gb161 hg w13 hbox hb; have BK161 := ak_ hbox; have GW161 := ak_ (gs_ hg HB); have GE161 := ak_ (gs_ hg HB); replace HB := ak_ (bt_ (bl_ HB) hb); clear hb hbox hg; obtain ⟨hcz14_0, hcz14_1, hfz14_0, hfz14_1⟩ := kc2_ BK161.out) | ((with_reducible refine gate_callee (f := 97) rfl ?_); refine gl_ (some 14) func97 #[.int .i64 a0, .agg #[.int .u64 a1_0, .int .u64 a1_1]] ?_; (with_reducible refine (sub_Check.calls k a0 a1_0 a1_1 t162 _ A3.out).mono ?_); rintro e w15 ⟨rfl, hb⟩; refine ⟨_, rfl, ?_⟩; replace BK161 := ak_ (kb_ (kl_ BK161) hb); replace HB := ak_ (bt_ (bw1_ HB GE161) hb); (try clear hb); (try clear hk); obtain ⟨hcz16_0, hcz16_1, hfz16_0, hfz16_1⟩ := kc2_ BK161.out) | ((with_reducible refine gate_callee (f := 137) rfl ?_); refine gl_ (some 27) func137 #[.int .i64 a0, .agg #[.int .u64 a1_0, .int .u64 a1_1]] ?_; (with_reducible refine (sub_depths.calls k a0 a1_0 a1_1 t163 t164 t165 true t167 _ A10.out).mono ?_); rintro e w17 ⟨rfl, hb⟩; refine ⟨_, rfl, ?_⟩; replace BK161 := ak_ (kb_ (kl_ BK161) hb); replace HB := ak_ (bt_ (bw1_ HB GE161) hb); (try clear hb); (try clear hk)))
      go_ret2
      exact ea_ (bw1_ HB GE161)
     ·replace c12 := Bool.eq_false_iff.mpr c12
      subst c12
      have H1 : (some (decide (t164 ≤ t165), t167)) = some (r1, r2) := by rw [if_neg (show ¬ (false = true) by decide)] at H; exact H
      clear H
      have H := H1
      clear H1
      simp only [some.injEq, Prod.mk.injEq] at H
      obtain ⟨rfl, rfl⟩ := H
      go_enter func98, ntmps98
      go_wp2_with (first | ((with_reducible refine gate_dst (N := 3) rfl ?_); refine bx_ 3 #[.int .u64 a1_0, .int .u64 a1_1] 39 ?_; intro gb161 hg w18 hbox hb; have BK161 := ak_ hbox; have GW161 := ak_ (gs_ hg HB); have GE161 := ak_ (gs_ hg HB); replace HB := ak_ (bt_ (bl_ HB) hb); clear hb hbox hg; obtain ⟨hcz19_0, hcz19_1, hfz19_0, hfz19_1⟩ := kc2_ BK161.out) | ((with_reducible refine gate_callee (f := 97) rfl ?_); refine gl_ (some 14) func97 #[.int .i64 a0, .agg #[.int .u64 a1_0, .int .u64 a1_1]] ?_; (with_reducible refine (sub_Check.calls k a0 a1_0 a1_1 t162 _ A3.out).mono ?_); rintro e w20 ⟨rfl, hb⟩; refine ⟨_, rfl, ?_⟩; replace BK161 := ak_ (kb_ (kl_ BK161) hb); replace HB := ak_ (bt_ (bw1_ HB GE161) hb); (try clear hb); (try clear hk); obtain ⟨hcz21_0, hcz21_1, hfz21_0, hfz21_1⟩ := kc2_ BK161.out) | ((with_reducible refine gate_callee (f := 137) rfl ?_); refine gl_ (some 27) func137 #[.int .i64 a0, .agg #[.int .u64 a1_0, .int .u64 a1_1]] ?_; (with_reducible refine (sub_depths.calls k a0 a1_0 a1_1 t163 t164 t165 false t167 _ A10.out).mono ?_); rintro e w22 ⟨rfl, hb⟩; refine ⟨_, rfl, ?_⟩; replace BK161 := ak_ (kb_ (kl_ BK161) hb); replace HB := ak_ (bt_ (bw1_ HB GE161) hb); (try clear hb); (try clear hk)))
      go_ret2
      exact ea_ (bw1_ HB GE161)
    ·rw [if_neg c11] at H
     have c11b0 : (t167 == 0) = false := beq_eq_false_iff_ne.mpr c11
     have c11b1 : (t167 != 0) = true := bne_iff_ne.mpr c11
     simp only [some.injEq, Prod.mk.injEq] at H
     obtain ⟨rfl, rfl⟩ := H
     go_enter func98, ntmps98
     go_wp2_with (first | ((with_reducible refine gate_dst (N := 3) rfl ?_); refine bx_ 3 #[.int .u64 a1_0, .int .u64 a1_1] 39 ?_; intro gb161 hg w23 hbox hb; have BK161 := ak_ hbox; have GW161 := ak_ (gs_ hg HB); have GE161 := ak_ (gs_ hg HB); replace HB := ak_ (bt_ (bl_ HB) hb); clear hb hbox hg; obtain ⟨hcz24_0, hcz24_1, hfz24_0, hfz24_1⟩ := kc2_ BK161.out) | ((with_reducible refine gate_callee (f := 97) rfl ?_); refine gl_ (some 14) func97 #[.int .i64 a0, .agg #[.int .u64 a1_0, .int .u64 a1_1]] ?_; (with_reducible refine (sub_Check.calls k a0 a1_0 a1_1 t162 _ A3.out).mono ?_); rintro e w25 ⟨rfl, hb⟩; refine ⟨_, rfl, ?_⟩; replace BK161 := ak_ (kb_ (kl_ BK161) hb); replace HB := ak_ (bt_ (bw1_ HB GE161) hb); (try clear hb); (try clear hk); obtain ⟨hcz26_0, hcz26_1, hfz26_0, hfz26_1⟩ := kc2_ BK161.out) | ((with_reducible refine gate_callee (f := 137) rfl ?_); refine gl_ (some 27) func137 #[.int .i64 a0, .agg #[.int .u64 a1_0, .int .u64 a1_1]] ?_; (with_reducible refine (sub_depths.calls k a0 a1_0 a1_1 t163 t164 t165 t166 t167 _ A10.out).mono ?_); rintro e w27 ⟨rfl, hb⟩; refine ⟨_, rfl, ?_⟩; replace BK161 := ak_ (kb_ (kl_ BK161) hb); replace HB := ak_ (bt_ (bw1_ HB GE161) hb); (try clear hb); (try clear hk)))
     go_ret2
     exact ea_ (bw1_ HB GE161)
  ·rw [if_neg c4] at H
   have c4b0 : (t162 == 0) = false := beq_eq_false_iff_ne.mpr c4
   have c4b1 : (t162 != 0) = true := bne_iff_ne.mpr c4
   simp only [some.injEq, Prod.mk.injEq] at H
   obtain ⟨rfl, rfl⟩ := H
   go_enter func98, ntmps98
   go_wp2_with (first | ((with_reducible refine gate_dst (N := 3) rfl ?_); refine bx_ 3 #[.int .u64 a1_0, .int .u64 a1_1] 39 ?_; intro gb161 hg w28 hbox hb; have BK161 := ak_ hbox; have GW161 := ak_ (gs_ hg HB); have GE161 := ak_ (gs_ hg HB); replace HB := ak_ (bt_ (bl_ HB) hb); clear hb hbox hg; obtain ⟨hcz29_0, hcz29_1, hfz29_0, hfz29_1⟩ := kc2_ BK161.out) | ((with_reducible refine gate_callee (f := 97) rfl ?_); refine gl_ (some 14) func97 #[.int .i64 a0, .agg #[.int .u64 a1_0, .int .u64 a1_1]] ?_; (with_reducible refine (sub_Check.calls k a0 a1_0 a1_1 t162 _ A3.out).mono ?_); rintro e w30 ⟨rfl, hb⟩; refine ⟨_, rfl, ?_⟩; replace BK161 := ak_ (kb_ (kl_ BK161) hb); replace HB := ak_ (bt_ (bw1_ HB GE161) hb); (try clear hb); (try clear hk)))
   go_ret2
   exact ea_ (bw1_ HB GE161)
end Go.Proofs.Ytoljdfgkkkpnbaa.MP
