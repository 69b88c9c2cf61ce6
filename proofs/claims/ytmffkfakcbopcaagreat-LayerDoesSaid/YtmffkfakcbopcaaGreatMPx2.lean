-- written by a program of this session (wip/tools/mprint.sh) for this seat
import Derived.Test.YtmffkfakcbopcaaGreatMPx0
namespace Go.Proofs.YtmffkfakcbopcaaGreat.MP
open Go.RowKit Go.Proofs.YtmffkfakcbopcaaGreatW.PrintWords Go.Proofs.YtmffkfakcbopcaaGreatW.PrintLast Go.Proofs.YtmffkfakcbopcaaGreatW.PrintMore
open Option (bind_eq_some_iff some.injEq)
open _root_.Go.Proofs.Tryz
open List (setIfInBounds_toArray set_cons_zero set_cons_succ map_toArray map_cons map_nil length_drop length_take)
attribute [local go_sem] max2_int min2_int max_two min_two max_three min_three max_four min_four
set_option linter.unusedVariables false
set_option linter.unusedSimpArgs false
def node_high.f (a0 : Int) : Option (Bool) := if a0 ≥ 1 then (some (decide (a0 ≤ 32))) else (some false)
set_option maxHeartbeats 8000000 in
set_option maxRecDepth 100000 in
theorem node_high.calls (a0 : Int) (r : Bool) (w : World) (h : node_high.f a0 = some r) :
   Calls Tryz.prog 65 #[.int .i64 a0] w fun e w' => e = .returned (.bool r) ∧ Drawn0 w w' := by
  have H : (if a0 ≥ 1 then (some (decide (a0 ≤ 32))) else (some false)) = some r := h
  clear h
  by_cases c2 : a0 ≥ 1
  ·rw [if_pos c2] at H
   have c2b0 : decide (1 ≤ a0) = true := decide_eq_true c2
   clear c2
   obtain rfl := Option.some.inj H
   go_enter func65, ntmps65
   go_wp2
   go_ret
   exact ⟨by first | rfl | (simp; done) | (simp [*]; done), by repeat (first | exact Drawn0.refl _ | apply Drawn0.step)⟩
  ·rw [if_neg c2] at H
   have c2b0 : decide (1 ≤ a0) = false := decide_eq_false c2
   clear c2
   obtain rfl := Option.some.inj H
   go_enter func65, ntmps65
   go_wp2
   go_ret
   exact ⟨by first | rfl | (simp; done) | (simp [*]; done), by repeat (first | exact Drawn0.refl _ | apply Drawn0.step)⟩
def bits_Len64.j0 : Nat → Int → Int → Option (Int)
  | 0, _, _ => none
  | k + 1, x0, x2 => if x0 ≥ 65536 then (if (x0 / 65536) ≥ 256 then (if 0 ≤ (((x0 / 65536) / 256) % 256) then (if (((x0 / 65536) / 256) % 256) < 256 then (some (wrap64 ((wrap64 ((wrap64 (x2 + 16)) + 8)) + (wrap64 (bt (⟨#[0, 1, 2, 2, 3, 3, 3, 3, 4, 4, 4, 4, 4, 4, 4, 4, 5, 5, 5, 5, 5, 5, 5, 5, 5, 5, 5, 5, 5, 5, 5, 5, 6, 6, 6, 6, 6, 6, 6, 6, 6, 6, 6, 6, 6, 6, 6, 6, 6, 6, 6, 6, 6, 6, 6, 6, 6, 6, 6, 6, 6, 6, 6, 6, 7, 7, 7, 7, 7, 7, 7, 7, 7, 7, 7, 7, 7, 7, 7, 7, 7, 7, 7, 7, 7, 7, 7, 7, 7, 7, 7, 7, 7, 7, 7, 7, 7, 7, 7, 7, 7, 7, 7, 7, 7, 7, 7, 7, 7, 7, 7, 7, 7, 7, 7, 7, 7, 7, 7, 7, 7, 7, 7, 7, 7, 7, 7, 7, 8, 8, 8, 8, 8, 8, 8, 8, 8, 8, 8, 8, 8, 8, 8, 8, 8, 8, 8, 8, 8, 8, 8, 8, 8, 8, 8, 8, 8, 8, 8, 8, 8, 8, 8, 8, 8, 8, 8, 8, 8, 8, 8, 8, 8, 8, 8, 8, 8, 8, 8, 8, 8, 8, 8, 8, 8, 8, 8, 8, 8, 8, 8, 8, 8, 8, 8, 8, 8, 8, 8, 8, 8, 8, 8, 8, 8, 8, 8, 8, 8, 8, 8, 8, 8, 8, 8, 8, 8, 8, 8, 8, 8, 8, 8, 8, 8, 8, 8, 8, 8, 8, 8, 8, 8, 8, 8, 8, 8, 8, 8, 8, 8, 8, 8, 8, 8, 8, 8, 8, 8, 8, 8, 8, 8, 8, 8, 8]⟩ : ByteArray) (((x0 / 65536) / 256) % 256)))))) else (none)) else (none)) else (if 0 ≤ ((x0 / 65536) % 256) then (if ((x0 / 65536) % 256) < 256 then (some (wrap64 ((wrap64 (x2 + 16)) + (wrap64 (bt (⟨#[0, 1, 2, 2, 3, 3, 3, 3, 4, 4, 4, 4, 4, 4, 4, 4, 5, 5, 5, 5, 5, 5, 5, 5, 5, 5, 5, 5, 5, 5, 5, 5, 6, 6, 6, 6, 6, 6, 6, 6, 6, 6, 6, 6, 6, 6, 6, 6, 6, 6, 6, 6, 6, 6, 6, 6, 6, 6, 6, 6, 6, 6, 6, 6, 7, 7, 7, 7, 7, 7, 7, 7, 7, 7, 7, 7, 7, 7, 7, 7, 7, 7, 7, 7, 7, 7, 7, 7, 7, 7, 7, 7, 7, 7, 7, 7, 7, 7, 7, 7, 7, 7, 7, 7, 7, 7, 7, 7, 7, 7, 7, 7, 7, 7, 7, 7, 7, 7, 7, 7, 7, 7, 7, 7, 7, 7, 7, 7, 8, 8, 8, 8, 8, 8, 8, 8, 8, 8, 8, 8, 8, 8, 8, 8, 8, 8, 8, 8, 8, 8, 8, 8, 8, 8, 8, 8, 8, 8, 8, 8, 8, 8, 8, 8, 8, 8, 8, 8, 8, 8, 8, 8, 8, 8, 8, 8, 8, 8, 8, 8, 8, 8, 8, 8, 8, 8, 8, 8, 8, 8, 8, 8, 8, 8, 8, 8, 8, 8, 8, 8, 8, 8, 8, 8, 8, 8, 8, 8, 8, 8, 8, 8, 8, 8, 8, 8, 8, 8, 8, 8, 8, 8, 8, 8, 8, 8, 8, 8, 8, 8, 8, 8, 8, 8, 8, 8, 8, 8, 8, 8, 8, 8, 8, 8, 8, 8, 8, 8, 8, 8, 8, 8, 8, 8, 8, 8]⟩ : ByteArray) ((x0 / 65536) % 256)))))) else (none)) else (none))) else (if x0 ≥ 256 then (if 0 ≤ ((x0 / 256) % 256) then (if ((x0 / 256) % 256) < 256 then (some (wrap64 ((wrap64 (x2 + 8)) + (wrap64 (bt (⟨#[0, 1, 2, 2, 3, 3, 3, 3, 4, 4, 4, 4, 4, 4, 4, 4, 5, 5, 5, 5, 5, 5, 5, 5, 5, 5, 5, 5, 5, 5, 5, 5, 6, 6, 6, 6, 6, 6, 6, 6, 6, 6, 6, 6, 6, 6, 6, 6, 6, 6, 6, 6, 6, 6, 6, 6, 6, 6, 6, 6, 6, 6, 6, 6, 7, 7, 7, 7, 7, 7, 7, 7, 7, 7, 7, 7, 7, 7, 7, 7, 7, 7, 7, 7, 7, 7, 7, 7, 7, 7, 7, 7, 7, 7, 7, 7, 7, 7, 7, 7, 7, 7, 7, 7, 7, 7, 7, 7, 7, 7, 7, 7, 7, 7, 7, 7, 7, 7, 7, 7, 7, 7, 7, 7, 7, 7, 7, 7, 8, 8, 8, 8, 8, 8, 8, 8, 8, 8, 8, 8, 8, 8, 8, 8, 8, 8, 8, 8, 8, 8, 8, 8, 8, 8, 8, 8, 8, 8, 8, 8, 8, 8, 8, 8, 8, 8, 8, 8, 8, 8, 8, 8, 8, 8, 8, 8, 8, 8, 8, 8, 8, 8, 8, 8, 8, 8, 8, 8, 8, 8, 8, 8, 8, 8, 8, 8, 8, 8, 8, 8, 8, 8, 8, 8, 8, 8, 8, 8, 8, 8, 8, 8, 8, 8, 8, 8, 8, 8, 8, 8, 8, 8, 8, 8, 8, 8, 8, 8, 8, 8, 8, 8, 8, 8, 8, 8, 8, 8, 8, 8, 8, 8, 8, 8, 8, 8, 8, 8, 8, 8, 8, 8, 8, 8, 8, 8]⟩ : ByteArray) ((x0 / 256) % 256)))))) else (none)) else (none)) else (if 0 ≤ ((x0) % 256) then (if ((x0) % 256) < 256 then (some (wrap64 (x2 + (wrap64 (bt (⟨#[0, 1, 2, 2, 3, 3, 3, 3, 4, 4, 4, 4, 4, 4, 4, 4, 5, 5, 5, 5, 5, 5, 5, 5, 5, 5, 5, 5, 5, 5, 5, 5, 6, 6, 6, 6, 6, 6, 6, 6, 6, 6, 6, 6, 6, 6, 6, 6, 6, 6, 6, 6, 6, 6, 6, 6, 6, 6, 6, 6, 6, 6, 6, 6, 7, 7, 7, 7, 7, 7, 7, 7, 7, 7, 7, 7, 7, 7, 7, 7, 7, 7, 7, 7, 7, 7, 7, 7, 7, 7, 7, 7, 7, 7, 7, 7, 7, 7, 7, 7, 7, 7, 7, 7, 7, 7, 7, 7, 7, 7, 7, 7, 7, 7, 7, 7, 7, 7, 7, 7, 7, 7, 7, 7, 7, 7, 7, 7, 8, 8, 8, 8, 8, 8, 8, 8, 8, 8, 8, 8, 8, 8, 8, 8, 8, 8, 8, 8, 8, 8, 8, 8, 8, 8, 8, 8, 8, 8, 8, 8, 8, 8, 8, 8, 8, 8, 8, 8, 8, 8, 8, 8, 8, 8, 8, 8, 8, 8, 8, 8, 8, 8, 8, 8, 8, 8, 8, 8, 8, 8, 8, 8, 8, 8, 8, 8, 8, 8, 8, 8, 8, 8, 8, 8, 8, 8, 8, 8, 8, 8, 8, 8, 8, 8, 8, 8, 8, 8, 8, 8, 8, 8, 8, 8, 8, 8, 8, 8, 8, 8, 8, 8, 8, 8, 8, 8, 8, 8, 8, 8, 8, 8, 8, 8, 8, 8, 8, 8, 8, 8, 8, 8, 8, 8, 8, 8]⟩ : ByteArray) ((x0) % 256)))))) else (none)) else (none)))
def bits_Len64.f (k : Nat) (a0 : Int) : Option (Int) := if a0 ≥ 4294967296 then (bits_Len64.j0 k (a0 / 4294967296) 32) else (bits_Len64.j0 k a0 0)
theorem bits_Len64.mono_l : ∀ k, (∀ y0 y1, LeO (bits_Len64.j0 k y0 y1) (bits_Len64.j0 (k + 1) y0 y1))
  | 0 => fun _ _ r h => by simp [bits_Len64.j0] at h
  | k + 1 => by
   have ih0 := bits_Len64.mono_l k
   ·intro y0 y1
    unfold bits_Len64.j0
    repeat' first
    | (with_reducible exact ih0 _ _)
    | (with_reducible exact LeO.refl _)
    | (with_reducible exact LeO.none _)
    | (with_reducible refine LeO.ite ?_ ?_)
    | (with_reducible refine LeO.bind ?_ (fun _ => ?_))
    | exact ih0 _ _
    | exact LeO.none _
    | refine LeO.ite ?_ ?_
    | refine LeO.bind ?_ (fun _ => ?_)
theorem bits_Len64.mono : ∀ a0 k, LeO (bits_Len64.f k a0) (bits_Len64.f (k + 1) a0) := by
  intro a0 k
  have ih0 := bits_Len64.mono_l k
  unfold bits_Len64.f
  repeat' first
    | (with_reducible exact ih0 _ _)
    | (with_reducible exact LeO.refl _)
    | (with_reducible exact LeO.none _)
    | (with_reducible refine LeO.ite ?_ ?_)
    | (with_reducible refine LeO.bind ?_ (fun _ => ?_))
    | exact ih0 _ _
    | exact LeO.none _
    | refine LeO.ite ?_ ?_
    | refine LeO.bind ?_ (fun _ => ?_)
set_option maxHeartbeats 8000000 in
set_option maxRecDepth 100000 in
theorem bits_Len64.calls (k : Nat) (a0 : Int) (r : Int) (w : World) (h : bits_Len64.f k a0 = some r) :
   Calls Tryz.prog 83 #[.int .u64 a0] w fun e w' => e = .returned (.int .i64 r) ∧ Drawn0 w w' := by
  have H : (if a0 ≥ 4294967296 then (bits_Len64.j0 k (a0 / 4294967296) 32) else (bits_Len64.j0 k a0 0)) = some r := h
  clear h
  have HC2 := ak_ H
  clear H
  go_enter func83, ntmps83
  go_upto_if 4 with (fail)
  go_cut [0, 2] (fun v0 v2 wc => ∃ (kq : Nat) (x0_1 : Int) (x2_1 : Int), v0 = .int .u64 x0_1 ∧ v2 = .int .i64 x2_1 ∧ Aside0 (bits_Len64.j0 kq x0_1 x2_1 = some r) ∧ Aside0 (kq ≤ k) ∧ Drawn0 w wc)
  case first =>
   have H := HC2.out
   clear HC2
   by_cases c3 : a0 ≥ 4294967296
   ·rw [if_pos c3] at H
    have c3b0 : decide (4294967296 ≤ a0) = true := decide_eq_true c3
    clear c3
    (first | rw [c3b0] | (simp only [i64_w, i32_w]; rw [c3b0]) | skip)
    have H' := ak_ H
    clear H
    go_wp2
    go_meet
    case rel => exact ⟨_, (a0 / 4294967296), (32), (by first | rfl | (simp; done) | (simp [*]; done)), (by first | rfl | (simp; done) | (simp [*]; done)), H', ⟨by first | omega | exact Nat.le_refl _⟩, by repeat (first | exact Drawn0.refl _ | apply Drawn0.step)⟩
   ·rw [if_neg c3] at H
    have c3b0 : decide (4294967296 ≤ a0) = false := decide_eq_false c3
    clear c3
    (first | rw [c3b0] | (simp only [i64_w, i32_w]; rw [c3b0]) | skip)
    have H' := ak_ H
    clear H
    go_wp2
    go_meet
    case rel => exact ⟨_, (a0), (0), (by first | rfl | (simp; done) | (simp [*]; done)), (by first | rfl | (simp; done) | (simp [*]; done)), H', ⟨by first | omega | exact Nat.le_refl _⟩, by repeat (first | exact Drawn0.refl _ | apply Drawn0.step)⟩
  case rest =>
   clear HC2
   try clear p2
   try clear c3
   try clear c3b0
   obtain ⟨kq, x0_1, x2_1, rfl, rfl, HA, HJ1, ⟨mc1, rfl⟩⟩ := hcut
   cases kq with
   | zero => exact absurd HA.out (by simp [bits_Len64.j0])
   | succ kj1 =>
    have H := HA.out
    clear HA
    simp only [bits_Len64.j0] at H
    by_cases c4 : x0_1 ≥ 65536
    ·rw [if_pos c4] at H
     have c4b0 : decide (65536 ≤ x0_1) = true := decide_eq_true c4
     clear c4
     by_cases c5 : (x0_1 / 65536) ≥ 256
     ·rw [if_pos c5] at H
      have c5b0 : decide (256 ≤ (x0_1 / 65536)) = true := decide_eq_true c5
      clear c5
      obtain ⟨ji6, hji6⟩ : ∃ j_ : Int, (((x0_1 / 65536) / 256) % 256) = j_ := ⟨_, rfl⟩
      replace H : (if 0 ≤ (ji6) then (if (ji6) < 256 then (some (wrap64 ((wrap64 ((wrap64 (x2_1 + 16)) + 8)) + (wrap64 (bt (⟨#[0, 1, 2, 2, 3, 3, 3, 3, 4, 4, 4, 4, 4, 4, 4, 4, 5, 5, 5, 5, 5, 5, 5, 5, 5, 5, 5, 5, 5, 5, 5, 5, 6, 6, 6, 6, 6, 6, 6, 6, 6, 6, 6, 6, 6, 6, 6, 6, 6, 6, 6, 6, 6, 6, 6, 6, 6, 6, 6, 6, 6, 6, 6, 6, 7, 7, 7, 7, 7, 7, 7, 7, 7, 7, 7, 7, 7, 7, 7, 7, 7, 7, 7, 7, 7, 7, 7, 7, 7, 7, 7, 7, 7, 7, 7, 7, 7, 7, 7, 7, 7, 7, 7, 7, 7, 7, 7, 7, 7, 7, 7, 7, 7, 7, 7, 7, 7, 7, 7, 7, 7, 7, 7, 7, 7, 7, 7, 7, 8, 8, 8, 8, 8, 8, 8, 8, 8, 8, 8, 8, 8, 8, 8, 8, 8, 8, 8, 8, 8, 8, 8, 8, 8, 8, 8, 8, 8, 8, 8, 8, 8, 8, 8, 8, 8, 8, 8, 8, 8, 8, 8, 8, 8, 8, 8, 8, 8, 8, 8, 8, 8, 8, 8, 8, 8, 8, 8, 8, 8, 8, 8, 8, 8, 8, 8, 8, 8, 8, 8, 8, 8, 8, 8, 8, 8, 8, 8, 8, 8, 8, 8, 8, 8, 8, 8, 8, 8, 8, 8, 8, 8, 8, 8, 8, 8, 8, 8, 8, 8, 8, 8, 8, 8, 8, 8, 8, 8, 8, 8, 8, 8, 8, 8, 8, 8, 8, 8, 8, 8, 8, 8, 8, 8, 8, 8, 8]⟩ : ByteArray) (ji6)))))) else (none)) else (none)) = some r := by first | (rw [hji6] at H; exact H) | (simp only [hji6] at H ⊢; exact H)
      by_cases c7 : 0 ≤ (ji6)
      ·rw [if_pos c7] at H
       have c7b0 := decide_eq_true c7
       clear c7
       by_cases c8 : (ji6) < 256
       ·rw [if_pos c8] at H
        have c8b0 := decide_eq_true c8
        clear c8
        obtain rfl := Option.some.inj H
        have p9 : 0 ≤ ((ji6) : Int) := od_ (by first | (with_reducible assumption) | assumption)
        have q9 : (ji6) < (256 : Int) := od_ (by first | (with_reducible assumption) | assumption)
        have hx9 := bt_at (⟨#[0, 1, 2, 2, 3, 3, 3, 3, 4, 4, 4, 4, 4, 4, 4, 4, 5, 5, 5, 5, 5, 5, 5, 5, 5, 5, 5, 5, 5, 5, 5, 5, 6, 6, 6, 6, 6, 6, 6, 6, 6, 6, 6, 6, 6, 6, 6, 6, 6, 6, 6, 6, 6, 6, 6, 6, 6, 6, 6, 6, 6, 6, 6, 6, 7, 7, 7, 7, 7, 7, 7, 7, 7, 7, 7, 7, 7, 7, 7, 7, 7, 7, 7, 7, 7, 7, 7, 7, 7, 7, 7, 7, 7, 7, 7, 7, 7, 7, 7, 7, 7, 7, 7, 7, 7, 7, 7, 7, 7, 7, 7, 7, 7, 7, 7, 7, 7, 7, 7, 7, 7, 7, 7, 7, 7, 7, 7, 7, 8, 8, 8, 8, 8, 8, 8, 8, 8, 8, 8, 8, 8, 8, 8, 8, 8, 8, 8, 8, 8, 8, 8, 8, 8, 8, 8, 8, 8, 8, 8, 8, 8, 8, 8, 8, 8, 8, 8, 8, 8, 8, 8, 8, 8, 8, 8, 8, 8, 8, 8, 8, 8, 8, 8, 8, 8, 8, 8, 8, 8, 8, 8, 8, 8, 8, 8, 8, 8, 8, 8, 8, 8, 8, 8, 8, 8, 8, 8, 8, 8, 8, 8, 8, 8, 8, 8, 8, 8, 8, 8, 8, 8, 8, 8, 8, 8, 8, 8, 8, 8, 8, 8, 8, 8, 8, 8, 8, 8, 8, 8, 8, 8, 8, 8, 8, 8, 8, 8, 8, 8, 8, 8, 8, 8, 8, 8, 8]⟩ : ByteArray) (ji6)
        replace p9 := eq_true p9
        replace q9 := eq_true q9
        go_wp2
        go_ret
        exact ⟨by first | rfl | (simp; done) | (simp only [← hji6] <;> (first | rfl | simp)) | (simp [*]; done), by repeat (first | exact Drawn0.refl _ | apply Drawn0.step)⟩
       ·rw [if_neg c8] at H
        exact absurd H (by simp)
      ·rw [if_neg c7] at H
       exact absurd H (by simp)
     ·rw [if_neg c5] at H
      have c5b0 : decide (256 ≤ (x0_1 / 65536)) = false := decide_eq_false c5
      clear c5
      obtain ⟨ji10, hji10⟩ : ∃ j_ : Int, ((x0_1 / 65536) % 256) = j_ := ⟨_, rfl⟩
      replace H : (if 0 ≤ (ji10) then (if (ji10) < 256 then (some (wrap64 ((wrap64 (x2_1 + 16)) + (wrap64 (bt (⟨#[0, 1, 2, 2, 3, 3, 3, 3, 4, 4, 4, 4, 4, 4, 4, 4, 5, 5, 5, 5, 5, 5, 5, 5, 5, 5, 5, 5, 5, 5, 5, 5, 6, 6, 6, 6, 6, 6, 6, 6, 6, 6, 6, 6, 6, 6, 6, 6, 6, 6, 6, 6, 6, 6, 6, 6, 6, 6, 6, 6, 6, 6, 6, 6, 7, 7, 7, 7, 7, 7, 7, 7, 7, 7, 7, 7, 7, 7, 7, 7, 7, 7, 7, 7, 7, 7, 7, 7, 7, 7, 7, 7, 7, 7, 7, 7, 7, 7, 7, 7, 7, 7, 7, 7, 7, 7, 7, 7, 7, 7, 7, 7, 7, 7, 7, 7, 7, 7, 7, 7, 7, 7, 7, 7, 7, 7, 7, 7, 8, 8, 8, 8, 8, 8, 8, 8, 8, 8, 8, 8, 8, 8, 8, 8, 8, 8, 8, 8, 8, 8, 8, 8, 8, 8, 8, 8, 8, 8, 8, 8, 8, 8, 8, 8, 8, 8, 8, 8, 8, 8, 8, 8, 8, 8, 8, 8, 8, 8, 8, 8, 8, 8, 8, 8, 8, 8, 8, 8, 8, 8, 8, 8, 8, 8, 8, 8, 8, 8, 8, 8, 8, 8, 8, 8, 8, 8, 8, 8, 8, 8, 8, 8, 8, 8, 8, 8, 8, 8, 8, 8, 8, 8, 8, 8, 8, 8, 8, 8, 8, 8, 8, 8, 8, 8, 8, 8, 8, 8, 8, 8, 8, 8, 8, 8, 8, 8, 8, 8, 8, 8, 8, 8, 8, 8, 8, 8]⟩ : ByteArray) (ji10)))))) else (none)) else (none)) = some r := by first | (rw [hji10] at H; exact H) | (simp only [hji10] at H ⊢; exact H)
      by_cases c11 : 0 ≤ (ji10)
      ·rw [if_pos c11] at H
       have c11b0 := decide_eq_true c11
       clear c11
       by_cases c12 : (ji10) < 256
       ·rw [if_pos c12] at H
        have c12b0 := decide_eq_true c12
        clear c12
        obtain rfl := Option.some.inj H
        have p13 : 0 ≤ ((ji10) : Int) := od_ (by first | (with_reducible assumption) | assumption)
        have q13 : (ji10) < (256 : Int) := od_ (by first | (with_reducible assumption) | assumption)
        have hx13 := bt_at (⟨#[0, 1, 2, 2, 3, 3, 3, 3, 4, 4, 4, 4, 4, 4, 4, 4, 5, 5, 5, 5, 5, 5, 5, 5, 5, 5, 5, 5, 5, 5, 5, 5, 6, 6, 6, 6, 6, 6, 6, 6, 6, 6, 6, 6, 6, 6, 6, 6, 6, 6, 6, 6, 6, 6, 6, 6, 6, 6, 6, 6, 6, 6, 6, 6, 7, 7, 7, 7, 7, 7, 7, 7, 7, 7, 7, 7, 7, 7, 7, 7, 7, 7, 7, 7, 7, 7, 7, 7, 7, 7, 7, 7, 7, 7, 7, 7, 7, 7, 7, 7, 7, 7, 7, 7, 7, 7, 7, 7, 7, 7, 7, 7, 7, 7, 7, 7, 7, 7, 7, 7, 7, 7, 7, 7, 7, 7, 7, 7, 8, 8, 8, 8, 8, 8, 8, 8, 8, 8, 8, 8, 8, 8, 8, 8, 8, 8, 8, 8, 8, 8, 8, 8, 8, 8, 8, 8, 8, 8, 8, 8, 8, 8, 8, 8, 8, 8, 8, 8, 8, 8, 8, 8, 8, 8, 8, 8, 8, 8, 8, 8, 8, 8, 8, 8, 8, 8, 8, 8, 8, 8, 8, 8, 8, 8, 8, 8, 8, 8, 8, 8, 8, 8, 8, 8, 8, 8, 8, 8, 8, 8, 8, 8, 8, 8, 8, 8, 8, 8, 8, 8, 8, 8, 8, 8, 8, 8, 8, 8, 8, 8, 8, 8, 8, 8, 8, 8, 8, 8, 8, 8, 8, 8, 8, 8, 8, 8, 8, 8, 8, 8, 8, 8, 8, 8, 8, 8]⟩ : ByteArray) (ji10)
        replace p13 := eq_true p13
        replace q13 := eq_true q13
        go_wp2
        go_ret
        exact ⟨by first | rfl | (simp; done) | (simp only [← hji10] <;> (first | rfl | simp)) | (simp [*]; done), by repeat (first | exact Drawn0.refl _ | apply Drawn0.step)⟩
       ·rw [if_neg c12] at H
        exact absurd H (by simp)
      ·rw [if_neg c11] at H
       exact absurd H (by simp)
    ·rw [if_neg c4] at H
     have c4b0 : decide (65536 ≤ x0_1) = false := decide_eq_false c4
     clear c4
     by_cases c14 : x0_1 ≥ 256
     ·rw [if_pos c14] at H
      have c14b0 : decide (256 ≤ x0_1) = true := decide_eq_true c14
      clear c14
      obtain ⟨ji15, hji15⟩ : ∃ j_ : Int, ((x0_1 / 256) % 256) = j_ := ⟨_, rfl⟩
      replace H : (if 0 ≤ (ji15) then (if (ji15) < 256 then (some (wrap64 ((wrap64 (x2_1 + 8)) + (wrap64 (bt (⟨#[0, 1, 2, 2, 3, 3, 3, 3, 4, 4, 4, 4, 4, 4, 4, 4, 5, 5, 5, 5, 5, 5, 5, 5, 5, 5, 5, 5, 5, 5, 5, 5, 6, 6, 6, 6, 6, 6, 6, 6, 6, 6, 6, 6, 6, 6, 6, 6, 6, 6, 6, 6, 6, 6, 6, 6, 6, 6, 6, 6, 6, 6, 6, 6, 7, 7, 7, 7, 7, 7, 7, 7, 7, 7, 7, 7, 7, 7, 7, 7, 7, 7, 7, 7, 7, 7, 7, 7, 7, 7, 7, 7, 7, 7, 7, 7, 7, 7, 7, 7, 7, 7, 7, 7, 7, 7, 7, 7, 7, 7, 7, 7, 7, 7, 7, 7, 7, 7, 7, 7, 7, 7, 7, 7, 7, 7, 7, 7, 8, 8, 8, 8, 8, 8, 8, 8, 8, 8, 8, 8, 8, 8, 8, 8, 8, 8, 8, 8, 8, 8, 8, 8, 8, 8, 8, 8, 8, 8, 8, 8, 8, 8, 8, 8, 8, 8, 8, 8, 8, 8, 8, 8, 8, 8, 8, 8, 8, 8, 8, 8, 8, 8, 8, 8, 8, 8, 8, 8, 8, 8, 8, 8, 8, 8, 8, 8, 8, 8, 8, 8, 8, 8, 8, 8, 8, 8, 8, 8, 8, 8, 8, 8, 8, 8, 8, 8, 8, 8, 8, 8, 8, 8, 8, 8, 8, 8, 8, 8, 8, 8, 8, 8, 8, 8, 8, 8, 8, 8, 8, 8, 8, 8, 8, 8, 8, 8, 8, 8, 8, 8, 8, 8, 8, 8, 8, 8]⟩ : ByteArray) (ji15)))))) else (none)) else (none)) = some r := by first | (rw [hji15] at H; exact H) | (simp only [hji15] at H ⊢; exact H)
      by_cases c16 : 0 ≤ (ji15)
      ·rw [if_pos c16] at H
       have c16b0 := decide_eq_true c16
       clear c16
       by_cases c17 : (ji15) < 256
       ·rw [if_pos c17] at H
        have c17b0 := decide_eq_true c17
        clear c17
        obtain rfl := Option.some.inj H
        have p18 : 0 ≤ ((ji15) : Int) := od_ (by first | (with_reducible assumption) | assumption)
        have q18 : (ji15) < (256 : Int) := od_ (by first | (with_reducible assumption) | assumption)
        have hx18 := bt_at (⟨#[0, 1, 2, 2, 3, 3, 3, 3, 4, 4, 4, 4, 4, 4, 4, 4, 5, 5, 5, 5, 5, 5, 5, 5, 5, 5, 5, 5, 5, 5, 5, 5, 6, 6, 6, 6, 6, 6, 6, 6, 6, 6, 6, 6, 6, 6, 6, 6, 6, 6, 6, 6, 6, 6, 6, 6, 6, 6, 6, 6, 6, 6, 6, 6, 7, 7, 7, 7, 7, 7, 7, 7, 7, 7, 7, 7, 7, 7, 7, 7, 7, 7, 7, 7, 7, 7, 7, 7, 7, 7, 7, 7, 7, 7, 7, 7, 7, 7, 7, 7, 7, 7, 7, 7, 7, 7, 7, 7, 7, 7, 7, 7, 7, 7, 7, 7, 7, 7, 7, 7, 7, 7, 7, 7, 7, 7, 7, 7, 8, 8, 8, 8, 8, 8, 8, 8, 8, 8, 8, 8, 8, 8, 8, 8, 8, 8, 8, 8, 8, 8, 8, 8, 8, 8, 8, 8, 8, 8, 8, 8, 8, 8, 8, 8, 8, 8, 8, 8, 8, 8, 8, 8, 8, 8, 8, 8, 8, 8, 8, 8, 8, 8, 8, 8, 8, 8, 8, 8, 8, 8, 8, 8, 8, 8, 8, 8, 8, 8, 8, 8, 8, 8, 8, 8, 8, 8, 8, 8, 8, 8, 8, 8, 8, 8, 8, 8, 8, 8, 8, 8, 8, 8, 8, 8, 8, 8, 8, 8, 8, 8, 8, 8, 8, 8, 8, 8, 8, 8, 8, 8, 8, 8, 8, 8, 8, 8, 8, 8, 8, 8, 8, 8, 8, 8, 8, 8]⟩ : ByteArray) (ji15)
        replace p18 := eq_true p18
        replace q18 := eq_true q18
        go_wp2
        go_ret
        exact ⟨by first | rfl | (simp; done) | (simp only [← hji15] <;> (first | rfl | simp)) | (simp [*]; done), by repeat (first | exact Drawn0.refl _ | apply Drawn0.step)⟩
       ·rw [if_neg c17] at H
        exact absurd H (by simp)
      ·rw [if_neg c16] at H
       exact absurd H (by simp)
     ·rw [if_neg c14] at H
      have c14b0 : decide (256 ≤ x0_1) = false := decide_eq_false c14
      clear c14
      obtain ⟨ji19, hji19⟩ : ∃ j_ : Int, ((x0_1) % 256) = j_ := ⟨_, rfl⟩
      replace H : (if 0 ≤ (ji19) then (if (ji19) < 256 then (some (wrap64 (x2_1 + (wrap64 (bt (⟨#[0, 1, 2, 2, 3, 3, 3, 3, 4, 4, 4, 4, 4, 4, 4, 4, 5, 5, 5, 5, 5, 5, 5, 5, 5, 5, 5, 5, 5, 5, 5, 5, 6, 6, 6, 6, 6, 6, 6, 6, 6, 6, 6, 6, 6, 6, 6, 6, 6, 6, 6, 6, 6, 6, 6, 6, 6, 6, 6, 6, 6, 6, 6, 6, 7, 7, 7, 7, 7, 7, 7, 7, 7, 7, 7, 7, 7, 7, 7, 7, 7, 7, 7, 7, 7, 7, 7, 7, 7, 7, 7, 7, 7, 7, 7, 7, 7, 7, 7, 7, 7, 7, 7, 7, 7, 7, 7, 7, 7, 7, 7, 7, 7, 7, 7, 7, 7, 7, 7, 7, 7, 7, 7, 7, 7, 7, 7, 7, 8, 8, 8, 8, 8, 8, 8, 8, 8, 8, 8, 8, 8, 8, 8, 8, 8, 8, 8, 8, 8, 8, 8, 8, 8, 8, 8, 8, 8, 8, 8, 8, 8, 8, 8, 8, 8, 8, 8, 8, 8, 8, 8, 8, 8, 8, 8, 8, 8, 8, 8, 8, 8, 8, 8, 8, 8, 8, 8, 8, 8, 8, 8, 8, 8, 8, 8, 8, 8, 8, 8, 8, 8, 8, 8, 8, 8, 8, 8, 8, 8, 8, 8, 8, 8, 8, 8, 8, 8, 8, 8, 8, 8, 8, 8, 8, 8, 8, 8, 8, 8, 8, 8, 8, 8, 8, 8, 8, 8, 8, 8, 8, 8, 8, 8, 8, 8, 8, 8, 8, 8, 8, 8, 8, 8, 8, 8, 8]⟩ : ByteArray) (ji19)))))) else (none)) else (none)) = some r := by first | (rw [hji19] at H; exact H) | (simp only [hji19] at H ⊢; exact H)
      by_cases c20 : 0 ≤ (ji19)
      ·rw [if_pos c20] at H
       have c20b0 := decide_eq_true c20
       clear c20
       by_cases c21 : (ji19) < 256
       ·rw [if_pos c21] at H
        have c21b0 := decide_eq_true c21
        clear c21
        obtain rfl := Option.some.inj H
        have p22 : 0 ≤ ((ji19) : Int) := od_ (by first | (with_reducible assumption) | assumption)
        have q22 : (ji19) < (256 : Int) := od_ (by first | (with_reducible assumption) | assumption)
        have hx22 := bt_at (⟨#[0, 1, 2, 2, 3, 3, 3, 3, 4, 4, 4, 4, 4, 4, 4, 4, 5, 5, 5, 5, 5, 5, 5, 5, 5, 5, 5, 5, 5, 5, 5, 5, 6, 6, 6, 6, 6, 6, 6, 6, 6, 6, 6, 6, 6, 6, 6, 6, 6, 6, 6, 6, 6, 6, 6, 6, 6, 6, 6, 6, 6, 6, 6, 6, 7, 7, 7, 7, 7, 7, 7, 7, 7, 7, 7, 7, 7, 7, 7, 7, 7, 7, 7, 7, 7, 7, 7, 7, 7, 7, 7, 7, 7, 7, 7, 7, 7, 7, 7, 7, 7, 7, 7, 7, 7, 7, 7, 7, 7, 7, 7, 7, 7, 7, 7, 7, 7, 7, 7, 7, 7, 7, 7, 7, 7, 7, 7, 7, 8, 8, 8, 8, 8, 8, 8, 8, 8, 8, 8, 8, 8, 8, 8, 8, 8, 8, 8, 8, 8, 8, 8, 8, 8, 8, 8, 8, 8, 8, 8, 8, 8, 8, 8, 8, 8, 8, 8, 8, 8, 8, 8, 8, 8, 8, 8, 8, 8, 8, 8, 8, 8, 8, 8, 8, 8, 8, 8, 8, 8, 8, 8, 8, 8, 8, 8, 8, 8, 8, 8, 8, 8, 8, 8, 8, 8, 8, 8, 8, 8, 8, 8, 8, 8, 8, 8, 8, 8, 8, 8, 8, 8, 8, 8, 8, 8, 8, 8, 8, 8, 8, 8, 8, 8, 8, 8, 8, 8, 8, 8, 8, 8, 8, 8, 8, 8, 8, 8, 8, 8, 8, 8, 8, 8, 8, 8, 8]⟩ : ByteArray) (ji19)
        replace p22 := eq_true p22
        replace q22 := eq_true q22
        go_wp2
        go_ret
        exact ⟨by first | rfl | (simp; done) | (simp only [← hji19] <;> (first | rfl | simp)) | (simp [*]; done), by repeat (first | exact Drawn0.refl _ | apply Drawn0.step)⟩
       ·rw [if_neg c21] at H
        exact absurd H (by simp)
      ·rw [if_neg c20] at H
       exact absurd H (by simp)
def node_depth.f (k : Nat) (a0 : Int) : Option (Int) := (bits_Len64.f k a0).bind fun t101 => (some (wrap64 (t101 - 1)))
theorem node_depth.mono : ∀ a0 k, LeO (node_depth.f k a0) (node_depth.f (k + 1) a0) := by
  intro a0 k
  unfold node_depth.f
  repeat' first
    | (with_reducible exact bits_Len64.mono _ _)
    | (with_reducible exact LeO.refl _)
    | (with_reducible exact LeO.none _)
    | (with_reducible refine LeO.ite ?_ ?_)
    | (with_reducible refine LeO.bind ?_ (fun _ => ?_))
    | exact bits_Len64.mono _ _
    | exact LeO.none _
    | refine LeO.ite ?_ ?_
    | refine LeO.bind ?_ (fun _ => ?_)
set_option maxHeartbeats 8000000 in
set_option maxRecDepth 100000 in
theorem node_depth.calls (k : Nat) (a0 : Int) (r : Int) (w : World) (h : node_depth.f k a0 = some r) :
   Calls Tryz.prog 66 #[.int .u64 a0] w fun e w' => e = .returned (.int .i64 r) ∧ Drawn0 w w' := by
  have H : ((bits_Len64.f k a0).bind fun t101 => (some (wrap64 (t101 - 1)))) = some r := h
  clear h
  replace H := bind_eq_some_iff.mp H
  obtain ⟨t101, A20, H⟩ := H
  replace H : (some (wrap64 (t101 - 1))) = some r := H
  have A2 := ak_ A20
  clear A20
  obtain rfl := Option.some.inj H
  go_enter func66, ntmps66
  go_wp2_with (first | ((with_reducible refine gate_callee (f := 83) rfl ?_); refine goesL_ (some 4) rfl rfl func83 (by kernel_rfl) rfl #[.int .u64 a0] rfl (by (try simp only [map_toArray, map_cons, map_nil]); first | done | rfl) ?_; (with_reducible refine (bits_Len64.calls k a0 t101 _ A2.out).mono ?_); rintro e w' ⟨rfl, ⟨nd, rfl⟩⟩; refine ⟨_, rfl, ?_⟩))
  go_ret
  exact ⟨by first | rfl | (simp; done) | (simp [*]; done), by repeat (first | exact Drawn0.refl _ | apply Drawn0.step)⟩
def node_Check.f (k : Nat) (a0 : Int) (a1 : Int) : Option (Int) := (node_high.f a0).bind fun t102 => (if t102 = true then (if a1 < 1 then (some 1) else ((node_depth.f k a1).bind fun t103 => (if t103 > a0 then (some 1) else (some 0)))) else (some 1))
theorem node_Check.mono : ∀ a0 a1 k, LeO (node_Check.f k a0 a1) (node_Check.f (k + 1) a0 a1) := by
  intro a0 a1 k
  unfold node_Check.f
  repeat' first
    | (with_reducible exact node_depth.mono _ _)
    | (with_reducible exact LeO.refl _)
    | (with_reducible exact LeO.none _)
    | (with_reducible refine LeO.ite ?_ ?_)
    | (with_reducible refine LeO.bind ?_ (fun _ => ?_))
    | exact node_depth.mono _ _
    | exact LeO.none _
    | refine LeO.ite ?_ ?_
    | refine LeO.bind ?_ (fun _ => ?_)
set_option maxHeartbeats 8000000 in
set_option maxRecDepth 100000 in
theorem node_Check.calls (k : Nat) (a0 : Int) (a1 : Int) (r : Int) (w : World) (h : node_Check.f k a0 a1 = some r) :
   Calls Tryz.prog 35 #[.int .i64 a0, .int .u64 a1] w fun e w' => e = .returned (.int .i64 r) ∧ Drawn0 w w' := by
  have H : ((node_high.f a0).bind fun t102 => (if t102 = true then (if a1 < 1 then (some 1) else ((node_depth.f k a1).bind fun t103 => (if t103 > a0 then (some 1) else (some 0)))) else (some 1))) = some r := h
  clear h
  replace H := bind_eq_some_iff.mp H
  obtain ⟨t102, A30, H⟩ := H
  replace H : (if t102 = true then (if a1 < 1 then (some 1) else ((node_depth.f k a1).bind fun t103 => (if t103 > a0 then (some 1) else (some 0)))) else (some 1)) = some r := H
  have A3 := ak_ A30
  clear A30
  by_cases c4 : t102 = true
  ·subst c4
   have H1 : (if a1 < 1 then (some 1) else ((node_depth.f k a1).bind fun t103 => (if t103 > a0 then (some 1) else (some 0)))) = some r := by rw [if_pos rfl] at H; exact H
   clear H
   have H := H1
   clear H1
   by_cases c5 : a1 < 1
   ·rw [if_pos c5] at H
    have c5b0 := decide_eq_true c5
    clear c5
    obtain rfl := Option.some.inj H
    go_enter func35, ntmps35
    go_wp2_with (first | ((with_reducible refine gate_callee (f := 65) rfl ?_); refine goesL_ (some 6) rfl rfl func65 (by kernel_rfl) rfl #[.int .i64 a0] rfl (by (try simp only [map_toArray, map_cons, map_nil]); first | done | rfl) ?_; (with_reducible refine (node_high.calls a0 true _ A3.out).mono ?_); rintro e w' ⟨rfl, ⟨nd, rfl⟩⟩; refine ⟨_, rfl, ?_⟩))
    go_ret
    exact ⟨by first | rfl | (simp; done) | (simp [*]; done), by repeat (first | exact Drawn0.refl _ | apply Drawn0.step)⟩
   ·rw [if_neg c5] at H
    have c5b0 := decide_eq_false c5
    clear c5
    replace H := bind_eq_some_iff.mp H
    obtain ⟨t103, A60, H⟩ := H
    replace H : (if t103 > a0 then (some 1) else (some 0)) = some r := H
    have A6 := ak_ A60
    clear A60
    by_cases c7 : t103 > a0
    ·rw [if_pos c7] at H
     have c7b0 : decide (a0 < t103) = true := decide_eq_true c7
     clear c7
     obtain rfl := Option.some.inj H
     go_enter func35, ntmps35
     go_wp2_with (first | ((with_reducible refine gate_callee (f := 65) rfl ?_); refine goesL_ (some 6) rfl rfl func65 (by kernel_rfl) rfl #[.int .i64 a0] rfl (by (try simp only [map_toArray, map_cons, map_nil]); first | done | rfl) ?_; (with_reducible refine (node_high.calls a0 true _ A3.out).mono ?_); rintro e w' ⟨rfl, ⟨nd, rfl⟩⟩; refine ⟨_, rfl, ?_⟩) | (go_at_call 66; (with_reducible refine (node_depth.calls k a1 t103 _ A6.out).mono ?_); rintro e w' ⟨rfl, ⟨nd, rfl⟩⟩))
     go_ret
     exact ⟨by first | rfl | (simp; done) | (simp [*]; done), by repeat (first | exact Drawn0.refl _ | apply Drawn0.step)⟩
    ·rw [if_neg c7] at H
     have c7b0 : decide (a0 < t103) = false := decide_eq_false c7
     clear c7
     obtain rfl := Option.some.inj H
     go_enter func35, ntmps35
     go_wp2_with (first | ((with_reducible refine gate_callee (f := 65) rfl ?_); refine goesL_ (some 6) rfl rfl func65 (by kernel_rfl) rfl #[.int .i64 a0] rfl (by (try simp only [map_toArray, map_cons, map_nil]); first | done | rfl) ?_; (with_reducible refine (node_high.calls a0 true _ A3.out).mono ?_); rintro e w' ⟨rfl, ⟨nd, rfl⟩⟩; refine ⟨_, rfl, ?_⟩) | (go_at_call 66; (with_reducible refine (node_depth.calls k a1 t103 _ A6.out).mono ?_); rintro e w' ⟨rfl, ⟨nd, rfl⟩⟩))
     go_ret
     exact ⟨by first | rfl | (simp; done) | (simp [*]; done), by repeat (first | exact Drawn0.refl _ | apply Drawn0.step)⟩
  ·replace c4 := Bool.eq_false_iff.mpr c4
   subst c4
   have H1 : (some 1) = some r := by rw [if_neg (show ¬ (false = true) by decide)] at H; exact H
   clear H
   have H := H1
   clear H1
   obtain rfl := Option.some.inj H
   go_enter func35, ntmps35
   go_wp2_with (first | ((with_reducible refine gate_callee (f := 65) rfl ?_); refine goesL_ (some 6) rfl rfl func65 (by kernel_rfl) rfl #[.int .i64 a0] rfl (by (try simp only [map_toArray, map_cons, map_nil]); first | done | rfl) ?_; (with_reducible refine (node_high.calls a0 false _ A3.out).mono ?_); rintro e w' ⟨rfl, ⟨nd, rfl⟩⟩; refine ⟨_, rfl, ?_⟩))
   go_ret
   exact ⟨by first | rfl | (simp; done) | (simp [*]; done), by repeat (first | exact Drawn0.refl _ | apply Drawn0.step)⟩
def layer_check.f (k : Nat) (a0 : Int) (a1 : Int) : Option (Int) := if a1 < 1 then (some 1) else (if a1 > 3 then (some 1) else ((node_Check.f k a0 1).bind fun t104 => (some t104)))
set_option maxHeartbeats 8000000 in
set_option maxRecDepth 100000 in
theorem layer_check.calls (k : Nat) (a0 : Int) (a1 : Int) (r : Int) (w : World) (h : layer_check.f k a0 a1 = some r) :
   Calls Tryz.prog 14 #[.int .i64 a0, .int .i64 a1] w fun e w' => e = .returned (.int .i64 r) ∧ Drawn0 w w' := by
  have H : (if a1 < 1 then (some 1) else (if a1 > 3 then (some 1) else ((node_Check.f k a0 1).bind fun t104 => (some t104)))) = some r := h
  clear h
  by_cases c3 : a1 < 1
  ·rw [if_pos c3] at H
   have c3b0 := decide_eq_true c3
   clear c3
   obtain rfl := Option.some.inj H
   go_enter func14, ntmps14
   go_wp2
   go_ret
   exact ⟨by first | rfl | (simp; done) | (simp [*]; done), by repeat (first | exact Drawn0.refl _ | apply Drawn0.step)⟩
  ·rw [if_neg c3] at H
   have c3b0 := decide_eq_false c3
   clear c3
   by_cases c4 : a1 > 3
   ·rw [if_pos c4] at H
    have c4b0 : decide (3 < a1) = true := decide_eq_true c4
    clear c4
    obtain rfl := Option.some.inj H
    go_enter func14, ntmps14
    go_wp2
    go_ret
    exact ⟨by first | rfl | (simp; done) | (simp [*]; done), by repeat (first | exact Drawn0.refl _ | apply Drawn0.step)⟩
   ·rw [if_neg c4] at H
    have c4b0 : decide (3 < a1) = false := decide_eq_false c4
    clear c4
    replace H := bind_eq_some_iff.mp H
    obtain ⟨t104, A50, H⟩ := H
    replace H : (some t104) = some r := H
    have A5 := ak_ A50
    clear A50
    obtain rfl := Option.some.inj H
    go_enter func14, ntmps14
    go_wp2_with (first | ((with_reducible refine gate_callee (f := 35) rfl ?_); refine goesL_ (some 12) rfl rfl func35 (by kernel_rfl) rfl #[.int .i64 a0, .int .u64 1] rfl (by (try simp only [map_toArray, map_cons, map_nil]); first | done | rfl) ?_; (with_reducible refine (node_Check.calls k a0 1 t104 _ A5.out).mono ?_); rintro e w' ⟨rfl, ⟨nd, rfl⟩⟩; refine ⟨_, rfl, ?_⟩))
    go_ret
    exact ⟨by first | rfl | (simp; done) | (simp [*]; done), by repeat (first | exact Drawn0.refl _ | apply Drawn0.step)⟩
def node_Leaf.f (a0 : Int) (a1 : Int) : Option (Int × Int) := (node_high.f a0).bind fun t105 => (if t105 = true then (if 0 ≤ a0 then (if (shr .u64 a1 a0) > 0 then (some (0, 4)) else (some (Go.bits .or .u64 (shl .u64 1 a0) a1, 0))) else (none)) else (some (0, 1)))
set_option maxHeartbeats 8000000 in
set_option maxRecDepth 100000 in
theorem node_Leaf.calls (a0 : Int) (a1 : Int) (r1 : Int) (r2 : Int) (w : World) (h : node_Leaf.f a0 a1 = some (r1, r2)) :
   Calls Tryz.prog 92 #[.int .i64 a0, .int .u64 a1] w fun e w' => e = .returned (.tuple #[.int .u64 r1, .int .i64 r2]) ∧ Drawn0 w w' := by
  have H : ((node_high.f a0).bind fun t105 => (if t105 = true then (if 0 ≤ a0 then (if (shr .u64 a1 a0) > 0 then (some (0, 4)) else (some (Go.bits .or .u64 (shl .u64 1 a0) a1, 0))) else (none)) else (some (0, 1)))) = some (r1, r2) := h
  clear h
  replace H := bind_eq_some_iff.mp H
  obtain ⟨t105, A30, H⟩ := H
  replace H : (if t105 = true then (if 0 ≤ a0 then (if (shr .u64 a1 a0) > 0 then (some (0, 4)) else (some (Go.bits .or .u64 (shl .u64 1 a0) a1, 0))) else (none)) else (some (0, 1))) = some (r1, r2) := H
  have A3 := ak_ A30
  clear A30
  by_cases c4 : t105 = true
  ·subst c4
   have H1 : (if 0 ≤ a0 then (if (shr .u64 a1 a0) > 0 then (some (0, 4)) else (some (Go.bits .or .u64 (shl .u64 1 a0) a1, 0))) else (none)) = some (r1, r2) := by rw [if_pos rfl] at H; exact H
   clear H
   have H := H1
   clear H1
   by_cases c5 : 0 ≤ a0
   ·rw [if_pos c5] at H
    have c5b0 := eq_true c5
    have c5b1 := decide_eq_true c5
    clear c5
    obtain ⟨ji6, hji6⟩ : ∃ j_ : Int, (shr .u64 a1 a0) = j_ := ⟨_, rfl⟩
    replace H : (if (ji6) > 0 then (some (0, 4)) else (some (Go.bits .or .u64 (shl .u64 1 a0) a1, 0))) = some (r1, r2) := by first | (rw [hji6] at H; exact H) | (simp only [hji6] at H ⊢; exact H)
    (try rw [hji6] at A3)
    have hji6_ : (a1 / 2 ^ min a0.toNat 64) = ji6 := hji6
    have hji6z : a0 ≤ 64 → (a1 / 2 ^ a0.toNat) = ji6 := shr_small hji6
    by_cases c7 : (ji6) > 0
    ·rw [if_pos c7] at H
     have c7b0 : decide (0 < (ji6)) = true := decide_eq_true c7
     clear c7
     simp only [some.injEq, Prod.mk.injEq] at H
     obtain ⟨rfl, rfl⟩ := H
     go_enter func92, ntmps92
     go_wp2_with (first | ((with_reducible refine gate_callee (f := 65) rfl ?_); refine goesL_ (some 8) rfl rfl func65 (by kernel_rfl) rfl #[.int .i64 a0] rfl (by (try simp only [map_toArray, map_cons, map_nil]); first | done | rfl) ?_; (with_reducible refine (node_high.calls a0 true _ A3.out).mono ?_); rintro e w' ⟨rfl, ⟨nd, rfl⟩⟩; refine ⟨_, rfl, ?_⟩))
     go_ret2
     exact ⟨by first | rfl | (simp; done) | (simp only [← hji6] <;> (first | rfl | simp)) | (simp [*]; done), by repeat (first | exact Drawn0.refl _ | apply Drawn0.step)⟩
    ·rw [if_neg c7] at H
     have c7b0 : decide (0 < (ji6)) = false := decide_eq_false c7
     clear c7
     have c8b0 := eq_true (od_ (by first | (with_reducible assumption) | assumption) : 0 ≤ a0)
     obtain ⟨ji9, hji9⟩ : ∃ j_ : Int, (shl .u64 1 a0) = j_ := ⟨_, rfl⟩
     replace H : (some (Go.bits .or .u64 (ji9) a1, 0)) = some (r1, r2) := by first | (rw [hji9] at H; exact H) | (simp only [hji9] at H ⊢; exact H)
     (try rw [hji9] at A3)
     have hji9_ : (IntKind.u64.wrap (1 * 2 ^ min a0.toNat 64)) = ji9 := hji9
     have hji9z : a0 ≤ 64 → (IntKind.u64.wrap (1 * 2 ^ a0.toNat)) = ji9 := shl_small hji9
     have hji9u : (IntKind.u64.wrap (2 ^ min a0.toNat 64)) = ji9 := by have h_ := hji9_; rw [Int.one_mul] at h_; exact h_
     have hji9v : a0 ≤ 64 → (IntKind.u64.wrap (2 ^ a0.toNat)) = ji9 := fun hle_ => by have h_ := hji9z hle_; rw [Int.one_mul] at h_; exact h_
     simp only [some.injEq, Prod.mk.injEq] at H
     obtain ⟨rfl, rfl⟩ := H
     go_enter func92, ntmps92
     go_wp2_with (first | ((with_reducible refine gate_callee (f := 65) rfl ?_); refine goesL_ (some 8) rfl rfl func65 (by kernel_rfl) rfl #[.int .i64 a0] rfl (by (try simp only [map_toArray, map_cons, map_nil]); first | done | rfl) ?_; (with_reducible refine (node_high.calls a0 true _ A3.out).mono ?_); rintro e w' ⟨rfl, ⟨nd, rfl⟩⟩; refine ⟨_, rfl, ?_⟩))
     go_ret2
     exact ⟨by first | rfl | (simp; done) | (simp only [← hji6, ← hji9] <;> (first | rfl | simp)) | (simp [*]; done), by repeat (first | exact Drawn0.refl _ | apply Drawn0.step)⟩
   ·rw [if_neg c5] at H
    exact absurd H (by simp)
  ·replace c4 := Bool.eq_false_iff.mpr c4
   subst c4
   have H1 : (some (0, 1)) = some (r1, r2) := by rw [if_neg (show ¬ (false = true) by decide)] at H; exact H
   clear H
   have H := H1
   clear H1
   simp only [some.injEq, Prod.mk.injEq] at H
   obtain ⟨rfl, rfl⟩ := H
   go_enter func92, ntmps92
   go_wp2_with (first | ((with_reducible refine gate_callee (f := 65) rfl ?_); refine goesL_ (some 8) rfl rfl func65 (by kernel_rfl) rfl #[.int .i64 a0] rfl (by (try simp only [map_toArray, map_cons, map_nil]); first | done | rfl) ?_; (with_reducible refine (node_high.calls a0 false _ A3.out).mono ?_); rintro e w' ⟨rfl, ⟨nd, rfl⟩⟩; refine ⟨_, rfl, ?_⟩))
   go_ret2
   exact ⟨by first | rfl | (simp; done) | (simp [*]; done), by repeat (first | exact Drawn0.refl _ | apply Drawn0.step)⟩
def leaf_is.f (a0 : Int) (a1 : Int) : Option (Bool) := (node_Leaf.f a0 a1).bind fun bt106 => (some (bt106.2 == 0))
set_option maxHeartbeats 8000000 in
set_option maxRecDepth 100000 in
theorem leaf_is.calls (a0 : Int) (a1 : Int) (r : Bool) (w : World) (h : leaf_is.f a0 a1 = some r) :
   Calls Tryz.prog 88 #[.int .i64 a0, .int .u64 a1] w fun e w' => e = .returned (.bool r) ∧ Drawn0 w w' := by
  have H : ((node_Leaf.f a0 a1).bind fun bt106 => (some (bt106.2 == 0))) = some r := h
  clear h
  replace H := bind_eq_some_iff.mp H
  obtain ⟨⟨t106, t107⟩, A30, H⟩ := H
  replace H : (some (t107 == 0)) = some r := H
  have A3 := ak_ A30
  clear A30
  obtain rfl := Option.some.inj H
  go_enter func88, ntmps88
  go_wp2_with (first | ((with_reducible refine gate_callee (f := 92) rfl ?_); refine goesL_ (some 10) rfl rfl func92 (by kernel_rfl) rfl #[.int .i64 a0, .int .u64 a1] rfl (by (try simp only [map_toArray, map_cons, map_nil]); first | done | rfl) ?_; (with_reducible refine (node_Leaf.calls a0 a1 t106 t107 _ A3.out).mono ?_); rintro e w' ⟨rfl, ⟨nd, rfl⟩⟩; refine ⟨_, rfl, ?_⟩))
  go_ret
  exact ⟨by first | rfl | (simp; done) | (simp [*]; done), by repeat (first | exact Drawn0.refl _ | apply Drawn0.step)⟩
mutual
def leaf_Check.j0 : Nat → Int → List Int → Bool → Option (Int)
  | 0, _, _, _ => none
  | k + 1, x0, x1, x14 => if x14 = true then (some 1) else (leaf_Check.l0 k x0 x1 x1 (x1.length : Int) 0)
def leaf_Check.l0 : Nat → Int → List Int → List Int → Int → Int → Option (Int)
  | 0, _, _, _, _, _ => none
  | k + 1, x0, x1, x15, x16, x17 => if x17 < x16 then (if 0 ≤ x17 then (if x17 < (x15.length : Int) then ((leaf_is.f x0 (rd x15 x17)).bind fun t110 => (if t110 = true then (if x17 > 0 then (if 0 ≤ (wrap64 (x17 - 1)) then (if (wrap64 (x17 - 1)) < (x1.length : Int) then (if (rd x1 (wrap64 (x17 - 1))) ≥ (rd x15 x17) then (some 1) else (leaf_Check.l0 k x0 x1 x15 x16 (wrap64 (x17 + 1)))) else (none)) else (none)) else (leaf_Check.l0 k x0 x1 x15 x16 (wrap64 (x17 + 1)))) else (some 1))) else (none)) else (none)) else (some 0)
end
def leaf_Check.f (k : Nat) (a0 : Int) (l1 : List Int) : Option (Int) := (node_Check.f k a0 1).bind fun t108 => (if t108 = 0 then (leaf_Check.j0 k a0 l1 (decide ((l1.length : Int) > 1024))) else (leaf_Check.j0 k a0 l1 true))
set_option maxHeartbeats 8000000 in
set_option maxRecDepth 100000 in
theorem leaf_Check.calls (k : Nat) (a0 : Int) (A1 : Option Addr) (c1 : Nat) (l1 : List Int) (r : Int) (w : World) (hr1 : Kd.C (Kd.int .u64) w A1 l1.length l1) (hc1 : l1.length ≤ c1) (h : leaf_Check.f k a0 l1 = some r) :
   Calls Tryz.prog 67 #[.int .i64 a0, .slice A1 l1.length c1] w fun e w' => e = .returned (.int .i64 r) ∧ Drawn0 w w' := by
  have HR1 := ak_ hr1
  have HC1 := ak_ hc1
  clear hr1 hc1
  have H : ((node_Check.f k a0 1).bind fun t108 => (if t108 = 0 then (leaf_Check.j0 k a0 l1 (decide ((l1.length : Int) > 1024))) else (leaf_Check.j0 k a0 l1 true))) = some r := h
  clear h
  have HC3 := ak_ H
  clear H
  go_enter func67, ntmps67
  go_upto_region 1 with (fail)
  go_cut [14] (fun v14 wc => ∃ (kq : Nat) (x14_2 : Bool), v14 = .bool x14_2 ∧ Aside0 (leaf_Check.j0 kq a0 l1 x14_2 = some r) ∧ Aside0 (kq ≤ k) ∧ Drawn0 w wc)
  case first =>
   have H := HC3.out
   clear HC3
   replace H := bind_eq_some_iff.mp H
   obtain ⟨t108, A40, H⟩ := H
   replace H : (if t108 = 0 then (leaf_Check.j0 k a0 l1 (decide ((l1.length : Int) > 1024))) else (leaf_Check.j0 k a0 l1 true)) = some r := H
   have A4 := ak_ A40
   clear A40
   by_cases c5 : t108 = 0
   ·rw [if_pos c5] at H
    have c5b0 : (t108 == 0) = true := beq_iff_eq.mpr c5
    have c5b1 : (t108 != 0) = false := bne_eq_false_iff_eq.mpr c5
    clear c5
    (first | rw [c5b0] | (simp only [i64_w, i32_w]; rw [c5b0]) | skip)
    have H' := ak_ H
    clear H
    go_wp2_with (first | ((with_reducible refine gate_callee (f := 35) rfl ?_); refine goesL_ (some 8) rfl rfl func35 (by kernel_rfl) rfl #[.int .i64 a0, .int .u64 1] rfl (by (try simp only [map_toArray, map_cons, map_nil]); first | done | rfl) ?_; (with_reducible refine (node_Check.calls k a0 1 t108 _ A4.out).mono ?_); rintro e w' ⟨rfl, ⟨nd, rfl⟩⟩; refine ⟨_, rfl, ?_⟩))
    go_meet
    case rel => exact ⟨_, (decide ((l1.length : Int) > 1024)), (by first | rfl | (simp; done) | (simp [*]; done)), H', ⟨by first | omega | exact Nat.le_refl _⟩, by repeat (first | exact Drawn0.refl _ | apply Drawn0.step)⟩
   ·rw [if_neg c5] at H
    have c5b0 : (t108 == 0) = false := beq_eq_false_iff_ne.mpr c5
    have c5b1 : (t108 != 0) = true := bne_iff_ne.mpr c5
    (first | rw [c5b0] | (simp only [i64_w, i32_w]; rw [c5b0]) | skip)
    have H' := ak_ H
    clear H
    go_wp2_with (first | ((with_reducible refine gate_callee (f := 35) rfl ?_); refine goesL_ (some 8) rfl rfl func35 (by kernel_rfl) rfl #[.int .i64 a0, .int .u64 1] rfl (by (try simp only [map_toArray, map_cons, map_nil]); first | done | rfl) ?_; (with_reducible refine (node_Check.calls k a0 1 t108 _ A4.out).mono ?_); rintro e w' ⟨rfl, ⟨nd, rfl⟩⟩; refine ⟨_, rfl, ?_⟩))
    go_meet
    case rel => exact ⟨_, (true), (by first | rfl | (simp; done) | (simp [*]; done)), H', ⟨by first | omega | exact Nat.le_refl _⟩, by repeat (first | exact Drawn0.refl _ | apply Drawn0.step)⟩
  case rest =>
   clear HC3
   try clear c1
   try clear p2
   try clear c3
   try clear c5
   try clear c5b0
   try clear c5b1
   obtain ⟨kq, x14_2, rfl, HA, HJ2, ⟨mc2, rfl⟩⟩ := hcut
   cases kq with
   | zero => exact absurd HA.out (by simp [leaf_Check.j0])
   | succ kj2 =>
    have H := HA.out
    clear HA
    simp only [leaf_Check.j0] at H
    by_cases c6 : x14_2 = true
    ·subst c6
     have H1 : (some 1) = some r := by rw [if_pos rfl] at H; exact H
     clear H
     have H := H1
     clear H1
     obtain rfl := Option.some.inj H
     go_wp2
     go_ret
     exact ⟨by first | rfl | (simp; done) | (simp [*]; done), by repeat (first | exact Drawn0.refl _ | apply Drawn0.step)⟩
    ·replace c6 := Bool.eq_false_iff.mpr c6
     subst c6
     have H1 : (leaf_Check.l0 kj2 a0 l1 l1 (l1.length : Int) 0) = some r := by rw [if_neg (show ¬ (false = true) by decide)] at H; exact H
     clear H
     have H := H1
     clear H1
     have H' := ak_ H
     clear H
     go_wp2
     go_loopg [17] kj2 (fun kq v17 w' => ∃ (x17_2 : Int), v17 = .int .i64 x17_2 ∧ Aside0 (leaf_Check.l0 kq a0 l1 l1 (l1.length : Int) x17_2 = some r) ∧ Aside0 (kq ≤ kj2) ∧ Drawn0 w w')
     case atStart => exact ⟨(0), (by first | rfl | (simp; done) | (simp [*]; done)), H', ⟨Nat.le_refl _⟩, by repeat (first | exact Drawn0.refl _ | apply Drawn0.step)⟩
     case round =>
      clear H'
      try clear c1
      try clear c2
      try clear p2
      try clear c3
      try clear c5
      try clear c5b0
      try clear c5b1
      try clear c6
      try clear p2
      obtain ⟨x17_2, rfl, HA, HK2, ⟨m2, rfl⟩⟩ := hrel
      cases gk with
      | zero => exact absurd HA.out (by simp [leaf_Check.l0])
      | succ k2 =>
       have H := HA.out
       clear HA
       simp only [leaf_Check.l0] at H
       by_cases c7 : x17_2 < (l1.length : Int)
       ·rw [if_pos c7] at H
        have c7b0 := decide_eq_true c7
        clear c7
        by_cases c8 : 0 ≤ x17_2
        ·rw [if_pos c8] at H
         have c8b0 := decide_eq_true c8
         clear c8
         by_cases c9 : x17_2 < (l1.length : Int)
         ·rw [if_pos c9] at H
          have c9b0 := decide_eq_true c9
          clear c9
          replace H := bind_eq_some_iff.mp H
          obtain ⟨t110, A100, H⟩ := H
          replace H : (if t110 = true then (if x17_2 > 0 then (if 0 ≤ (wrap64 (x17_2 - 1)) then (if (wrap64 (x17_2 - 1)) < (l1.length : Int) then (if (rd l1 (wrap64 (x17_2 - 1))) ≥ (rd l1 x17_2) then (some 1) else (leaf_Check.l0 k2 a0 l1 l1 (l1.length : Int) (wrap64 (x17_2 + 1)))) else (none)) else (none)) else (leaf_Check.l0 k2 a0 l1 l1 (l1.length : Int) (wrap64 (x17_2 + 1)))) else (some 1)) = some r := H
          have A10 := ak_ A100
          clear A100
          by_cases c11 : t110 = true
          ·subst c11
           have H1 : (if x17_2 > 0 then (if 0 ≤ (wrap64 (x17_2 - 1)) then (if (wrap64 (x17_2 - 1)) < (l1.length : Int) then (if (rd l1 (wrap64 (x17_2 - 1))) ≥ (rd l1 x17_2) then (some 1) else (leaf_Check.l0 k2 a0 l1 l1 (l1.length : Int) (wrap64 (x17_2 + 1)))) else (none)) else (none)) else (leaf_Check.l0 k2 a0 l1 l1 (l1.length : Int) (wrap64 (x17_2 + 1)))) = some r := by rw [if_pos rfl] at H; exact H
           clear H
           have H := H1
           clear H1
           by_cases c12 : x17_2 > 0
           ·rw [if_pos c12] at H
            have c12b0 : decide (0 < x17_2) = true := decide_eq_true c12
            clear c12
            obtain ⟨ji13, hji13⟩ : ∃ j_ : Int, (wrap64 (x17_2 - 1)) = j_ := ⟨_, rfl⟩
            replace H : (if 0 ≤ (ji13) then (if (ji13) < (l1.length : Int) then (if (rd l1 (ji13)) ≥ (rd l1 x17_2) then (some 1) else (leaf_Check.l0 k2 a0 l1 l1 (l1.length : Int) (wrap64 (x17_2 + 1)))) else (none)) else (none)) = some r := by first | (rw [hji13] at H; exact H) | (simp only [hji13] at H ⊢; exact H)
            (try rw [hji13] at A10)
            have hji13w : (IntKind.i64.wrap (x17_2 - 1)) = ji13 := (i64_w _).trans hji13
            by_cases c14 : 0 ≤ (ji13)
            ·rw [if_pos c14] at H
             have c14b0 := decide_eq_true c14
             clear c14
             by_cases c15 : (ji13) < (l1.length : Int)
             ·rw [if_pos c15] at H
              have c15b0 := decide_eq_true c15
              clear c15
              by_cases c16 : (rd l1 (ji13)) ≥ (rd l1 x17_2)
              ·rw [if_pos c16] at H
               have c16b0 : decide ((rd l1 x17_2) ≤ (rd l1 (ji13))) = true := decide_eq_true c16
               clear c16
               obtain rfl := Option.some.inj H
               have p109 : 0 ≤ (x17_2 : Int) := od_ (by first | (with_reducible assumption) | assumption)
               have q109 : x17_2 < (l1.length : Int) := od_ (by first | (with_reducible assumption) | assumption)
               obtain ⟨ad109, e109, hx109_0⟩ := Kd.at_int HR1.out x17_2 p109 q109
               cases e109
               replace p109 := eq_true p109
               replace q109 := eq_true q109
               go_wp2_with (first | ((with_reducible refine gate_callee (f := 88) rfl ?_); refine goesL_ (some 24) rfl rfl func88 (by kernel_rfl) rfl #[.int .i64 a0, .int .u64 (rd l1 x17_2)] rfl (by (try simp only [map_toArray, map_cons, map_nil]); first | done | rfl) ?_; (with_reducible refine (leaf_is.calls a0 (rd l1 x17_2) true _ A10.out).mono ?_); rintro e w' ⟨rfl, ⟨nd, rfl⟩⟩; refine ⟨_, rfl, ?_⟩; have p111 : 0 ≤ ((ji13) : Int) := od_ (by first | (with_reducible assumption) | assumption); have q111 : (ji13) < (l1.length : Int) := od_ (by first | (with_reducible assumption) | assumption); obtain ⟨ad111, e111, hx111_0⟩ := Kd.at_int HR1.out (ji13) p111 q111; obtain rfl : ad109 = ad111 := (by injection e111); replace p111 := eq_true p111; replace q111 := eq_true q111))
               go_ret
               exact ⟨by first | rfl | (simp; done) | (simp only [← hji13] <;> (first | rfl | simp)) | (simp [*]; done), by repeat (first | exact Drawn0.refl _ | apply Drawn0.step)⟩
              ·rw [if_neg c16] at H
               have c16b0 : decide ((rd l1 x17_2) ≤ (rd l1 (ji13))) = false := decide_eq_false c16
               clear c16
               have H' := ak_ H
               clear H
               have p109 : 0 ≤ (x17_2 : Int) := od_ (by first | (with_reducible assumption) | assumption)
               have q109 : x17_2 < (l1.length : Int) := od_ (by first | (with_reducible assumption) | assumption)
               obtain ⟨ad109, e109, hx109_0⟩ := Kd.at_int HR1.out x17_2 p109 q109
               cases e109
               replace p109 := eq_true p109
               replace q109 := eq_true q109
               go_wp2_with (first | ((with_reducible refine gate_callee (f := 88) rfl ?_); refine goesL_ (some 24) rfl rfl func88 (by kernel_rfl) rfl #[.int .i64 a0, .int .u64 (rd l1 x17_2)] rfl (by (try simp only [map_toArray, map_cons, map_nil]); first | done | rfl) ?_; (with_reducible refine (leaf_is.calls a0 (rd l1 x17_2) true _ A10.out).mono ?_); rintro e w' ⟨rfl, ⟨nd, rfl⟩⟩; refine ⟨_, rfl, ?_⟩; have p111 : 0 ≤ ((ji13) : Int) := od_ (by first | (with_reducible assumption) | assumption); have q111 : (ji13) < (l1.length : Int) := od_ (by first | (with_reducible assumption) | assumption); obtain ⟨ad111, e111, hx111_0⟩ := Kd.at_int HR1.out (ji13) p111 q111; obtain rfl : ad109 = ad111 := (by injection e111); replace p111 := eq_true p111; replace q111 := eq_true q111))
               go_roundg k2
               case measure => have := HJ2.out; have := HK2.out; omega
               case rel => exact ⟨(wrap64 (x17_2 + 1)), (by first | rfl | (simp; done) | (simp [*]; done)), H', ⟨by have := HJ2.out; have := HK2.out; omega⟩, by repeat (first | exact Drawn0.refl _ | apply Drawn0.step)⟩
             ·rw [if_neg c15] at H
              exact absurd H (by simp)
            ·rw [if_neg c14] at H
             exact absurd H (by simp)
           ·rw [if_neg c12] at H
            have c12b0 : decide (0 < x17_2) = false := decide_eq_false c12
            clear c12
            have H' := ak_ H
            clear H
            have p109 : 0 ≤ (x17_2 : Int) := od_ (by first | (with_reducible assumption) | assumption)
            have q109 : x17_2 < (l1.length : Int) := od_ (by first | (with_reducible assumption) | assumption)
            obtain ⟨ad109, e109, hx109_0⟩ := Kd.at_int HR1.out x17_2 p109 q109
            cases e109
            replace p109 := eq_true p109
            replace q109 := eq_true q109
            go_wp2_with (first | ((with_reducible refine gate_callee (f := 88) rfl ?_); refine goesL_ (some 24) rfl rfl func88 (by kernel_rfl) rfl #[.int .i64 a0, .int .u64 (rd l1 x17_2)] rfl (by (try simp only [map_toArray, map_cons, map_nil]); first | done | rfl) ?_; (with_reducible refine (leaf_is.calls a0 (rd l1 x17_2) true _ A10.out).mono ?_); rintro e w' ⟨rfl, ⟨nd, rfl⟩⟩; refine ⟨_, rfl, ?_⟩))
            go_roundg k2
            case measure => have := HJ2.out; have := HK2.out; omega
            case rel => exact ⟨(wrap64 (x17_2 + 1)), (by first | rfl | (simp; done) | (simp [*]; done)), H', ⟨by have := HJ2.out; have := HK2.out; omega⟩, by repeat (first | exact Drawn0.refl _ | apply Drawn0.step)⟩
          ·replace c11 := Bool.eq_false_iff.mpr c11
           subst c11
           have H1 : (some 1) = some r := by rw [if_neg (show ¬ (false = true) by decide)] at H; exact H
           clear H
           have H := H1
           clear H1
           obtain rfl := Option.some.inj H
           have p109 : 0 ≤ (x17_2 : Int) := od_ (by first | (with_reducible assumption) | assumption)
           have q109 : x17_2 < (l1.length : Int) := od_ (by first | (with_reducible assumption) | assumption)
           obtain ⟨ad109, e109, hx109_0⟩ := Kd.at_int HR1.out x17_2 p109 q109
           cases e109
           replace p109 := eq_true p109
           replace q109 := eq_true q109
           go_wp2_with (first | ((with_reducible refine gate_callee (f := 88) rfl ?_); refine goesL_ (some 24) rfl rfl func88 (by kernel_rfl) rfl #[.int .i64 a0, .int .u64 (rd l1 x17_2)] rfl (by (try simp only [map_toArray, map_cons, map_nil]); first | done | rfl) ?_; (with_reducible refine (leaf_is.calls a0 (rd l1 x17_2) false _ A10.out).mono ?_); rintro e w' ⟨rfl, ⟨nd, rfl⟩⟩; refine ⟨_, rfl, ?_⟩))
           go_ret
           exact ⟨by first | rfl | (simp; done) | (simp [*]; done), by repeat (first | exact Drawn0.refl _ | apply Drawn0.step)⟩
         ·rw [if_neg c9] at H
          exact absurd H (by simp)
        ·rw [if_neg c8] at H
         exact absurd H (by simp)
       ·rw [if_neg c7] at H
        have c7b0 := decide_eq_false c7
        clear c7
        obtain rfl := Option.some.inj H
        go_wp2
        go_ret
        exact ⟨by first | rfl | (simp; done) | (simp [*]; done), by repeat (first | exact Drawn0.refl _ | apply Drawn0.step)⟩
def node_Child.j0 : Nat → Int → Int → Int → Bool → Option (Int × Int)
  | 0, _, _, _, _ => none
  | k + 1, x0, x1, x2, x8 => if x8 = true then (some (0, 1)) else ((node_depth.f k x1).bind fun t113 => (if t113 = x0 then (some (0, 4)) else (some (Go.bits .or .u64 (IntKind.u64.wrap (x1 * 2)) (IntKind.u64.wrap (x2)), 0))))
def node_Child.f (k : Nat) (a0 : Int) (a1 : Int) (a2 : Int) : Option (Int × Int) := (node_Check.f k a0 a1).bind fun t112 => (if t112 = 0 then (node_Child.j0 k a0 a1 a2 ((Go.bits .andNot .i64 a2 1) != 0)) else (node_Child.j0 k a0 a1 a2 true))
set_option maxHeartbeats 8000000 in
set_option maxRecDepth 100000 in
theorem node_Child.calls (k : Nat) (a0 : Int) (a1 : Int) (a2 : Int) (r1 : Int) (r2 : Int) (w : World) (h : node_Child.f k a0 a1 a2 = some (r1, r2)) :
   Calls Tryz.prog 72 #[.int .i64 a0, .int .u64 a1, .int .i64 a2] w fun e w' => e = .returned (.tuple #[.int .u64 r1, .int .i64 r2]) ∧ Drawn0 w w' := by
  have H : ((node_Check.f k a0 a1).bind fun t112 => (if t112 = 0 then (node_Child.j0 k a0 a1 a2 ((Go.bits .andNot .i64 a2 1) != 0)) else (node_Child.j0 k a0 a1 a2 true))) = some (r1, r2) := h
  clear h
  have HC4 := ak_ H
  clear H
  go_enter func72, ntmps72
  go_upto_region 1 with (fail)
  go_cut [8] (fun v8 wc => ∃ (kq : Nat) (x8_3 : Bool), v8 = .bool x8_3 ∧ Aside0 (node_Child.j0 kq a0 a1 a2 x8_3 = some (r1, r2)) ∧ Aside0 (kq ≤ k) ∧ Drawn0 w wc)
  case first =>
   have H := HC4.out
   clear HC4
   replace H := bind_eq_some_iff.mp H
   obtain ⟨t112, A50, H⟩ := H
   replace H : (if t112 = 0 then (node_Child.j0 k a0 a1 a2 ((Go.bits .andNot .i64 a2 1) != 0)) else (node_Child.j0 k a0 a1 a2 true)) = some (r1, r2) := H
   have A5 := ak_ A50
   clear A50
   by_cases c6 : t112 = 0
   ·rw [if_pos c6] at H
    have c6b0 : (t112 == 0) = true := beq_iff_eq.mpr c6
    have c6b1 : (t112 != 0) = false := bne_eq_false_iff_eq.mpr c6
    clear c6
    (first | rw [c6b0] | (simp only [i64_w, i32_w]; rw [c6b0]) | skip)
    have H' := ak_ H
    clear H
    go_wp2_with (first | ((with_reducible refine gate_callee (f := 35) rfl ?_); refine goesL_ (some 11) rfl rfl func35 (by kernel_rfl) rfl #[.int .i64 a0, .int .u64 a1] rfl (by (try simp only [map_toArray, map_cons, map_nil]); first | done | rfl) ?_; (with_reducible refine (node_Check.calls k a0 a1 t112 _ A5.out).mono ?_); rintro e w' ⟨rfl, ⟨nd, rfl⟩⟩; refine ⟨_, rfl, ?_⟩))
    go_meet
    case rel => exact ⟨_, (((Go.bits .andNot .i64 a2 1) != 0)), (by first | rfl | (simp; done) | (simp [*]; done)), H', ⟨by first | omega | exact Nat.le_refl _⟩, by repeat (first | exact Drawn0.refl _ | apply Drawn0.step)⟩
   ·rw [if_neg c6] at H
    have c6b0 : (t112 == 0) = false := beq_eq_false_iff_ne.mpr c6
    have c6b1 : (t112 != 0) = true := bne_iff_ne.mpr c6
    (first | rw [c6b0] | (simp only [i64_w, i32_w]; rw [c6b0]) | skip)
    have H' := ak_ H
    clear H
    go_wp2_with (first | ((with_reducible refine gate_callee (f := 35) rfl ?_); refine goesL_ (some 11) rfl rfl func35 (by kernel_rfl) rfl #[.int .i64 a0, .int .u64 a1] rfl (by (try simp only [map_toArray, map_cons, map_nil]); first | done | rfl) ?_; (with_reducible refine (node_Check.calls k a0 a1 t112 _ A5.out).mono ?_); rintro e w' ⟨rfl, ⟨nd, rfl⟩⟩; refine ⟨_, rfl, ?_⟩))
    go_meet
    case rel => exact ⟨_, (true), (by first | rfl | (simp; done) | (simp [*]; done)), H', ⟨by first | omega | exact Nat.le_refl _⟩, by repeat (first | exact Drawn0.refl _ | apply Drawn0.step)⟩
  case rest =>
   clear HC4
   try clear p2
   try clear c3
   try clear c6
   try clear c6b0
   try clear c6b1
   obtain ⟨kq, x8_3, rfl, HA, HJ3, ⟨mc3, rfl⟩⟩ := hcut
   cases kq with
   | zero => exact absurd HA.out (by simp [node_Child.j0])
   | succ kj3 =>
    have H := HA.out
    clear HA
    simp only [node_Child.j0] at H
    by_cases c7 : x8_3 = true
    ·subst c7
     have H1 : (some (0, 1)) = some (r1, r2) := by rw [if_pos rfl] at H; exact H
     clear H
     have H := H1
     clear H1
     simp only [some.injEq, Prod.mk.injEq] at H
     obtain ⟨rfl, rfl⟩ := H
     go_wp2
     go_ret2
     exact ⟨by first | rfl | (simp; done) | (simp [*]; done), by repeat (first | exact Drawn0.refl _ | apply Drawn0.step)⟩
    ·replace c7 := Bool.eq_false_iff.mpr c7
     subst c7
     have H1 : ((node_depth.f kj3 a1).bind fun t113 => (if t113 = a0 then (some (0, 4)) else (some (Go.bits .or .u64 (IntKind.u64.wrap (a1 * 2)) (IntKind.u64.wrap (a2)), 0)))) = some (r1, r2) := by rw [if_neg (show ¬ (false = true) by decide)] at H; exact H
     clear H
     have H := H1
     clear H1
     replace H := bind_eq_some_iff.mp H
     obtain ⟨t113, A80, H⟩ := H
     replace H : (if t113 = a0 then (some (0, 4)) else (some (Go.bits .or .u64 (IntKind.u64.wrap (a1 * 2)) (IntKind.u64.wrap (a2)), 0))) = some (r1, r2) := H
     have A8 := ak_ A80
     clear A80
     by_cases c9 : t113 = a0
     ·rw [if_pos c9] at H
      have c9b0 : (t113 == a0) = true := beq_iff_eq.mpr c9
      have c9b1 : (t113 != a0) = false := bne_eq_false_iff_eq.mpr c9
      clear c9
      simp only [some.injEq, Prod.mk.injEq] at H
      obtain ⟨rfl, rfl⟩ := H
      go_wp2_with (first | ((with_reducible refine gate_callee (f := 66) rfl ?_); refine goesL_ (some 20) rfl rfl func66 (by kernel_rfl) rfl #[.int .u64 a1] rfl (by (try simp only [map_toArray, map_cons, map_nil]); first | done | rfl) ?_; (with_reducible refine (node_depth.calls kj3 a1 t113 _ A8.out).mono ?_); rintro e w' ⟨rfl, ⟨nd, rfl⟩⟩; refine ⟨_, rfl, ?_⟩))
      go_ret2
      exact ⟨by first | rfl | (simp; done) | (simp [*]; done), by repeat (first | exact Drawn0.refl _ | apply Drawn0.step)⟩
     ·rw [if_neg c9] at H
      have c9b0 : (t113 == a0) = false := beq_eq_false_iff_ne.mpr c9
      have c9b1 : (t113 != a0) = true := bne_iff_ne.mpr c9
      simp only [some.injEq, Prod.mk.injEq] at H
      obtain ⟨rfl, rfl⟩ := H
      go_wp2_with (first | ((with_reducible refine gate_callee (f := 66) rfl ?_); refine goesL_ (some 20) rfl rfl func66 (by kernel_rfl) rfl #[.int .u64 a1] rfl (by (try simp only [map_toArray, map_cons, map_nil]); first | done | rfl) ?_; (with_reducible refine (node_depth.calls kj3 a1 t113 _ A8.out).mono ?_); rintro e w' ⟨rfl, ⟨nd, rfl⟩⟩; refine ⟨_, rfl, ?_⟩))
      go_ret2
      exact ⟨by first | rfl | (simp; done) | (simp [*]; done), by repeat (first | exact Drawn0.refl _ | apply Drawn0.step)⟩
set_option maxHeartbeats 8000000 in
set_option maxRecDepth 100000 in
theorem slices_Grow_nil.calls (n : Int) (w : World) (h0 : 0 ≤ n) (hl : n.toNat ≤ 17592186044416) :
   Calls Tryz.prog 115 #[.slice none 0 0, .int .i64 n] w fun e w' => ∃ v : Value, e = .returned v ∧ Kd.R (Kd.int .u64) 23 w' w.heap.size (fun _ => True) v (List.replicate 0 0) ∧ Below w.heap.size w w' := by
  have e1 : wrap64 (n - 0) = n := by unfold wrap64; omega
  have e2 : wrap64 n = n := by unfold wrap64; omega
  by_cases c : n = 0
  ·subst c
   go_enter func115, ntmps115
   go_wp2
   go_ret
   exact ⟨_, rfl, Kd.R_nil _ _ _ _ _, Below.refl _ _⟩
  ·have c1 : decide (n < 0) = false := decide_eq_false (by omega)
   have c2 : decide (0 < n) = true := decide_eq_true (by omega)
   go_enter func115, ntmps115
   go_wp2_with (first | (at_builtin; refine Kd.R_append_zeros (Kd.int .u64) (w0 := w) w.heap.size rfl (.tmp 20) (.tmp 21) 22 3 23 (.int .u64 0) 8 rfl underlying22 underlying3 info23 rfl (by decide) (by omega) (.slice none 0 0) [] 0 n (fun _ => True) rfl rfl rfl (fun _ _ => trivial) (Kd.R_nil _ _ _ _ _) h0 (Below.refl _ _) (Nat.le_refl _) (by simp; omega) ?_; intro v1 w1 ho hb hg hat; clear hg hat; obtain ⟨Ax, cx, ex⟩ := Kd.R_slice ho; subst ex; have HO := ak_ ho; have HB := ak_ hb; clear ho hb; have hlen : (([] : List Int) ++ List.replicate n.toNat 0).length = n.toNat := by simp))
   go_ret
   exact ⟨_, rfl, by have h := Kd.R_take HO.out (Nat.zero_le _); simpa using h, HB.out⟩
mutual
def slices_Concat_uint64_uint64.l0 : Nat → List (List Int) → Int → List (List Int) → Int → Int → Option (List Int)
  | 0, _, _, _, _, _ => none
  | k + 1, x0, x3, x9, x10, x11 => if x11 < x10 then (if 0 ≤ x11 then (if x11 < (x9.length : Int) then (if (wrap64 (x3 + ((rd_L1 x9 x11).length : Int))) < 0 then (none) else (slices_Concat_uint64_uint64.l0 k x0 (wrap64 (x3 + ((rd_L1 x9 x11).length : Int))) x9 x10 (wrap64 (x11 + 1)))) else (none)) else (none)) else (if 0 ≤ x3 then (if (x3 : Int).toNat ≤ 17592186044416 then (slices_Concat_uint64_uint64.l1 k (List.replicate 0 0) x0 (x0.length : Int) 0) else (none)) else (none))
def slices_Concat_uint64_uint64.l1 : Nat → List Int → List (List Int) → Int → Int → Option (List Int)
  | 0, _, _, _, _ => none
  | k + 1, x6, x25, x26, x27 => if x27 < x26 then (if 0 ≤ x27 then (if x27 < (x25.length : Int) then (if x6.length + (rd_L1 x25 x27).length < 17592186044416 then (slices_Concat_uint64_uint64.l1 k (x6 ++ (rd_L1 x25 x27)) x25 x26 (wrap64 (x27 + 1))) else (none)) else (none)) else (none)) else (some x6)
end
def slices_Concat_uint64_uint64.f (k : Nat) (l0 : List (List Int)) : Option (List Int) := slices_Concat_uint64_uint64.l0 k l0 0 l0 (l0.length : Int) 0
set_option maxHeartbeats 8000000 in
set_option maxRecDepth 100000 in
theorem slices_Concat_uint64_uint64.calls (k : Nat) (A0 : Option Addr) (c0 : Nat) (l0 : List (List Int)) (r : List Int) (w : World) (hr0 : Kd.C (Kd.slice 23 (Kd.int .u64)) w A0 l0.length l0) (hc0 : l0.length ≤ c0) (h : slices_Concat_uint64_uint64.f k l0 = some r) :
   Calls Tryz.prog 104 #[.slice A0 l0.length c0] w fun e w' => ∃ v0_ : Value, e = .returned (v0_) ∧ Kd.R (Kd.int .u64) 23 w' w.heap.size (fun _ => True) v0_ r ∧ Below w.heap.size w w' := by
  have HR0 := ak_ hr0
  have HC0 := ak_ hc0
  clear hr0 hc0
  have HB := ak_ (Below.refl w.heap.size w)
  have H : (slices_Concat_uint64_uint64.l0 k l0 0 l0 (l0.length : Int) 0) = some r := h
  clear h
  have H' := ak_ H
  clear H
  go_enter func104, ntmps104
  go_wp2
  go_loopg [3, 11] k (fun kq v3 v11 w' => ∃ (x3_1 : Int) (x11_1 : Int), v3 = .int .i64 x3_1 ∧ v11 = .int .i64 x11_1 ∧ Aside0 (slices_Concat_uint64_uint64.l0 kq l0 x3_1 l0 (l0.length : Int) x11_1 = some r) ∧ Aside0 (kq ≤ k) ∧ Aside0 (Below w.heap.size w w'))
  case atStart => exact ⟨(0), (0), (by first | rfl | (simp; done) | (simp [*]; done)), (by first | rfl | (simp; done) | (simp [*]; done)), H', ⟨Nat.le_refl _⟩, ⟨bl_ HB⟩⟩
  case round =>
   clear H'
   try clear c1
   obtain ⟨x3_1, x11_1, rfl, rfl, HA, HK1, HB⟩ := hrel
   cases gk with
   | zero => exact absurd HA.out (by simp [slices_Concat_uint64_uint64.l0])
   | succ k1 =>
    have H := HA.out
    clear HA
    simp only [slices_Concat_uint64_uint64.l0] at H
    by_cases c2 : x11_1 < (l0.length : Int)
    ·rw [if_pos c2] at H
     have c2b0 := decide_eq_true c2
     clear c2
     by_cases c3 : 0 ≤ x11_1
     ·rw [if_pos c3] at H
      have c3b0 := decide_eq_true c3
      clear c3
      by_cases c4 : x11_1 < (l0.length : Int)
      ·rw [if_pos c4] at H
       have c4b0 := decide_eq_true c4
       clear c4
       by_cases c5 : (wrap64 (x3_1 + ((rd_L1 l0 x11_1).length : Int))) < 0
       ·rw [if_pos c5] at H
        exact absurd H (by simp)
       ·rw [if_neg c5] at H
        have c5b0 := decide_eq_false c5
        clear c5
        have H' := ak_ H
        clear H
        have p114 : 0 ≤ (x11_1 : Int) := od_ (by first | (with_reducible assumption) | assumption)
        have q114 : x11_1 < (l0.length : Int) := od_ (by first | (with_reducible assumption) | assumption)
        obtain ⟨ad114, A114_0, c114_0, e114, hx114_0, hl114_0, hi114_0⟩ := at_L1 HR0.out x11_1 p114 q114
        cases e114
        replace hx114_0 := (HB.out.cell (World.block_lt_of_cell? w _ hx114_0)).trans hx114_0
        have HR114_0 := ak_ hi114_0
        have HC114_0 := ak_ hl114_0
        clear hi114_0 hl114_0
        replace p114 := eq_true p114
        replace q114 := eq_true q114
        go_wp2
        go_roundg k1
        case measure => have := HK1.out; omega
        case rel => exact ⟨(wrap64 (x3_1 + ((rd_L1 l0 x11_1).length : Int))), (wrap64 (x11_1 + 1)), (by first | rfl | (simp; done) | (simp [*]; done)), (by first | rfl | (simp; done) | (simp [*]; done)), H', ⟨by have := HK1.out; omega⟩, ⟨bl_ HB⟩⟩
      ·rw [if_neg c4] at H
       exact absurd H (by simp)
     ·rw [if_neg c3] at H
      exact absurd H (by simp)
    ·rw [if_neg c2] at H
     have c2b0 := decide_eq_false c2
     clear c2
     by_cases c6 : 0 ≤ x3_1
     ·rw [if_pos c6] at H
      have c6b0 := eq_true c6
      have c6b1 := decide_eq_true c6
      clear c6
      by_cases c7 : (x3_1 : Int).toNat ≤ 17592186044416
      ·rw [if_pos c7] at H
       have c7b0 := eq_true c7
       have c7b1 := decide_eq_true c7
       clear c7
       obtain ⟨y115, hy115⟩ : ∃ y_ : List Int, y_ = (List.replicate 0 0) := ⟨_, rfl⟩
       replace H : (slices_Concat_uint64_uint64.l1 k1 y115 l0 (l0.length : Int) 0) = some r := by first | (rw [hy115]; with_reducible exact H) | (have H2_ := (Option.bind_some _ _).symm.trans H; rw [hy115]; with_reducible exact H2_) | (have H2_ := (Option.bind_some _ _).symm.trans H; with_reducible exact H2_) | with_reducible exact H | (rw [hy115]; exact H) | exact H
       have Ny115 := ak_ hy115
       clear hy115
       have H' := ak_ H
       clear H
       go_wp2_with (first | ((with_reducible refine gate_callee (f := 115) rfl ?_); refine goesL_ (some 24) rfl rfl func115 (by kernel_rfl) rfl #[.slice none 0 0, .int .i64 x3_1] rfl (by (try simp only [map_toArray, map_cons, map_nil]); first | done | rfl) ?_; (with_reducible refine (slices_Grow_nil.calls x3_1 _ (od_ (by first | (with_reducible assumption) | assumption)) (od_ (by first | (with_reducible assumption) | assumption))).mono ?_); rintro e w8 ⟨v116, rfl, ho9, hb⟩; refine ⟨_, rfl, ?_⟩; (first | rw [← Ny115.out] at ho9 | (simp only [Int.reduceToNat] at ho9; rw [← Ny115.out] at ho9)); have n0_ := ak_ (Kd.R_lower ho9 (bz_ (bl_ HB))); have n1_ := ak_ (bt_ (bl_ HB) hb); clear HB; have HO117 := n0_; have HB := n1_; clear n0_ n1_; clear hb ho9))
       go_loopg [6, 27] k1 (fun kq v6 v27 w' => ∃ (x6_2 : List Int) (x27_2 : Int), v27 = .int .i64 x27_2 ∧ Aside0 (slices_Concat_uint64_uint64.l1 kq x6_2 l0 (l0.length : Int) x27_2 = some r) ∧ Aside0 (kq ≤ k1) ∧ Aside0 (Kd.R (Kd.int .u64) 23 w' w.heap.size (fun _ => True) v6 x6_2) ∧ Aside0 (Below w.heap.size w w'))
       case atStart => exact ⟨(y115), (0), (by first | rfl | (simp; done) | (simp [*]; done)), H', ⟨Nat.le_refl _⟩, ⟨rl_ HO117⟩, ⟨bl_ HB⟩⟩
       case round =>
        clear H'
        try clear c1
        try clear p1
        try clear q1
        try clear hx1
        try clear c2
        try clear c2b0
        try clear p2
        try clear c3
        try clear c3b0
        try clear c4
        try clear c4b0
        try clear c5
        try clear c5b0
        try clear c6
        try clear c6b0
        try clear c6b1
        try clear p6
        try clear c7
        try clear c7b0
        try clear c7b1
        try clear hx114_0
        try clear p114
        try clear q114
        obtain ⟨x6_2, x27_2, rfl, HA, HK2, HO_6, HB⟩ := hrel
        cases gk with
        | zero => exact absurd HA.out (by simp [slices_Concat_uint64_uint64.l1])
        | succ k2 =>
         have H := HA.out
         clear HA
         simp only [slices_Concat_uint64_uint64.l1] at H
         by_cases c10 : x27_2 < (l0.length : Int)
         ·rw [if_pos c10] at H
          have c10b0 := decide_eq_true c10
          clear c10
          by_cases c11 : 0 ≤ x27_2
          ·rw [if_pos c11] at H
           have c11b0 := decide_eq_true c11
           clear c11
           by_cases c12 : x27_2 < (l0.length : Int)
           ·rw [if_pos c12] at H
            have c12b0 := decide_eq_true c12
            clear c12
            by_cases c13 : x6_2.length + (rd_L1 l0 x27_2).length < 17592186044416
            ·rw [if_pos c13] at H
             have LMc13 := ak_ c13
             clear c13
             obtain ⟨y119, hy119⟩ : ∃ y_ : List Int, y_ = (x6_2 ++ (rd_L1 l0 x27_2)) := ⟨_, rfl⟩
             replace H : (slices_Concat_uint64_uint64.l1 k2 y119 l0 (l0.length : Int) (wrap64 (x27_2 + 1))) = some r := by first | (rw [hy119]; with_reducible exact H) | (have H2_ := (Option.bind_some _ _).symm.trans H; rw [hy119]; with_reducible exact H2_) | (have H2_ := (Option.bind_some _ _).symm.trans H; with_reducible exact H2_) | with_reducible exact H | (rw [hy119]; exact H) | exact H
             have Ny119 := ak_ hy119
             clear hy119
             have H' := ak_ H
             clear H
             have p118 : 0 ≤ (x27_2 : Int) := od_ (by first | (with_reducible assumption) | assumption)
             have q118 : x27_2 < (l0.length : Int) := od_ (by first | (with_reducible assumption) | assumption)
             obtain ⟨ad118, A118_0, c118_0, e118, hx118_0, hl118_0, hi118_0⟩ := at_L1 HR0.out x27_2 p118 q118
             cases e118
             replace hx118_0 := (HB.out.cell (World.block_lt_of_cell? w _ hx118_0)).trans hx118_0
             have HR118_0 := ak_ hi118_0
             have HC118_0 := ak_ hl118_0
             clear hi118_0 hl118_0
             replace p118 := eq_true p118
             replace q118 := eq_true q118
             go_wp2_with (first | ((with_reducible refine gate_builtin (b := .append) (xs := #[.tmp 31, .tmp 32]) rfl ?_); at_builtin; refine Kd.R_append_rows (Kd.int .u64) (w0 := w) w.heap.size rfl (.tmp 31) (.tmp 32) 22 23 (.int .u64 0) 8 rfl underlying22 info23 rfl (by decide) (by omega) u6 x6_2 (rd_L1 l0 x27_2) _ _ _ (fun _ => True) (fun _ => False) rfl rfl ?aO ?aR (fun _ _ h => h) (fun _ h => h.elim) ?aF ?aB ?aS ?aL ?_; (case aR => repeat (first | exact (Kd.C_below HR118_0.out HB.out) | (with_reducible refine Kd.C_alloc ?_ _) | (with_reducible refine Kd.C_drewN ?_ _) | (with_reducible refine Kd.C_drew ?_))); (case aB => exact (bl_ HB)); (case aF => exact (fun _ _ => trivial)); (case aO => exact (rl_ HO_6)); (case aS => exact (bz_ (bl_ HB))); (case aL => have := LMc13.out; omega); intro v120 w14 ho hb hg hat; rw [← Ny119.out] at ho; have n0_ := ak_ (hb); have n1_ := ak_ (ho); clear HB; clear HO_6; have HB := n0_; have HO121 := n1_; clear n0_ n1_; clear ho hb hg hat))
             go_roundg k2
             case measure => have := HK1.out; have := HK2.out; omega
             case rel => exact ⟨(y119), (wrap64 (x27_2 + 1)), (by first | rfl | (simp; done) | (simp [*]; done)), H', ⟨by have := HK1.out; have := HK2.out; omega⟩, ⟨rl_ HO121⟩, ⟨bl_ HB⟩⟩
            ·rw [if_neg c13] at H
             exact absurd H (by simp)
           ·rw [if_neg c12] at H
            exact absurd H (by simp)
          ·rw [if_neg c11] at H
           exact absurd H (by simp)
         ·rw [if_neg c10] at H
          have c10b0 := decide_eq_false c10
          clear c10
          obtain rfl := Option.some.inj H
          go_wp2
          go_ret
          exact ⟨_, by first | rfl | (simp <;> rfl) | (simp [*] <;> rfl), by (with_reducible repeat (first | apply Kd.R_alloc | apply Kd.R_drewN | apply Kd.R_drew)); exact HO_6.out, bl_ HB⟩
      ·rw [if_neg c7] at H
       exact absurd H (by simp)
     ·rw [if_neg c6] at H
      exact absurd H (by simp)
open Go.Shelf Go.Lib in
shelf_lay_g SlLaysE.n43 Slgn 43 at Tryz 105 as Tryz.layCompact
def slices_Compact_uint64_uint64.f (_k : Nat) (l0 : List Int) : Option (List Int) := some (Go.Lib.compactUpTo l0.toArray l0.length)
theorem holds_of_R {e base g cap : Nat} {ok : Nat → Prop} {w : World} {xs : List Int} (h : Kd.R (Kd.int .u64) e w base ok (.slice (some ⟨g, 0, none⟩) xs.length cap) xs) : Go.Sort.Holds (Value.int .u64) w g 0 xs.toArray := by
  intro j hj
  have hj' : j < xs.length := by simpa using hj
  have h2 := Kd.R_cell (enc := Value.int .u64) (h1 := fun _ => rfl) (0 : Int) h (j : Int) (by omega) (by omega)
  have e1 : xs.toArray[j]! = rdOf (0 : Int) xs (j : Int) := by
   rw [getElem!_pos _ j hj]
   simp [rdOf, hj', List.getElem?_eq_getElem]
  rw [Nat.zero_add, e1]
  simpa using h2
theorem R_of_put {e base g cap : Nat} {ok : Nat → Prop} {w : World} {xs ys : List Int} (h : Kd.R (Kd.int .u64) e w base ok (.slice (some ⟨g, 0, none⟩) xs.length cap) xs) (hy : ys.length = xs.length) (q : Nat) : Kd.R (Kd.int .u64) e (Go.Sort.putRow (Value.int .u64) (Go.Sort.ahead w q) g 0 ys.toArray) base ok (.slice (some ⟨g, 0, none⟩) ys.length cap) ys := by
  obtain ⟨h0, inner, ho, hr⟩ := h
  obtain ⟨h1, h2⟩ := ho
  rcases h2 with ⟨h2, _⟩ | ⟨g', cap', cur, he, hb, hh, hn, hc, hs, ht⟩
  ·cases h2
  ·simp only [Value.slice.injEq, some.injEq, Addr.mk.injEq] at he
   obtain ⟨⟨rfl, _⟩, _, rfl⟩ := he
   have hcell : (Go.Sort.putRow (Value.int .u64) (Go.Sort.ahead w q) g 0 ys.toArray).heap[g]? = some (.cells (Go.Sort.putCells (Value.int .u64) 0 ys.toArray cur) e (0, 0)) := by
    simp [Go.Sort.putRow, Go.Sort.mapBlock, Go.Sort.ahead, Array.getElem?_modify, hh, Go.Sort.onCells]
   have htk : (Go.Sort.putCells (Value.int .u64) 0 ys.toArray cur).toList.take ys.length = encs (Value.int .u64) ys := by
    apply List.ext_getElem
    ·simp [Go.Sort.putCells, encs]; simp only [Kd.int, Kd.scalar] at hs; omega
    ·intro i hi1 hi2
     have hi : i < ys.length := by simp [encs] at hi2; exact hi2
     simp [Go.Sort.putCells, encs, hi]
   refine Kd.R_of_own (enc := Value.int .u64) (h1 := fun _ => rfl) ⟨by simp [encs], .inr ⟨g, cap, _, rfl, hb, hcell, by omega, hc, ?_, ?_⟩⟩ (fun k hk => h0 k (by simpa [Value.ownBlock] using hk))
   ·simp only [Kd.int, Kd.scalar] at hs
    simp [Go.Sort.putCells, hs]
   ·simpa using htk
theorem grown_put {w : World} {q g : Nat} (d : Array Int) : w.grownBy (Go.Sort.putRow (Value.int .u64) (Go.Sort.ahead w q) g 0 d) (some g) := by
  refine ⟨rfl, rfl, rfl, by simp, fun k hk hne => ?_⟩
  have : g ≠ k := fun e => hne (by rw [e])
  simp [Go.Sort.putRow, Go.Sort.mapBlock, Go.Sort.ahead, Array.getElem?_modify, this]
theorem compactUpTo_length (d : Array Int) (m : Nat) : (Go.Lib.compactUpTo d m).length ≤ m := by
  unfold Go.Lib.compactUpTo
  rw [List.length_map]
  exact Nat.le_trans (List.length_filter_le _ _) (by simp)
set_option maxHeartbeats 8000000 in
set_option maxRecDepth 100000 in
theorem slices_Compact_uint64_uint64.calls (k : Nat) (P0_ : Nat → Prop) (u9000_ : Value) (l0 : List Int) (r : List Int) (w0 w : World) (hB : Below w0.heap.size w0 w) (ho0 : Kd.R (Kd.int .u64) 23 w w0.heap.size P0_ u9000_ l0) (h : slices_Compact_uint64_uint64.f k l0 = some r) :
   Calls Tryz.prog 105 #[u9000_] w fun e w' => ∃ v0_ : Value, e = .returned (v0_) ∧ Kd.R (Kd.int .u64) 23 w' w0.heap.size (fun k_ => (P0_ k_ ∨ w.heap.size ≤ k_)) v0_ r ∧ Below w0.heap.size w0 w' ∧ Kept w w' (fun k_ => P0_ k_) := by
  obtain rfl : Go.Lib.compactUpTo l0.toArray l0.length = r := Option.some.inj h
  have hown := ho0
  obtain ⟨h0, inner, ⟨h1, h2⟩, hr⟩ := hown
  rcases h2 with ⟨rfl, h2⟩ | ⟨g, cap, cur, rfl, hb, hh, hn, hc, hs, ht⟩
  ·obtain rfl : l0 = [] := List.length_eq_zero_iff.1 h2
   clear hr h0 h1 h
   go_enter func105, ntmps105
   go_wp2
   go_ret
   exact ⟨_, rfl, Kd.R_nil _ _ _ _ _, hB, Kept.refl _ _⟩
  ·have hmax : cap ≤ 9223372036854775807 := by simp only [maxLen] at hc; omega
   have hc2 := Go.Proofs.AnyE.slices_Compact (α := Int) Tryz.layCompact (Value.int .u64) (fun _ => rfl) (EqlAt.intD _ _ .u64) (NeqAt.intD _ _ .u64) (0 : Int) (fun _ => rfl) g 0 cap l0.toArray w (holds_of_R ho0) (by simp; omega) (by simpa using hn)
   have hsz : l0.toArray.size = l0.length := by simp
   rw [hsz] at hc2
   refine Calls.mono (show Calls Tryz.prog 105 #[.slice (some ⟨g, 0, none⟩) l0.length cap] w _ from hc2) ?_
   rintro e w' ⟨rfl, q, rfl⟩
   have hle := compactUpTo_length l0.toArray l0.length
   have hR := R_of_put (ys := Go.Lib.compactUpTo l0.toArray l0.length ++ List.replicate (l0.length - (Go.Lib.compactUpTo l0.toArray l0.length).length) 0) ho0 (by simp; omega) q
   have hT := Kd.R_take (m := (Go.Lib.compactUpTo l0.toArray l0.length).length) hR (by simp)
   rw [List.take_left'] at hT
   ·have hg := grown_put (w := w) (q := q) (g := g) (Go.Lib.compactUpTo l0.toArray l0.length ++ List.replicate (l0.length - (Go.Lib.compactUpTo l0.toArray l0.length).length) (0 : Int)).toArray
    exact ⟨_, rfl, Kd.R_mono hT (fun k_ hk => .inl hk), hB.grown hg hB.size (fun j hj => by obtain rfl := Option.some.inj hj; exact hb), Kept.of_grown hg (Kept.refl _ _) (fun k_ hk => by obtain rfl := Option.some.inj hk; exact .inl (h0 _ (by simp [Value.ownBlock])))⟩
   ·rfl
theorem concat_two (x y : List Int) (h : x.length + y.length < 17592186044416) : slices_Concat_uint64_uint64.f 7 [x, y] = some (x ++ y) := by
  have w1 : wrap64 1 = 1 := by unfold wrap64; omega
  have w2 : wrap64 2 = 2 := by unfold wrap64; omega
  have w3 : wrap64 (x.length : Int) = (x.length : Int) := by unfold wrap64; omega
  have w4 : wrap64 ((x.length : Int) + (y.length : Int)) = (x.length : Int) + (y.length : Int) := by unfold wrap64; omega
  have r0 : rd_L1 [x, y] 0 = x := rfl
  have r1 : rd_L1 [x, y] 1 = y := rfl
  unfold slices_Concat_uint64_uint64.f
  simp only [slices_Concat_uint64_uint64.l0, slices_Concat_uint64_uint64.l1, List.length_cons, List.length_nil]
  simp only [show (((0 + 1 + 1 : Nat)) : Int) = 2 from rfl, r0, r1, Int.zero_add, w1, w2, w3, w4, show (1 : Int) + 1 = 2 from rfl, show (0 : Int) + 1 = 1 from rfl]
  have a1 : ¬ ((x.length : Int) < 0) := by omega
  have a2 : ¬ ((x.length : Int) + (y.length : Int) < 0) := by omega
  have a3 : (0 : Int) ≤ (x.length : Int) + (y.length : Int) := by omega
  have a4 : ((x.length : Int) + (y.length : Int)).toNat ≤ 17592186044416 := by omega
  have a5 : x.length < 17592186044416 := by omega
  simp [a1, a2, a3, a4, a5, h]
mutual
def steiner_tree.l0 : Nat → Int → List Int → List Int → Int → Int → Option (List Int × Int)
  | 0, _, _, _, _, _ => none
  | k + 1, x0, x7, x23, x24, x25 => if x25 < x24 then (if 0 ≤ x25 then (if x25 < (x23.length : Int) then ((node_Leaf.f x0 (rd x23 x25)).bind fun bt144 => (if bt144.2 = 0 then (if x25 < (x7.length : Int) then (steiner_tree.l0 k x0 (x7.set (x25 : Int).toNat bt144.1) x23 x24 (wrap64 (x25 + 1))) else (none)) else (some (([] : List Int), bt144.2)))) else (none)) else (none)) else (steiner_tree.l1 k x7 ([] : List Int) (wrap64 (x0 + 1)) 0)
def steiner_tree.l1 : Nat → List Int → List Int → Int → Int → Option (List Int × Int)
  | 0, _, _, _, _ => none
  | k + 1, x7, x12, x45, x46 => if x46 < x45 then (if ([] : List Int).length + x7.length < 17592186044416 then ((some (([] : List Int) ++ x7 : List Int)).bind fun y147 => (if y147.length + x12.length < 17592186044416 then (steiner_tree.l2 k x7 (y147 ++ x12) x45 x46 (x7.length : Int) 0) else (none))) else (none)) else (some (x12, 0))
def steiner_tree.l2 : Nat → List Int → List Int → Int → Int → Int → Int → Option (List Int × Int)
  | 0, _, _, _, _, _, _ => none
  | k + 1, x7, x12, x45, x46, x53, x54 => if x54 < x53 then (if 0 ≤ x54 then (if x54 < (x7.length : Int) then (steiner_tree.l2 k (x7.set (x54 : Int).toNat ((rd x7 x54) / 2)) x12 x45 x46 x53 (wrap64 (x54 + 1))) else (none)) else (none)) else ((slices_Compact_uint64_uint64.f k x7).bind fun t155 => (steiner_tree.l1 k t155 x12 x45 (wrap64 (x46 + 1))))
end
def steiner_tree.f (k : Nat) (a0 : Int) (l1 : List Int) : Option (List Int × Int) := (leaf_Check.f k a0 l1).bind fun t139 => (if t139 = 0 then (if 0 ≤ (l1.length : Int) then (if ((l1.length : Int) : Int).toNat ≤ 35184372088832 then (steiner_tree.l0 k a0 (List.replicate ((l1.length : Int) : Int).toNat 0) l1 (l1.length : Int) 0) else (none)) else (none)) else (some (([] : List Int), t139)))
set_option maxHeartbeats 8000000 in
set_option maxRecDepth 100000 in
theorem steiner_tree.calls (k : Nat) (a0 : Int) (A1 : Option Addr) (c1 : Nat) (l1 : List Int) (r1 : List Int) (r2 : Int) (w : World) (hr1 : Kd.C (Kd.int .u64) w A1 l1.length l1) (hc1 : l1.length ≤ c1) (h : steiner_tree.f k a0 l1 = some (r1, r2)) :
   Calls Tryz.prog 89 #[.int .i64 a0, .slice A1 l1.length c1] w fun e w' => ∃ v0_ : Value, e = .returned (.tuple #[v0_, .int .i64 r2]) ∧ Kd.R (Kd.int .u64) 23 w' w.heap.size (fun _ => True) v0_ r1 ∧ Below w.heap.size w w' := by
  have HR1 := ak_ hr1
  have HC1 := ak_ hc1
  clear hr1 hc1
  have HB := ak_ (Below.refl w.heap.size w)
  have H : ((leaf_Check.f k a0 l1).bind fun t139 => (if t139 = 0 then (if 0 ≤ (l1.length : Int) then (if ((l1.length : Int) : Int).toNat ≤ 35184372088832 then (steiner_tree.l0 k a0 (List.replicate ((l1.length : Int) : Int).toNat 0) l1 (l1.length : Int) 0) else (none)) else (none)) else (some (([] : List Int), t139)))) = some (r1, r2) := h
  clear h
  replace H := bind_eq_some_iff.mp H
  obtain ⟨t139, A30, H⟩ := H
  replace H : (if t139 = 0 then (if 0 ≤ (l1.length : Int) then (if ((l1.length : Int) : Int).toNat ≤ 35184372088832 then (steiner_tree.l0 k a0 (List.replicate ((l1.length : Int) : Int).toNat 0) l1 (l1.length : Int) 0) else (none)) else (none)) else (some (([] : List Int), t139))) = some (r1, r2) := H
  have A3 := ak_ A30
  clear A30
  by_cases c4 : t139 = 0
  ·rw [if_pos c4] at H
   have c4b0 : (t139 == 0) = true := beq_iff_eq.mpr c4
   have c4b1 : (t139 != 0) = false := bne_eq_false_iff_eq.mpr c4
   clear c4
   by_cases c5 : 0 ≤ (l1.length : Int)
   ·rw [if_pos c5] at H
    have c5b0 := eq_true c5
    have c5b1 := decide_eq_true c5
    clear c5
    by_cases c6 : ((l1.length : Int) : Int).toNat ≤ 35184372088832
    ·rw [if_pos c6] at H
     have c6b0 := eq_true c6
     have c6b1 := decide_eq_true c6
     clear c6
     obtain ⟨y140, hy140⟩ : ∃ y_ : List Int, y_ = (List.replicate ((l1.length : Int) : Int).toNat 0) := ⟨_, rfl⟩
     replace H : (steiner_tree.l0 k a0 y140 l1 (l1.length : Int) 0) = some (r1, r2) := by first | (rw [hy140]; with_reducible exact H) | (have H2_ := (Option.bind_some _ _).symm.trans H; rw [hy140]; with_reducible exact H2_) | (have H2_ := (Option.bind_some _ _).symm.trans H; with_reducible exact H2_) | with_reducible exact H | (rw [hy140]; exact H) | exact H
     have Ny140 := ak_ hy140
     clear hy140
     have H' := ak_ H
     clear H
     go_enter func89, ntmps89
     go_wp2_with (first | ((with_reducible refine gate_callee (f := 67) rfl ?_); refine goesL_ (some 16) rfl rfl func67 (by kernel_rfl) rfl #[.int .i64 a0, .slice A1 l1.length c1] rfl (by (try simp only [map_toArray, map_cons, map_nil]); first | done | rfl) ?_; (with_reducible refine (leaf_Check.calls k a0 _ _ l1 t139 _ ?side1 ?side2 A3.out).mono ?_); (case side1 => repeat (first | exact HR1.out | (with_reducible refine Kd.C_alloc ?_ _) | (with_reducible refine Kd.C_drewN ?_ _) | (with_reducible refine Kd.C_drew ?_))); (case side2 => exact HC1.out); rintro e w' ⟨rfl, ⟨nd, rfl⟩⟩; refine ⟨_, rfl, ?_⟩) | ((with_reducible refine gate_dst (N := 22) rfl ?_); refine Kd.R_make (Kd.int .u64) _ 23 rfl (N := 22) rfl 22 _ _ rfl (l1.length : Int) rfl rfl underlying22 (.int .u64 0) 8 info23 rfl (by decide) (by omega) 0 (ok := fun _ => True) (okp := fun _ => True) rfl (fun _ hk => hk) trivial (od_ (by first | (with_reducible assumption) | assumption)) (Nat.le_trans (Nat.mul_le_mul_right _ (od_ (by first | (with_reducible assumption) | assumption) : (l1.length : Int).toNat ≤ 35184372088832)) (by omega)) (Below.refl _ _) (Nat.le_refl _) ?_; intro v141 w7 ho8 hb hg_ hnew_; clear hg_ hnew_; (first | rw [← Ny140.out] at ho8 | (simp only [Int.reduceToNat] at ho8; rw [← Ny140.out] at ho8)); have n0_ := ak_ (Kd.R_lower ho8 (bz_ (bl_ HB))); have n1_ := ak_ (bt_ (bl_ HB) hb); clear HB; have HO142 := n0_; have HB := n1_; clear n0_ n1_; clear hb ho8))
     go_loopg [25] k (fun kq v25 w' => ∃ (x7_1 : List Int) (x25_1 : Int), v25 = .int .i64 x25_1 ∧ Aside0 (steiner_tree.l0 kq a0 x7_1 l1 (l1.length : Int) x25_1 = some (r1, r2)) ∧ Aside0 (kq ≤ k) ∧ Aside0 (Kd.R (Kd.int .u64) 23 w' w.heap.size (fun _ => True) v141 x7_1) ∧ Aside0 (Below w.heap.size w w'))
     case atStart => exact ⟨(y140), (0), (by first | rfl | (simp; done) | (simp [*]; done)), H', ⟨Nat.le_refl _⟩, ⟨rl_ HO142⟩, ⟨bl_ HB⟩⟩
     case round =>
      clear H'
      try clear c1
      try clear p2
      try clear c4
      try clear c4b0
      try clear c4b1
      try clear c5
      try clear c5b0
      try clear c5b1
      try clear c6
      try clear c6b0
      try clear c6b1
      try clear c8
      obtain ⟨x7_1, x25_1, rfl, HA, HK1, HO_7, HB⟩ := hrel
      cases gk with
      | zero => exact absurd HA.out (by simp [steiner_tree.l0])
      | succ k1 =>
       have H := HA.out
       clear HA
       simp only [steiner_tree.l0] at H
       by_cases c9 : x25_1 < (l1.length : Int)
       ·rw [if_pos c9] at H
        have c9b0 := decide_eq_true c9
        clear c9
        by_cases c10 : 0 ≤ x25_1
        ·rw [if_pos c10] at H
         have c10b0 := decide_eq_true c10
         clear c10
         by_cases c11 : x25_1 < (l1.length : Int)
         ·rw [if_pos c11] at H
          have c11b0 := decide_eq_true c11
          clear c11
          replace H := bind_eq_some_iff.mp H
          obtain ⟨⟨t144, t145⟩, A120, H⟩ := H
          replace H : (if t145 = 0 then (if x25_1 < (x7_1.length : Int) then (steiner_tree.l0 k1 a0 (x7_1.set (x25_1 : Int).toNat t144) l1 (l1.length : Int) (wrap64 (x25_1 + 1))) else (none)) else (some (([] : List Int), t145))) = some (r1, r2) := H
          have A12 := ak_ A120
          clear A120
          by_cases c13 : t145 = 0
          ·rw [if_pos c13] at H
           have c13b0 : (t145 == 0) = true := beq_iff_eq.mpr c13
           have c13b1 : (t145 != 0) = false := bne_eq_false_iff_eq.mpr c13
           clear c13
           by_cases c14 : x25_1 < (x7_1.length : Int)
           ·rw [if_pos c14] at H
            have c14b0 := decide_eq_true c14
            clear c14
            obtain ⟨y146, hy146⟩ : ∃ y_ : List Int, y_ = (x7_1.set (x25_1 : Int).toNat t144) := ⟨_, rfl⟩
            replace H : (steiner_tree.l0 k1 a0 y146 l1 (l1.length : Int) (wrap64 (x25_1 + 1))) = some (r1, r2) := by first | (rw [hy146]; with_reducible exact H) | (have H2_ := (Option.bind_some _ _).symm.trans H; rw [hy146]; with_reducible exact H2_) | (have H2_ := (Option.bind_some _ _).symm.trans H; with_reducible exact H2_) | with_reducible exact H | (rw [hy146]; exact H) | exact H
            have Ny146 := ak_ hy146
            clear hy146
            have H' := ak_ H
            clear H
            have p143 : 0 ≤ (x25_1 : Int) := od_ (by first | (with_reducible assumption) | assumption)
            have q143 : x25_1 < (l1.length : Int) := od_ (by first | (with_reducible assumption) | assumption)
            obtain ⟨ad143, e143, hx143_0⟩ := Kd.at_int HR1.out x25_1 p143 q143
            cases e143
            replace hx143_0 := (HB.out.cell (World.block_lt_of_cell? w _ hx143_0)).trans hx143_0
            replace p143 := eq_true p143
            replace q143 := eq_true q143
            go_wp2_with (first | ((with_reducible refine gate_callee (f := 92) rfl ?_); refine goesL_ (some 33) rfl rfl func92 (by kernel_rfl) rfl #[.int .i64 a0, .int .u64 (rd l1 x25_1)] rfl (by (try simp only [map_toArray, map_cons, map_nil]); first | done | rfl) ?_; (with_reducible refine (node_Leaf.calls a0 (rd l1 x25_1) t144 t145 _ A12.out).mono ?_); rintro e w' ⟨rfl, ⟨nd, rfl⟩⟩; refine ⟨_, rfl, ?_⟩; (try (rw [drewN_self wr]; generalize hq_ : World.drewN wr _ = wr; have n0_ : Aside0 (Kd.R (Kd.int .u64) 23 wr w.heap.size (fun _ => True) v141 x7_1) := ⟨by rw [← hq_]; exact (rl_ HO_7)⟩; have n1_ : Aside0 (Below w.heap.size w wr) := ⟨by rw [← hq_]; exact (bl_ HB)⟩; clear HO_7 HB hq_; have HO_7 := n0_; have HB := n1_; clear n0_ n1_)); have p15 : 0 ≤ (x25_1 : Int) := od_ (by first | (with_reducible assumption) | assumption); have q15 : (x25_1 : Int) < ((x7_1.length : Int) : Int) := od_ (by first | (with_reducible assumption) | assumption); obtain ⟨go15, co15, eo15, gb15, gl15, cl15, HG15⟩ := Kd.R_form HO_7.out (by omega); (first | cases eo15 | (injection eo15 with ea_ en_ ec_; (first | subst ea_ | (injection ea_ with ea_; subst ea_)); subst ec_; clear en_)); have GB15 := ak_ gb15; have GG15 := ak_ HG15; clear gb15 gl15 HG15; obtain ⟨hx15_0, hf15_0⟩ := Kd.R_celln 0 HO_7.out (x25_1 : Int) p15 q15; replace p15 := eq_true p15; replace q15 := eq_true q15; obtain ⟨hy16_, hz16_⟩ := Kd.R_celln 0 HO_7.out (x25_1 : Int) (od_ (by first | (with_reducible assumption) | assumption)) (od_ (by first | (with_reducible assumption) | assumption)); have HP16 := Kd.R_putg HO_7.out (x25_1 : Int) t144) | ((with_reducible refine gate_store (t := 23) (p := 42) rfl ?_); refine store_event (t := 23) (p := 42) (v := ?vo_w17) (w1 := (wr.setCell ⟨go15, (x25_1 : Int).toNat, none⟩ (.int .u64 t144))) ?hg ?ho ?hn ?hr ?_; (case ho => rfl); (case hg => rfl); (case hn => rfl); (case hr => first | (go_simp; done) | (go_simp; rfl)); intro w17 hw; have hg : wr.grownBy w17 (some go15) := (by rw [hw]; exact HP16.2); have hp_ : Kd.R (Kd.int .u64) 23 w17 w.heap.size (fun _ => True) (.slice (some ⟨go15, 0, none⟩) x7_1.length co15) y146 := (by rw [hw, Ny146.out]; exact HP16.1); clear HP16; have n0_ := ak_ (hp_); have n1_ := ak_ ((by rw [hw]; exact below_set (HB.out) GB15.out : Below w.heap.size w w17)); clear HO_7; clear HB; have HO_7 := n0_; have HB := n1_; clear n0_ n1_; clear hg hw hp_))
            go_roundg k1
            case measure => have := HK1.out; omega
            case rel => exact ⟨(y146), (wrap64 (x25_1 + 1)), (by first | rfl | (simp; done) | (simp [*]; done)), H', ⟨by have := HK1.out; omega⟩, ⟨rl_ HO_7⟩, ⟨bl_ HB⟩⟩
           ·rw [if_neg c14] at H
            exact absurd H (by simp)
          ·rw [if_neg c13] at H
           have c13b0 : (t145 == 0) = false := beq_eq_false_iff_ne.mpr c13
           have c13b1 : (t145 != 0) = true := bne_iff_ne.mpr c13
           simp only [some.injEq, Prod.mk.injEq] at H
           obtain ⟨rfl, rfl⟩ := H
           have p143 : 0 ≤ (x25_1 : Int) := od_ (by first | (with_reducible assumption) | assumption)
           have q143 : x25_1 < (l1.length : Int) := od_ (by first | (with_reducible assumption) | assumption)
           obtain ⟨ad143, e143, hx143_0⟩ := Kd.at_int HR1.out x25_1 p143 q143
           cases e143
           replace hx143_0 := (HB.out.cell (World.block_lt_of_cell? w _ hx143_0)).trans hx143_0
           replace p143 := eq_true p143
           replace q143 := eq_true q143
           go_wp2_with (first | ((with_reducible refine gate_callee (f := 92) rfl ?_); refine goesL_ (some 33) rfl rfl func92 (by kernel_rfl) rfl #[.int .i64 a0, .int .u64 (rd l1 x25_1)] rfl (by (try simp only [map_toArray, map_cons, map_nil]); first | done | rfl) ?_; (with_reducible refine (node_Leaf.calls a0 (rd l1 x25_1) t144 t145 _ A12.out).mono ?_); rintro e w' ⟨rfl, ⟨nd, rfl⟩⟩; refine ⟨_, rfl, ?_⟩))
           go_ret2
           exact ⟨_, by first | rfl | (simp <;> rfl) | (simp [*] <;> rfl), by first | exact Kd.R_nil _ _ _ _ _ | exact Kd.N_nil _ _ _ _ _ | exact Kd.V_nil _ _ _ _ _ | exact Kd.Q_nil _ _ _ _ _ | exact Kd.S_nil _ _ _ _ _, bl_ HB⟩
         ·rw [if_neg c11] at H
          exact absurd H (by simp)
        ·rw [if_neg c10] at H
         exact absurd H (by simp)
       ·rw [if_neg c9] at H
        have c9b0 := decide_eq_false c9
        clear c9
        have H' := ak_ H
        clear H
        go_wp2
        go_loopg [7, 12, 46] k1 (fun kq v7 v12 v46 w' => ∃ (x7_2 : List Int) (x12_2 : List Int) (x46_2 : Int), v46 = .int .i64 x46_2 ∧ Aside0 (steiner_tree.l1 kq x7_2 x12_2 (wrap64 (a0 + 1)) x46_2 = some (r1, r2)) ∧ Aside0 (kq ≤ k1) ∧ Aside0 (Kd.R (Kd.int .u64) 23 w' w.heap.size (fun k_ => some k_ ≠ (v12 : Value).ownBlock) v7 x7_2) ∧ Aside0 (Kd.R (Kd.int .u64) 23 w' w.heap.size (fun k_ => some k_ ≠ (v7 : Value).ownBlock) v12 x12_2) ∧ Aside0 (Below w.heap.size w w'))
        case atStart => exact ⟨(x7_1), (([] : List Int)), (0), (by first | rfl | (simp; done) | (simp [*]; done)), H', ⟨Nat.le_refl _⟩, ⟨by (with_reducible repeat (first | apply Kd.R_alloc | apply Kd.R_drewN | apply Kd.R_drew)); exact Kd.R_mono HO_7.out (fun _ hk => (by simp [Value.ownBlock]))⟩, ⟨by first | exact Kd.R_nil _ _ _ _ _ | exact Kd.N_nil _ _ _ _ _ | exact Kd.V_nil _ _ _ _ _ | exact Kd.Q_nil _ _ _ _ _ | exact Kd.S_nil _ _ _ _ _⟩, ⟨bl_ HB⟩⟩
        case round =>
         clear H'
         try clear c1
         try clear p1
         try clear q1
         try clear hx1
         try clear p2
         try clear c4
         try clear c4b0
         try clear c4b1
         try clear c5
         try clear c5b0
         try clear c5b1
         try clear c6
         try clear c6b0
         try clear c6b1
         try clear p6
         try clear c8
         try clear c9
         try clear c9b0
         try clear c10
         try clear c10b0
         try clear c11
         try clear c11b0
         try clear c13
         try clear c13b0
         try clear c13b1
         try clear c14
         try clear c14b0
         try clear p14
         try clear q14
         try clear hx14
         try clear p15
         try clear q15
         try clear hx15
         try clear hf15
         try clear hx143_0
         try clear hx15_0
         try clear p143
         try clear p15
         try clear p2
         try clear q143
         try clear q15
         obtain ⟨x7_2, x12_2, x46_2, rfl, HA, HK2, HO_7, HO_12, HB⟩ := hrel
         cases gk with
         | zero => exact absurd HA.out (by simp [steiner_tree.l1])
         | succ k2 =>
          have H := HA.out
          clear HA
          simp only [steiner_tree.l1] at H
          by_cases c18 : x46_2 < (wrap64 (a0 + 1))
          ·rw [if_pos c18] at H
           have c18b0 := decide_eq_true c18
           clear c18
           by_cases c19 : ([] : List Int).length + x7_2.length < 17592186044416
           ·rw [if_pos c19] at H
            have LMc19 := ak_ c19
            clear c19
            obtain ⟨y147, hy147⟩ : ∃ y_ : List Int, y_ = (([] : List Int) ++ x7_2) := ⟨_, rfl⟩
            replace H : (if y147.length + x12_2.length < 17592186044416 then (steiner_tree.l2 k2 x7_2 (y147 ++ x12_2) (wrap64 (a0 + 1)) x46_2 (x7_2.length : Int) 0) else (none)) = some (r1, r2) := by first | (rw [hy147]; with_reducible exact H) | (have H2_ := (Option.bind_some _ _).symm.trans H; rw [hy147]; with_reducible exact H2_) | (have H2_ := (Option.bind_some _ _).symm.trans H; with_reducible exact H2_) | with_reducible exact H | (rw [hy147]; exact H) | exact H
            have Ny147 := ak_ hy147
            clear hy147
            by_cases c20 : y147.length + x12_2.length < 17592186044416
            ·rw [if_pos c20] at H
             have LMc20 := ak_ c20
             clear c20
             obtain ⟨y150, hy150⟩ : ∃ y_ : List Int, y_ = (y147 ++ x12_2) := ⟨_, rfl⟩
             replace H : (steiner_tree.l2 k2 x7_2 y150 (wrap64 (a0 + 1)) x46_2 (x7_2.length : Int) 0) = some (r1, r2) := by first | (rw [hy150]; with_reducible exact H) | (have H2_ := (Option.bind_some _ _).symm.trans H; rw [hy150]; with_reducible exact H2_) | (have H2_ := (Option.bind_some _ _).symm.trans H; with_reducible exact H2_) | with_reducible exact H | (rw [hy150]; exact H) | exact H
             have Ny150 := ak_ hy150
             clear hy150
             have H' := ak_ H
             clear H
             obtain ⟨Ao22, co22, eo22⟩ := Kd.R_slice HO_7.out
             subst eo22
             obtain ⟨Ao24, co24, eo24⟩ := Kd.R_slice HO_12.out
             subst eo24
             have HCC := ak_ (show slices_Concat_uint64_uint64.f 7 [x7_2, x12_2] = some y150 from by rw [concat_two _ _ (by have h1_ := LMc20.out; rw [Ny147.out] at h1_; simpa using h1_), Ny150.out, Ny147.out]; rfl)
             go_wp2_with (first | ((with_reducible refine gate_callee (f := 104) rfl ?_); refine goesL_ (some 51) rfl rfl func104 (by kernel_rfl) rfl #[.slice (some ⟨_, 0, none⟩) 2 2] rfl (by (try simp only [map_toArray, map_cons, map_nil]); first | done | rfl) ?_; refine Calls.mono (slices_Concat_uint64_uint64.calls 7 _ 2 [x7_2, x12_2] y150 _ (Kd.C_two (Kd.int .u64) 23 22 (by repeat (first | exact (Kd.R_reads' HO_7.out).2.2 | (with_reducible refine Kd.C_alloc ?_ _) | (with_reducible refine Kd.C_drewN ?_ _) | (with_reducible refine Kd.C_drew ?_))) (Kd.R_reads' HO_7.out).2.1 (by repeat (first | exact (Kd.R_reads' HO_12.out).2.2 | (with_reducible refine Kd.C_alloc ?_ _) | (with_reducible refine Kd.C_drewN ?_ _) | (with_reducible refine Kd.C_drew ?_))) (Kd.R_reads' HO_12.out).2.1) (Nat.le_refl 2) HCC.out) ?_; rintro e w23 ⟨v151, rfl, ho, hb⟩; refine ⟨_, rfl, ?_⟩; have n0_ := ak_ (Kd.R_elder' (rl_ HO_7) (Kd.R_base ho) hb); have n2_ := ak_ (bt_ (bl_ HB) hb); have n3_ := ak_ (Kd.R_lower (Kd.R_mono (ok' := fun k_ => some k_ ≠ (.slice Ao22 x7_2.length co22 : Value).ownBlock ∧ True) (Kd.R_new' ho (Kd.R_lt (rl_ HO_7))) (fun k_ hk => ⟨hk.2, trivial⟩)) (bz_ (bl_ HB))); clear HO_7; clear HO_12; clear HB; have HO_7 := n0_; have HB := n2_; have HO152 := n3_; clear n0_ n2_ n3_; clear ho hb))
             go_loopg [54] k2 (fun kq v54 w' => ∃ (x7_3 : List Int) (x54_3 : Int), v54 = .int .i64 x54_3 ∧ Aside0 (steiner_tree.l2 kq x7_3 y150 (wrap64 (a0 + 1)) x46_2 (x7_2.length : Int) x54_3 = some (r1, r2)) ∧ Aside0 (kq ≤ k2) ∧ Aside0 (Kd.R (Kd.int .u64) 23 w' w.heap.size (fun k_ => some k_ ≠ (v151 : Value).ownBlock) (.slice Ao22 x7_2.length co22) x7_3) ∧ Aside0 (Kd.R (Kd.int .u64) 23 w' w.heap.size (fun k_ => some k_ ≠ ((.slice Ao22 x7_2.length co22) : Value).ownBlock) v151 y150) ∧ Aside0 (Below w.heap.size w w'))
             case atStart => exact ⟨(x7_2), (0), (by first | rfl | (simp; done) | (simp [*]; done)), H', ⟨Nat.le_refl _⟩, ⟨by (with_reducible repeat (first | apply Kd.R_alloc | apply Kd.R_drewN | apply Kd.R_drew)); exact Kd.R_mono HO_7.out (fun _ hk => hk.2)⟩, ⟨by (with_reducible repeat (first | apply Kd.R_alloc | apply Kd.R_drewN | apply Kd.R_drew)); exact Kd.R_mono HO152.out (fun _ hk => hk.1)⟩, ⟨bl_ HB⟩⟩
             case round =>
              clear H'
              try clear c1
              try clear p1
              try clear q1
              try clear hx1
              try clear c2
              try clear p2
              try clear c4
              try clear c4b0
              try clear c4b1
              try clear c5
              try clear c5b0
              try clear c5b1
              try clear c6
              try clear c6b0
              try clear c6b1
              try clear p6
              try clear c8
              try clear c9
              try clear c9b0
              try clear c10
              try clear c10b0
              try clear c11
              try clear c11b0
              try clear c13
              try clear c13b0
              try clear c13b1
              try clear c14
              try clear c14b0
              try clear p14
              try clear q14
              try clear hx14
              try clear p15
              try clear q15
              try clear hx15
              try clear hf15
              try clear c18
              try clear c18b0
              try clear c19
              try clear c20
              try clear hx143_0
              try clear hx15_0
              try clear p1
              try clear p14
              try clear p143
              try clear p15
              try clear p2
              try clear p6
              try clear q1
              try clear q14
              try clear q143
              try clear q15
              obtain ⟨x7_3, x54_3, rfl, HA, HK3, HO_7, HO_12, HB⟩ := hrel
              have hl7_3 := (Kd.R_reads' HO_7.out).1
              rw [hl7_3] at HO_7
              (try simp only [hl7_3])
              (try simp only [hl7_3] at HO_12)
              cases gk with
              | zero => exact absurd HA.out (by simp [steiner_tree.l2])
              | succ k3 =>
               have H := HA.out
               clear HA
               simp only [steiner_tree.l2] at H
               by_cases c25 : x54_3 < (x7_2.length : Int)
               ·rw [if_pos c25] at H
                have c25b0 := decide_eq_true c25
                have c25b9 := c25b0
                rw [hl7_3] at c25b9
                clear c25
                by_cases c26 : 0 ≤ x54_3
                ·rw [if_pos c26] at H
                 have c26b0 := decide_eq_true c26
                 clear c26
                 by_cases c27 : x54_3 < (x7_3.length : Int)
                 ·rw [if_pos c27] at H
                  have c27b0 := decide_eq_true c27
                  clear c27
                  obtain ⟨y154, hy154⟩ : ∃ y_ : List Int, y_ = (x7_3.set (x54_3 : Int).toNat ((rd x7_3 x54_3) / 2)) := ⟨_, rfl⟩
                  replace H : (steiner_tree.l2 k3 y154 y150 (wrap64 (a0 + 1)) x46_2 (x7_2.length : Int) (wrap64 (x54_3 + 1))) = some (r1, r2) := by first | (rw [hy154]; with_reducible exact H) | (have H2_ := (Option.bind_some _ _).symm.trans H; rw [hy154]; with_reducible exact H2_) | (have H2_ := (Option.bind_some _ _).symm.trans H; with_reducible exact H2_) | with_reducible exact H | (rw [hy154]; exact H) | exact H
                  have Ny154 := ak_ hy154
                  clear hy154
                  have H' := ak_ H
                  clear H
                  have p153 : 0 ≤ (x54_3 : Int) := od_ (by first | (with_reducible assumption) | assumption)
                  have q153 : x54_3 < (x7_3.length : Int) := od_ (by first | (with_reducible assumption) | assumption)
                  obtain ⟨ad153, e153, hx153_0⟩ := Kd.at_int (Kd.R_reads' HO_7.out).2.2 x54_3 p153 q153
                  cases e153
                  replace p153 := eq_true p153
                  replace q153 := eq_true q153
                  have p28 : 0 ≤ (x54_3 : Int) := od_ (by first | (with_reducible assumption) | assumption)
                  have q28 : (x54_3 : Int) < ((x7_3.length : Int) : Int) := od_ (by first | (with_reducible assumption) | assumption)
                  obtain ⟨go28, co28, eo28, gb28, gl28, cl28, HG28⟩ := Kd.R_form HO_7.out (by omega)
                  (first | cases eo28 | (injection eo28 with ea_ en_ ec_; (first | subst ea_ | (injection ea_ with ea_; subst ea_)); subst ec_; clear en_))
                  have GB28 := ak_ gb28
                  have GG28 := ak_ HG28
                  clear gb28 gl28 HG28
                  (first | simp only [add_plain] at hx153_0 | skip)
                  obtain ⟨hx28_0, hf28_0⟩ := Kd.R_celln 0 HO_7.out (x54_3 : Int) p28 q28
                  replace p28 := eq_true p28
                  replace q28 := eq_true q28
                  have HP29 := Kd.R_putg HO_7.out (x54_3 : Int) ((rd x7_3 x54_3) / 2)
                  go_wp2_with (first | ((with_reducible refine gate_store (t := 23) (p := 62) rfl ?_); refine store_event (t := 23) (p := 62) (v := ?vo_w30) (w1 := (wr.setCell ⟨go28, (x54_3 : Int).toNat, none⟩ (.int .u64 ((rd x7_3 x54_3) / 2)))) ?hg ?ho ?hn ?hr ?_; (case ho => rfl); (case hg => rfl); (case hn => rfl); (case hr => first | (go_simp; done) | (go_simp; rfl)); intro w30 hw; have hg : wr.grownBy w30 (some go28) := (by rw [hw]; exact HP29.2); have hp_ : Kd.R (Kd.int .u64) 23 w30 w.heap.size (fun k_ => some k_ ≠ (v151 : Value).ownBlock) (.slice (some ⟨go28, 0, none⟩) x7_3.length co22) y154 := (by rw [hw, Ny154.out]; exact HP29.1); clear HP29; have n0_ := ak_ (hp_); have n1_ := ak_ (Kd.R_after (v := (.slice (some ⟨go28, 0, none⟩) x7_3.length co22)) (v1 := (.slice (some ⟨go28, 0, none⟩) x7_3.length co22)) (ok := (fun _ => True)) (by (with_reducible repeat (first | apply Kd.R_alloc | apply Kd.R_drewN | apply Kd.R_drew)); exact Kd.R_mono HO_12.out (fun _ hk => ⟨trivial, hk⟩)) hg (.inl rfl)); have n2_ := ak_ ((by rw [hw]; exact below_set (HB.out) GB28.out : Below w.heap.size w w30)); clear HO_7; clear HO_12; clear HB; have HO_7 := n0_; have HO_12 := n1_; have HB := n2_; clear n0_ n1_ n2_; clear hg hw hp_))
                  (try simp only [← hl7_3])
                  go_roundg k3
                  case measure => have := HK1.out; have := HK2.out; have := HK3.out; omega
                  case rel => exact ⟨(y154), (wrap64 (x54_3 + 1)), (by first | rfl | (simp; done) | (simp [*]; done)), H', ⟨by have := HK1.out; have := HK2.out; have := HK3.out; omega⟩, ⟨by (try simp only [hl7_3]); (with_reducible repeat (first | apply Kd.R_alloc | apply Kd.R_drewN | apply Kd.R_drew)); exact HO_7.out⟩, ⟨by (try simp only [hl7_3]); (with_reducible repeat (first | apply Kd.R_alloc | apply Kd.R_drewN | apply Kd.R_drew)); exact Kd.R_mono HO_12.out (fun _ hk => hk.2)⟩, ⟨bl_ HB⟩⟩
                 ·rw [if_neg c27] at H
                  exact absurd H (by simp)
                ·rw [if_neg c26] at H
                 exact absurd H (by simp)
               ·rw [if_neg c25] at H
                have c25b0 := decide_eq_false c25
                have c25b9 := c25b0
                rw [hl7_3] at c25b9
                clear c25
                replace H := bind_eq_some_iff.mp H
                obtain ⟨t155, A310, H⟩ := H
                replace H : (steiner_tree.l1 k3 t155 y150 (wrap64 (a0 + 1)) (wrap64 (x46_2 + 1))) = some (r1, r2) := H
                have A31 := ak_ A310
                clear A310
                have H' := ak_ H
                clear H
                go_wp2_with (first | ((with_reducible refine gate_callee (f := 105) rfl ?_); refine goesL_ (some 65) rfl rfl func105 (by kernel_rfl) rfl #[.slice Ao22 x7_3.length co22] rfl (by (try simp only [map_toArray, map_cons, map_nil]); first | done | rfl) ?_; (with_reducible refine (slices_Compact_uint64_uint64.calls k3 (fun k_ => some k_ = (.slice Ao22 x7_3.length co22 : Value).ownBlock) (.slice Ao22 x7_3.length co22) x7_3 t155 w _ ?side1 ?side2 A31.out).mono ?_); (case side1 => repeat (first | (with_reducible first | exact HB.out | apply ba_ | apply bn_ | apply bd_) | exact HB.out)); (case side2 => exact Kd.R_tight rfl HO_7.out); rintro e w32 ⟨v156, rfl, ho0, hb, hkp⟩; refine ⟨_, rfl, ?_⟩; have n0_ := ak_ (Kd.R_mono (ok' := fun k_ => some k_ ≠ (v156 : Value).ownBlock) (Kd.R_keptB (HO_12.out) hkp (fun k_ hk_ hs_ => (hk_) hs_)) (fun k_ hk_ => fun e_ => Or.elim (ho0.1 k_ e_.symm) (fun hs_ => hk_.2.1 hs_) (fun hn_ => Nat.not_le.2 hk_.2.2 hn_))); have n1_ := ak_ (Kd.R_mono (ok' := fun k_ => some k_ ≠ (v151 : Value).ownBlock) ho0 (fun k_ hk_ => Or.elim hk_ (fun hs_ => fun e_ => (((HO_12.out).1 k_ e_.symm)) hs_) (fun hn_ => (Kd.fresh' (Kd.R_lt (rl_ HO_12)) k_ hn_)))); have n2_ := ak_ (hb); clear HO_12; clear HB; clear HO_7; have HO_12 := n0_; have HO157 := n1_; have HB := n2_; clear n0_ n1_ n2_; (try clear hb); (try clear hkp); (try clear ho0)))
                (try simp only [← hl7_3])
                go_roundg k3
                case measure => have := HK1.out; have := HK2.out; have := HK3.out; omega
                case rel => exact ⟨(t155), (y150), (wrap64 (x46_2 + 1)), (by first | rfl | (simp; done) | (simp [*]; done)), H', ⟨by have := HK1.out; have := HK2.out; have := HK3.out; omega⟩, ⟨by (try simp only [hl7_3]); (with_reducible repeat (first | apply Kd.R_alloc | apply Kd.R_drewN | apply Kd.R_drew)); exact HO157.out⟩, ⟨by (try simp only [hl7_3]); (with_reducible repeat (first | apply Kd.R_alloc | apply Kd.R_drewN | apply Kd.R_drew)); exact HO_12.out⟩, ⟨bl_ HB⟩⟩
            ·rw [if_neg c20] at H
             exact absurd H (by simp)
           ·rw [if_neg c19] at H
            exact absurd H (by simp)
          ·rw [if_neg c18] at H
           have c18b0 := decide_eq_false c18
           clear c18
           simp only [some.injEq, Prod.mk.injEq] at H
           obtain ⟨rfl, rfl⟩ := H
           go_wp2
           go_ret2
           exact ⟨_, by first | rfl | (simp <;> rfl) | (simp [*] <;> rfl), by (with_reducible repeat (first | apply Kd.R_alloc | apply Kd.R_drewN | apply Kd.R_drew)); exact Kd.R_mono HO_12.out (fun _ hk => trivial), bl_ HB⟩
    ·rw [if_neg c6] at H
     exact absurd H (by simp)
   ·rw [if_neg c5] at H
    exact absurd H (by simp)
  ·rw [if_neg c4] at H
   have c4b0 : (t139 == 0) = false := beq_eq_false_iff_ne.mpr c4
   have c4b1 : (t139 != 0) = true := bne_iff_ne.mpr c4
   simp only [some.injEq, Prod.mk.injEq] at H
   obtain ⟨rfl, rfl⟩ := H
   go_enter func89, ntmps89
   go_wp2_with (first | ((with_reducible refine gate_callee (f := 67) rfl ?_); refine goesL_ (some 16) rfl rfl func67 (by kernel_rfl) rfl #[.int .i64 a0, .slice A1 l1.length c1] rfl (by (try simp only [map_toArray, map_cons, map_nil]); first | done | rfl) ?_; (with_reducible refine (leaf_Check.calls k a0 _ _ l1 t139 _ ?side1 ?side2 A3.out).mono ?_); (case side1 => repeat (first | exact HR1.out | (with_reducible refine Kd.C_alloc ?_ _) | (with_reducible refine Kd.C_drewN ?_ _) | (with_reducible refine Kd.C_drew ?_))); (case side2 => exact HC1.out); rintro e w' ⟨rfl, ⟨nd, rfl⟩⟩; refine ⟨_, rfl, ?_⟩))
   go_ret2
   exact ⟨_, by first | rfl | (simp <;> rfl) | (simp [*] <;> rfl), by first | exact Kd.R_nil _ _ _ _ _ | exact Kd.N_nil _ _ _ _ _ | exact Kd.V_nil _ _ _ _ _ | exact Kd.Q_nil _ _ _ _ _ | exact Kd.S_nil _ _ _ _ _, bl_ HB⟩
def cmp_isNaN_uint64.f (a0 : Int) : Option (Bool) := some (a0 != a0)
set_option maxHeartbeats 8000000 in
set_option maxRecDepth 100000 in
theorem cmp_isNaN_uint64.calls (a0 : Int) (r : Bool) (w : World) (h : cmp_isNaN_uint64.f a0 = some r) :
   Calls Tryz.prog 77 #[.int .u64 a0] w fun e w' => e = .returned (.bool r) ∧ Drawn0 w w' := by
  have H : (some (a0 != a0)) = some r := h
  clear h
  obtain rfl := Option.some.inj H
  go_enter func77, ntmps77
  go_wp2
  go_ret
  exact ⟨by first | rfl | (simp; done) | (simp [*]; done), by repeat (first | exact Drawn0.refl _ | apply Drawn0.step)⟩
def cmp_Less_uint64.f (a0 : Int) (a1 : Int) : Option (Bool) := (cmp_isNaN_uint64.f a0).bind fun t158 => (if t158 = true then ((cmp_isNaN_uint64.f a1).bind fun t159 => (if t159 = true then (some (decide (a0 < a1))) else (some true))) else (some (decide (a0 < a1))))
set_option maxHeartbeats 8000000 in
set_option maxRecDepth 100000 in
theorem cmp_Less_uint64.calls (a0 : Int) (a1 : Int) (r : Bool) (w : World) (h : cmp_Less_uint64.f a0 a1 = some r) :
   Calls Tryz.prog 106 #[.int .u64 a0, .int .u64 a1] w fun e w' => e = .returned (.bool r) ∧ Drawn0 w w' := by
  have H : ((cmp_isNaN_uint64.f a0).bind fun t158 => (if t158 = true then ((cmp_isNaN_uint64.f a1).bind fun t159 => (if t159 = true then (some (decide (a0 < a1))) else (some true))) else (some (decide (a0 < a1))))) = some r := h
  clear h
  replace H := bind_eq_some_iff.mp H
  obtain ⟨t158, A30, H⟩ := H
  replace H : (if t158 = true then ((cmp_isNaN_uint64.f a1).bind fun t159 => (if t159 = true then (some (decide (a0 < a1))) else (some true))) else (some (decide (a0 < a1)))) = some r := H
  have A3 := ak_ A30
  clear A30
  by_cases c4 : t158 = true
  ·subst c4
   have H1 : ((cmp_isNaN_uint64.f a1).bind fun t159 => (if t159 = true then (some (decide (a0 < a1))) else (some true))) = some r := by rw [if_pos rfl] at H; exact H
   clear H
   have H := H1
   clear H1
   replace H := bind_eq_some_iff.mp H
   obtain ⟨t159, A50, H⟩ := H
   replace H : (if t159 = true then (some (decide (a0 < a1))) else (some true)) = some r := H
   have A5 := ak_ A50
   clear A50
   by_cases c6 : t159 = true
   ·subst c6
    have H1 : (some (decide (a0 < a1))) = some r := by rw [if_pos rfl] at H; exact H
    clear H
    have H := H1
    clear H1
    obtain rfl := Option.some.inj H
    go_enter func106, ntmps106
    go_wp2_with (first | ((with_reducible refine gate_callee (f := 77) rfl ?_); refine goesL_ (some 6) rfl rfl func77 (by kernel_rfl) rfl #[.int .u64 a0] rfl (by (try simp only [map_toArray, map_cons, map_nil]); first | done | rfl) ?_; (with_reducible refine (cmp_isNaN_uint64.calls a0 true _ A3.out).mono ?_); rintro e w' ⟨rfl, ⟨nd, rfl⟩⟩; refine ⟨_, rfl, ?_⟩) | (go_at_call 77; (with_reducible refine (cmp_isNaN_uint64.calls a1 true _ A5.out).mono ?_); rintro e w' ⟨rfl, ⟨nd, rfl⟩⟩))
    go_ret
    exact ⟨by first | rfl | (simp; done) | (simp [*]; done), by repeat (first | exact Drawn0.refl _ | apply Drawn0.step)⟩
   ·replace c6 := Bool.eq_false_iff.mpr c6
    subst c6
    have H1 : (some true) = some r := by rw [if_neg (show ¬ (false = true) by decide)] at H; exact H
    clear H
    have H := H1
    clear H1
    obtain rfl := Option.some.inj H
    go_enter func106, ntmps106
    go_wp2_with (first | ((with_reducible refine gate_callee (f := 77) rfl ?_); refine goesL_ (some 6) rfl rfl func77 (by kernel_rfl) rfl #[.int .u64 a0] rfl (by (try simp only [map_toArray, map_cons, map_nil]); first | done | rfl) ?_; (with_reducible refine (cmp_isNaN_uint64.calls a0 true _ A3.out).mono ?_); rintro e w' ⟨rfl, ⟨nd, rfl⟩⟩; refine ⟨_, rfl, ?_⟩) | (go_at_call 77; (with_reducible refine (cmp_isNaN_uint64.calls a1 false _ A5.out).mono ?_); rintro e w' ⟨rfl, ⟨nd, rfl⟩⟩))
    go_ret
    exact ⟨by first | rfl | (simp; done) | (simp [*]; done), by repeat (first | exact Drawn0.refl _ | apply Drawn0.step)⟩
  ·replace c4 := Bool.eq_false_iff.mpr c4
   subst c4
   have H1 : (some (decide (a0 < a1))) = some r := by rw [if_neg (show ¬ (false = true) by decide)] at H; exact H
   clear H
   have H := H1
   clear H1
   obtain rfl := Option.some.inj H
   go_enter func106, ntmps106
   go_wp2_with (first | ((with_reducible refine gate_callee (f := 77) rfl ?_); refine goesL_ (some 6) rfl rfl func77 (by kernel_rfl) rfl #[.int .u64 a0] rfl (by (try simp only [map_toArray, map_cons, map_nil]); first | done | rfl) ?_; (with_reducible refine (cmp_isNaN_uint64.calls a0 false _ A3.out).mono ?_); rintro e w' ⟨rfl, ⟨nd, rfl⟩⟩; refine ⟨_, rfl, ?_⟩))
   go_ret
   exact ⟨by first | rfl | (simp; done) | (simp [*]; done), by repeat (first | exact Drawn0.refl _ | apply Drawn0.step)⟩
def slices_isNaN_uint64.f (a0 : Int) : Option (Bool) := some (a0 != a0)
set_option maxHeartbeats 8000000 in
set_option maxRecDepth 100000 in
theorem slices_isNaN_uint64.calls (a0 : Int) (r : Bool) (w : World) (h : slices_isNaN_uint64.f a0 = some r) :
   Calls Tryz.prog 107 #[.int .u64 a0] w fun e w' => e = .returned (.bool r) ∧ Drawn0 w w' := by
  have H : (some (a0 != a0)) = some r := h
  clear h
  obtain rfl := Option.some.inj H
  go_enter func107, ntmps107
  go_wp2
  go_ret
  exact ⟨by first | rfl | (simp; done) | (simp [*]; done), by repeat (first | exact Drawn0.refl _ | apply Drawn0.step)⟩
def slices_BinarySearch_uint64_uint64.l0 : Nat → List Int → Int → Int → Int → Int → Option (Int × Bool)
  | 0, _, _, _, _, _ => none
  | k + 1, x0, x1, x6, x7, x8 => if x7 < x8 then (if 0 ≤ (wrap64 ((IntKind.u64.wrap (wrap64 (x7 + x8))) / 2)) then (if (wrap64 ((IntKind.u64.wrap (wrap64 (x7 + x8))) / 2)) < (x0.length : Int) then ((cmp_Less_uint64.f (rd x0 (wrap64 ((IntKind.u64.wrap (wrap64 (x7 + x8))) / 2))) x1).bind fun t161 => (if t161 = true then (slices_BinarySearch_uint64_uint64.l0 k x0 x1 x6 (wrap64 ((wrap64 ((IntKind.u64.wrap (wrap64 (x7 + x8))) / 2)) + 1)) x8) else (slices_BinarySearch_uint64_uint64.l0 k x0 x1 x6 x7 (wrap64 ((IntKind.u64.wrap (wrap64 (x7 + x8))) / 2))))) else (none)) else (none)) else (if x7 < x6 then (if 0 ≤ x7 then (if x7 < (x0.length : Int) then (if (rd x0 x7) = x1 then (some (x7, true)) else ((slices_isNaN_uint64.f (rd x0 x7)).bind fun t164 => (if t164 = true then ((slices_isNaN_uint64.f x1).bind fun t165 => (some (x7, t165))) else (some (x7, false))))) else (none)) else (none)) else (some (x7, false)))
def slices_BinarySearch_uint64_uint64.f (k : Nat) (l0 : List Int) (a1 : Int) : Option (Int × Bool) := slices_BinarySearch_uint64_uint64.l0 k l0 a1 (l0.length : Int) 0 (l0.length : Int)
set_option maxHeartbeats 8000000 in
set_option maxRecDepth 100000 in
theorem slices_BinarySearch_uint64_uint64.calls (k : Nat) (A0 : Option Addr) (c0 : Nat) (l0 : List Int) (a1 : Int) (r1 : Int) (r2 : Bool) (w : World) (hr0 : Kd.C (Kd.int .u64) w A0 l0.length l0) (hc0 : l0.length ≤ c0) (h : slices_BinarySearch_uint64_uint64.f k l0 a1 = some (r1, r2)) :
   Calls Tryz.prog 90 #[.slice A0 l0.length c0, .int .u64 a1] w fun e w' => e = .returned (.tuple #[.int .i64 r1, .bool r2]) ∧ Drawn0 w w' := by
  have HR0 := ak_ hr0
  have HC0 := ak_ hc0
  clear hr0 hc0
  have H : (slices_BinarySearch_uint64_uint64.l0 k l0 a1 (l0.length : Int) 0 (l0.length : Int)) = some (r1, r2) := h
  clear h
  have H' := ak_ H
  clear H
  go_enter func90, ntmps90
  go_wp2
  go_loopg [7, 8] k (fun kq v7 v8 w' => ∃ (x7_1 : Int) (x8_1 : Int), v7 = .int .i64 x7_1 ∧ v8 = .int .i64 x8_1 ∧ Aside0 (slices_BinarySearch_uint64_uint64.l0 kq l0 a1 (l0.length : Int) x7_1 x8_1 = some (r1, r2)) ∧ Aside0 (kq ≤ k) ∧ Drawn0 w w')
  case atStart => exact ⟨(0), ((l0.length : Int)), (by first | rfl | (simp; done) | (simp [*]; done)), (by first | rfl | (simp; done) | (simp [*]; done)), H', ⟨Nat.le_refl _⟩, by repeat (first | exact Drawn0.refl _ | apply Drawn0.step)⟩
  case round =>
   clear H'
   try clear p2
   obtain ⟨x7_1, x8_1, rfl, rfl, HA, HK1, ⟨m1, rfl⟩⟩ := hrel
   cases gk with
   | zero => exact absurd HA.out (by simp [slices_BinarySearch_uint64_uint64.l0])
   | succ k1 =>
    have H := HA.out
    clear HA
    simp only [slices_BinarySearch_uint64_uint64.l0] at H
    by_cases c3 : x7_1 < x8_1
    ·rw [if_pos c3] at H
     have c3b0 := decide_eq_true c3
     clear c3
     obtain ⟨ji4, hji4⟩ : ∃ j_ : Int, (wrap64 ((IntKind.u64.wrap (wrap64 (x7_1 + x8_1))) / 2)) = j_ := ⟨_, rfl⟩
     replace H : (if 0 ≤ (ji4) then (if (ji4) < (l0.length : Int) then ((cmp_Less_uint64.f (rd l0 (ji4)) a1).bind fun t161 => (if t161 = true then (slices_BinarySearch_uint64_uint64.l0 k1 l0 a1 (l0.length : Int) (wrap64 ((ji4) + 1)) x8_1) else (slices_BinarySearch_uint64_uint64.l0 k1 l0 a1 (l0.length : Int) x7_1 ji4))) else (none)) else (none)) = some (r1, r2) := by first | (rw [hji4] at H; exact H) | (simp only [hji4] at H ⊢; exact H)
     have hji4w : (IntKind.i64.wrap ((IntKind.u64.wrap (wrap64 (x7_1 + x8_1))) / 2)) = ji4 := (i64_w _).trans hji4
     by_cases c5 : 0 ≤ (ji4)
     ·rw [if_pos c5] at H
      have c5b0 := decide_eq_true c5
      clear c5
      by_cases c6 : (ji4) < (l0.length : Int)
      ·rw [if_pos c6] at H
       have c6b0 := decide_eq_true c6
       clear c6
       replace H := bind_eq_some_iff.mp H
       obtain ⟨t161, A70, H⟩ := H
       replace H : (if t161 = true then (slices_BinarySearch_uint64_uint64.l0 k1 l0 a1 (l0.length : Int) (wrap64 ((ji4) + 1)) x8_1) else (slices_BinarySearch_uint64_uint64.l0 k1 l0 a1 (l0.length : Int) x7_1 ji4)) = some (r1, r2) := H
       have A7 := ak_ A70
       clear A70
       by_cases c8 : t161 = true
       ·subst c8
        have H1 : (slices_BinarySearch_uint64_uint64.l0 k1 l0 a1 (l0.length : Int) (wrap64 ((ji4) + 1)) x8_1) = some (r1, r2) := by rw [if_pos rfl] at H; exact H
        clear H
        have H := H1
        clear H1
        have H' := ak_ H
        clear H
        have p160 : 0 ≤ ((ji4) : Int) := od_ (by first | (with_reducible assumption) | assumption)
        have q160 : (ji4) < (l0.length : Int) := od_ (by first | (with_reducible assumption) | assumption)
        obtain ⟨ad160, e160, hx160_0⟩ := Kd.at_int HR0.out (ji4) p160 q160
        cases e160
        replace p160 := eq_true p160
        replace q160 := eq_true q160
        go_wp2_with (first | ((with_reducible refine gate_callee (f := 106) rfl ?_); refine goesL_ (some 27) rfl rfl func106 (by kernel_rfl) rfl #[.int .u64 (rd l0 (ji4)), .int .u64 a1] rfl (by (try simp only [map_toArray, map_cons, map_nil]); first | done | (simp only [hji4]; rfl) | rfl | (simp only [length_drop, length_take]; rfl)) ?_; (with_reducible refine (cmp_Less_uint64.calls (rd l0 (ji4)) a1 true _ A7.out).mono ?_); rintro e w' ⟨rfl, ⟨nd, rfl⟩⟩; refine ⟨_, rfl, ?_⟩))
        go_roundg k1
        case measure => have := HK1.out; omega
        case rel => exact ⟨(wrap64 ((ji4) + 1)), (x8_1), (by first | rfl | (simp; done) | (simp only [← hji4] <;> (first | rfl | simp)) | (simp [*]; done)), (by first | rfl | (simp; done) | (simp [*]; done)), H', ⟨by have := HK1.out; omega⟩, by repeat (first | exact Drawn0.refl _ | apply Drawn0.step)⟩
       ·replace c8 := Bool.eq_false_iff.mpr c8
        subst c8
        have H1 : (slices_BinarySearch_uint64_uint64.l0 k1 l0 a1 (l0.length : Int) x7_1 ji4) = some (r1, r2) := by rw [if_neg (show ¬ (false = true) by decide)] at H; exact H
        clear H
        have H := H1
        clear H1
        have H' := ak_ H
        clear H
        have p160 : 0 ≤ ((ji4) : Int) := od_ (by first | (with_reducible assumption) | assumption)
        have q160 : (ji4) < (l0.length : Int) := od_ (by first | (with_reducible assumption) | assumption)
        obtain ⟨ad160, e160, hx160_0⟩ := Kd.at_int HR0.out (ji4) p160 q160
        cases e160
        replace p160 := eq_true p160
        replace q160 := eq_true q160
        go_wp2_with (first | ((with_reducible refine gate_callee (f := 106) rfl ?_); refine goesL_ (some 27) rfl rfl func106 (by kernel_rfl) rfl #[.int .u64 (rd l0 (ji4)), .int .u64 a1] rfl (by (try simp only [map_toArray, map_cons, map_nil]); first | done | (simp only [hji4]; rfl) | rfl | (simp only [length_drop, length_take]; rfl)) ?_; (with_reducible refine (cmp_Less_uint64.calls (rd l0 (ji4)) a1 false _ A7.out).mono ?_); rintro e w' ⟨rfl, ⟨nd, rfl⟩⟩; refine ⟨_, rfl, ?_⟩))
        go_roundg k1
        case measure => have := HK1.out; omega
        case rel => exact ⟨(x7_1), (ji4), (by first | rfl | (simp; done) | (simp [*]; done)), (by first | rfl | (simp; done) | (simp only [← hji4] <;> (first | rfl | simp)) | (simp [*]; done)), H', ⟨by have := HK1.out; omega⟩, by repeat (first | exact Drawn0.refl _ | apply Drawn0.step)⟩
      ·rw [if_neg c6] at H
       exact absurd H (by simp)
     ·rw [if_neg c5] at H
      exact absurd H (by simp)
    ·rw [if_neg c3] at H
     have c3b0 := decide_eq_false c3
     clear c3
     by_cases c9 : x7_1 < (l0.length : Int)
     ·rw [if_pos c9] at H
      have c9b0 := decide_eq_true c9
      clear c9
      by_cases c10 : 0 ≤ x7_1
      ·rw [if_pos c10] at H
       have c10b0 := decide_eq_true c10
       clear c10
       by_cases c11 : x7_1 < (l0.length : Int)
       ·rw [if_pos c11] at H
        have c11b0 := decide_eq_true c11
        clear c11
        by_cases c12 : (rd l0 x7_1) = a1
        ·rw [if_pos c12] at H
         have c12b0 : ((rd l0 x7_1) == a1) = true := beq_iff_eq.mpr c12
         have c12b1 : ((rd l0 x7_1) != a1) = false := bne_eq_false_iff_eq.mpr c12
         clear c12
         simp only [some.injEq, Prod.mk.injEq] at H
         obtain ⟨rfl, rfl⟩ := H
         have p162 : 0 ≤ (x7_1 : Int) := od_ (by first | (with_reducible assumption) | assumption)
         have q162 : x7_1 < (l0.length : Int) := od_ (by first | (with_reducible assumption) | assumption)
         obtain ⟨ad162, e162, hx162_0⟩ := Kd.at_int HR0.out x7_1 p162 q162
         cases e162
         replace p162 := eq_true p162
         replace q162 := eq_true q162
         go_wp2
         go_ret2
         exact ⟨by first | rfl | (simp; done) | (simp [*]; done), by repeat (first | exact Drawn0.refl _ | apply Drawn0.step)⟩
        ·rw [if_neg c12] at H
         have c12b0 : ((rd l0 x7_1) == a1) = false := beq_eq_false_iff_ne.mpr c12
         have c12b1 : ((rd l0 x7_1) != a1) = true := bne_iff_ne.mpr c12
         replace H := bind_eq_some_iff.mp H
         obtain ⟨t164, A130, H⟩ := H
         replace H : (if t164 = true then ((slices_isNaN_uint64.f a1).bind fun t165 => (some (x7_1, t165))) else (some (x7_1, false))) = some (r1, r2) := H
         have A13 := ak_ A130
         clear A130
         by_cases c14 : t164 = true
         ·subst c14
          have H1 : ((slices_isNaN_uint64.f a1).bind fun t165 => (some (x7_1, t165))) = some (r1, r2) := by rw [if_pos rfl] at H; exact H
          clear H
          have H := H1
          clear H1
          replace H := bind_eq_some_iff.mp H
          obtain ⟨t165, A150, H⟩ := H
          replace H : (some (x7_1, t165)) = some (r1, r2) := H
          have A15 := ak_ A150
          clear A150
          simp only [some.injEq, Prod.mk.injEq] at H
          obtain ⟨rfl, rfl⟩ := H
          have p162 : 0 ≤ (x7_1 : Int) := od_ (by first | (with_reducible assumption) | assumption)
          have q162 : x7_1 < (l0.length : Int) := od_ (by first | (with_reducible assumption) | assumption)
          obtain ⟨ad162, e162, hx162_0⟩ := Kd.at_int HR0.out x7_1 p162 q162
          cases e162
          replace p162 := eq_true p162
          replace q162 := eq_true q162
          have p163 : 0 ≤ (x7_1 : Int) := od_ (by first | (with_reducible assumption) | assumption)
          have q163 : x7_1 < (l0.length : Int) := od_ (by first | (with_reducible assumption) | assumption)
          obtain ⟨ad163, e163, hx163_0⟩ := Kd.at_int HR0.out x7_1 p163 q163
          obtain rfl : ad162 = ad163 := (by injection e163)
          replace p163 := eq_true p163
          replace q163 := eq_true q163
          go_wp2_with (first | (go_at_call 107; (with_reducible refine (slices_isNaN_uint64.calls (rd l0 x7_1) true _ A13.out).mono ?_); rintro e w' ⟨rfl, ⟨nd, rfl⟩⟩) | (go_at_call 107; (with_reducible refine (slices_isNaN_uint64.calls a1 t165 _ A15.out).mono ?_); rintro e w' ⟨rfl, ⟨nd, rfl⟩⟩))
          go_ret2
          exact ⟨by first | rfl | (simp; done) | (simp [*]; done), by repeat (first | exact Drawn0.refl _ | apply Drawn0.step)⟩
         ·replace c14 := Bool.eq_false_iff.mpr c14
          subst c14
          have H1 : (some (x7_1, false)) = some (r1, r2) := by rw [if_neg (show ¬ (false = true) by decide)] at H; exact H
          clear H
          have H := H1
          clear H1
          simp only [some.injEq, Prod.mk.injEq] at H
          obtain ⟨rfl, rfl⟩ := H
          have p162 : 0 ≤ (x7_1 : Int) := od_ (by first | (with_reducible assumption) | assumption)
          have q162 : x7_1 < (l0.length : Int) := od_ (by first | (with_reducible assumption) | assumption)
          obtain ⟨ad162, e162, hx162_0⟩ := Kd.at_int HR0.out x7_1 p162 q162
          cases e162
          replace p162 := eq_true p162
          replace q162 := eq_true q162
          have p163 : 0 ≤ (x7_1 : Int) := od_ (by first | (with_reducible assumption) | assumption)
          have q163 : x7_1 < (l0.length : Int) := od_ (by first | (with_reducible assumption) | assumption)
          obtain ⟨ad163, e163, hx163_0⟩ := Kd.at_int HR0.out x7_1 p163 q163
          obtain rfl : ad162 = ad163 := (by injection e163)
          replace p163 := eq_true p163
          replace q163 := eq_true q163
          go_wp2_with (first | (go_at_call 107; (with_reducible refine (slices_isNaN_uint64.calls (rd l0 x7_1) false _ A13.out).mono ?_); rintro e w' ⟨rfl, ⟨nd, rfl⟩⟩))
          go_ret2
          exact ⟨by first | rfl | (simp; done) | (simp [*]; done), by repeat (first | exact Drawn0.refl _ | apply Drawn0.step)⟩
       ·rw [if_neg c11] at H
        exact absurd H (by simp)
      ·rw [if_neg c10] at H
       exact absurd H (by simp)
     ·rw [if_neg c9] at H
      have c9b0 := decide_eq_false c9
      clear c9
      simp only [some.injEq, Prod.mk.injEq] at H
      obtain ⟨rfl, rfl⟩ := H
      go_wp2
      go_ret2
      exact ⟨by first | rfl | (simp; done) | (simp [*]; done), by repeat (first | exact Drawn0.refl _ | apply Drawn0.step)⟩
theorem box_grown {W w1 : World} {g : Nat} {o : Obj} {row : Option Nat} (h : W.heap[g]? = some o) (hg : W.grownBy w1 row) (hne : some g ≠ row) : w1.heap[g]? = some o := (hg.5 g (blk_lt h) (by first | exact hne | exact fun e => hne e.symm)).trans h
theorem box_drewN {W : World} {g : Nat} {o : Obj} (h : W.heap[g]? = some o) (n : Nat) : (W.drewN n).heap[g]? = some o := h
theorem box_drew {W : World} {g : Nat} {o : Obj} (h : W.heap[g]? = some o) : W.drew.heap[g]? = some o := h
theorem box_alloc {W : World} {g : Nat} {o : Obj} (h : W.heap[g]? = some o) (o' : Obj) : (W.alloc o').heap[g]? = some o := kb_ h (ba_ (Below.refl _ _) o')
theorem R_tell {e base b T : Nat} {ok : Nat → Prop} {W W1 : World} {u v v' : Value} {xs : List Int} {cs : Array Value} (h : Kd.R (Kd.int .u64) e W base ok u xs) (hx : W.heap[b]? = some (.cells cs T (0, 0))) (hT : e ≠ T) (hok : ∀ k_, ok k_ → some k_ ≠ v.ownBlock) (hkp : Kept W W1 (fun k_ => k_ = b ∨ some k_ = v.ownBlock))
   (hv' : ∀ k_, v'.ownBlock = some k_ → (some k_ = v.ownBlock ∨ W.heap.size ≤ k_)) : Kd.R (Kd.int .u64) e W1 base (fun k_ => some k_ ≠ v'.ownBlock) u xs := by
  refine Kd.R_mono (Kd.R_keptB (Kd.R_bound h) hkp ?_) ?_
  ·rintro k_ ⟨hk, _, _, q, hq, cells, hc⟩ (rfl | hs)
   ·rw [hx] at hc
    simp only [some.injEq, Obj.cells.injEq] at hc
    simp [Kd.int, Kd.scalar] at hq
    exact hT (hq.symm.trans hc.2.1.symm)
   ·exact hok k_ hk hs
  ·rintro k_ ⟨⟨hk, _⟩, _, hlt⟩ e'
   rcases hv' k_ e'.symm with h1 | h1
   ·exact hok k_ hk h1
   ·omega
theorem R_told {e e' base base' : Nat} {ok : Nat → Prop} {W W1 : World} {u v v' : Value} {xs ys : List Int} (h : Kd.R (Kd.int .u64) e' W base' ok u ys) (hok : ∀ k_, ok k_ → some k_ ≠ v.ownBlock) (ho : Kd.R (Kd.int .u64) e W1 base (fun k_ => some k_ = v.ownBlock ∨ W.heap.size ≤ k_) v' xs) : Kd.R (Kd.int .u64) e W1 base (fun k_ => some k_ ≠ u.ownBlock) v' xs := by
  refine Kd.R_mono ho ?_
  rintro k_ hk e2
  have h1 := h.1 k_ e2.symm
  have h2 := Kd.R_lt h k_ e2.symm
  rcases hk with h3 | h3
  ·exact hok k_ h1 h3
  ·omega
theorem goesC_ {P : Program} {ops : Array Oper} {Q : Exit → Act → World → Prop} {rest : List Oper} {oi : Oper} {a : Act} {w : World} (N : Option Tmp) (hd : oi.dst = N) (hg : oi.guard = none) {f : FuncId} {caps : Array Value} {x : Operand} {fn : Func} {xs_ : Array Operand} {ts : Array TypeId} (hf : P.funcs[f]? = some fn) (hname : (fn.name == "runtime.NumGoroutine") = false) (hb : fn.body.isSome = true) (args : Array Value)
   (hop : oi.op = .call { callee := .value x, args := xs_, argTypes := ts }) (hx : a.eval x = .func (.func f) #[] caps) (hargs : xs_.map a.eval = args)
   (h : Calls P f (args ++ caps) w fun e w' => ∃ v, e = .returned v ∧ wpList P ops Q rest (a.put N v) w') : wpList P ops Q (oi :: rest) a w := by
  refine wpList_plain hg fun K hK => ?_
  have he := enters_ hf hname hb (args ++ caps) w
  have hrun : (execOp a.eval oi).run P w = .ok (.enter f (args ++ caps)) w := by
   unfold execOp
   simp [hop, resolve, Deferred.ofValue, invoke, hx, hargs, he]
  unfold Oper.wp
  rw [hrun, Oper.upon_enter]
  refine h.mono fun e w'' hh => ?_
  obtain ⟨v, rfl, hk⟩ := hh
  subst hd
  exact hK _ _ hk
theorem gate_closure {P : Program} {ops : Array Oper} {Q : Exit → Act → World → Prop} {rest : List Oper} {o : Oper} {a : Act} {W : World} {x : Operand} {xs_ : Array Operand} {ts : Array TypeId} (_ho : o.op = .call { callee := .value x, args := xs_, argTypes := ts }) (h : wpList P ops Q (o :: rest) a W) : wpList P ops Q (o :: rest) a W := h
mutual
def steiner_children.l0 (step : Nat → List Int → Int → List Int → Option (List Int)) : Nat → Int → List Int → Int → List Int → Option (List Int × Int)
  | 0, _, _, _, _ => none
  | k + 1, x0, x7, x28, x62 => if x28 < (x7.length : Int) then (if 0 ≤ x28 then (steiner_children.l1 step k x0 x7 (rd x7 x28) ([] : List Int) x28 0 x62) else none) else (some (x62, 0))
def steiner_children.l1 (step : Nat → List Int → Int → List Int → Option (List Int)) : Nat → Int → List Int → Int → List Int → Int → Int → List Int → Option (List Int × Int)
  | 0, _, _, _, _, _, _, _ => none
  | k + 1, x0, x7, x10, x11, x28, x32, x62 => if x32 < 2 then ((node_Child.f k x0 x10 x32).bind fun bt173 => (if bt173.2 = 0 then ((slices_BinarySearch_uint64_uint64.f k x7 bt173.1).bind fun bt175 => (if bt175.2 = true then (steiner_children.l1 step k x0 x7 x10 x11 x28 (wrap64 (x32 + 1)) x62) else (if x11.length < 17592186044416 then (steiner_children.l1 step k x0 x7 x10 (x11 ++ [bt173.1]) x28 (wrap64 (x32 + 1)) x62) else (none)))) else ((step k x62 x10 x11).bind fun y => steiner_children.l0 step k x0 x7 (wrap64 (x28 + 1)) y))) else ((step k x62 x10 x11).bind fun y => steiner_children.l0 step k x0 x7 (wrap64 (x28 + 1)) y)
end
def steiner_children.f (step : Nat → List Int → Int → List Int → Option (List Int)) (k : Nat) (a0 : Int) (l1 : List Int) : Option (List Int × Int) := (steiner_tree.f k a0 l1).bind fun bt165 => (if bt165.2 = 0 then (steiner_children.l0 step k a0 bt165.1 0 ([] : List Int)) else (some (([] : List Int), bt165.2)))
set_option maxHeartbeats 8000000 in
set_option maxRecDepth 100000 in
theorem steiner_children.calls (step : Nat → List Int → Int → List Int → Option (List Int)) (k : Nat) (a0 : Int) (A1 : Option Addr) (c1 : Nat) (l1 : List Int) (r1 : List Int) (r2 : Int) (w : World) (hr1 : Kd.C (Kd.int .u64) w A1 l1.length l1) (hc1 : l1.length ≤ c1)
   (g : Nat) (fn : Func) (caps : Array Value) (b : Nat) (hf : Tryz.prog.funcs[g]? = some fn) (hname : (fn.name == "runtime.NumGoroutine") = false) (hbody : fn.body.isSome = true)
   (hx : w.heap[b]? = some (.cells #[.slice none 0 0] 22 (0, 0)))
   (hstep : ∀ (k : Nat) (W : World) (v : Value) (x : List Int) (n : Int) (A : Option Addr) (c : Nat) (y x' : List Int), Below b w W → W.heap[b]? = some (.cells #[v] 22 (0, 0)) → Kd.R (Kd.int .u64) 23 W b (fun _ => True) v x → Kd.C (Kd.int .u64) W A y.length y → y.length ≤ c → step k x n y = some x' →
    Calls Tryz.prog g (#[.int .u64 n, .slice A y.length c] ++ caps) W fun e W' => e = .returned (.tuple #[]) ∧ ∃ v' : Value, W'.heap[b]? = some (.cells #[v'] 22 (0, 0)) ∧ Kd.R (Kd.int .u64) 23 W' b (fun k_ => some k_ = v.ownBlock ∨ W.heap.size ≤ k_) v' x' ∧ Below b w W' ∧ Kept W W' (fun k_ => k_ = b ∨ some k_ = v.ownBlock))
   (h : steiner_children.f step k a0 l1 = some (r1, r2)) :
   Calls Tryz.prog 68 #[.int .i64 a0, .slice A1 l1.length c1, .func (.func g) #[] caps] w fun e w' => e = .returned (.int .i64 r2) ∧ ∃ v0_ : Value, w'.heap[b]? = some (.cells #[v0_] 22 (0, 0)) ∧ Kd.R (Kd.int .u64) 23 w' b (fun _ => True) v0_ r1 ∧ Below b w w' := by
  have HR1 := ak_ hr1
  have HC1 := ak_ hc1
  have HX := ak_ hx
  have HST := ak_ hstep
  have HF := ak_ hf
  have HN := ak_ hname
  have HBO := ak_ hbody
  clear hr1 hc1 hx hstep hf hname hbody
  have HB := ak_ (Below.refl b w)
  have H : ((steiner_tree.f k a0 l1).bind fun bt165 => (if bt165.2 = 0 then (steiner_children.l0 step k a0 bt165.1 0 ([] : List Int)) else (some (([] : List Int), bt165.2)))) = some (r1, r2) := h
  clear h
  replace H := bind_eq_some_iff.mp H
  obtain ⟨⟨t, t166⟩, A30, H⟩ := H
  replace H : (if t166 = 0 then (steiner_children.l0 step k a0 t 0 ([] : List Int)) else (some (([] : List Int), t166))) = some (r1, r2) := H
  have A3 := ak_ A30
  clear A30
  by_cases c4 : t166 = 0
  ·rw [if_pos c4] at H
   have c4b0 : (t166 == 0) = true := beq_iff_eq.mpr c4
   have c4b1 : (t166 != 0) = false := bne_eq_false_iff_eq.mpr c4
   clear c4
   have H' := ak_ H
   clear H
   go_enter func68, ntmps68
   go_wp2_with (first | ((with_reducible refine gate_callee (f := 89) rfl ?_); refine goesL_ (some 20) rfl rfl func89 (by kernel_rfl) rfl #[.int .i64 a0, .slice A1 l1.length c1] rfl (by (try simp only [map_toArray, map_cons, map_nil]); first | done | rfl) ?_; (with_reducible refine (steiner_tree.calls k a0 _ _ l1 t t166 _ HR1.out HC1.out A3.out).mono ?_); rintro e w5 ⟨v167, rfl, ho0, hb⟩; refine ⟨_, rfl, ?_⟩; have HX2 := ak_ (kb_ HX.out hb); have n0_ := ak_ (Kd.R_lower ho0 (Nat.le_of_lt (blk_lt HX.out))); have n1_ := ak_ (below_then HB.out (Nat.le_of_lt (blk_lt HX.out)) hb); clear HB HX; have HX := HX2; have HO168 := n0_; have HB := n1_; clear n0_ n1_ HX2; (try clear hb); (try clear ho0); obtain ⟨Ao6, co6, eo6⟩ := Kd.R_slice HO168.out; subst eo6))
   go_loopg [28] k (fun kq v28 w' => ∃ (x28_1 : Int) (x62_1 : List Int) (u62 : Value), v28 = .int .i64 x28_1 ∧ Aside0 (steiner_children.l0 step kq a0 t x28_1 x62_1 = some (r1, r2)) ∧ Aside0 (kq ≤ k) ∧ Aside0 (Kd.R (Kd.int .u64) 23 w' b (fun k_ => some k_ ≠ (u62 : Value).ownBlock) (.slice Ao6 t.length co6) t) ∧ Aside0 (Kd.R (Kd.int .u64) 23 w' b (fun k_ => some k_ ≠ ((.slice Ao6 t.length co6) : Value).ownBlock) u62 x62_1) ∧ Aside0 (w'.heap[b]? = some (.cells #[u62] 22 (0, 0))) ∧ Aside0 (Below b w w'))
   case atStart => exact ⟨(0), (([] : List Int)), .slice none 0 0, (by first | rfl | (simp; done) | (simp [*]; done)), H', ⟨Nat.le_refl _⟩, ⟨by (with_reducible repeat (first | apply Kd.R_alloc | apply Kd.R_drewN | apply Kd.R_drew)); exact Kd.R_mono HO168.out (fun _ hk => (by simp [Value.ownBlock]))⟩, ⟨Kd.R_nil _ _ _ _ _⟩, ⟨by first | exact HX.out | (with_reducible repeat (first | apply box_alloc | apply box_drewN | apply box_drew)); exact HX.out⟩, ⟨by repeat (first | (with_reducible first | exact HB.out | apply ba_ | apply bn_ | apply bd_) | exact HB.out)⟩⟩
   case round =>
    clear H' HX
    try clear c4b0
    try clear c4b1
    obtain ⟨x28_1, x62_1, u62, rfl, HA, HK1, HO_7, HO_62, HX, HB⟩ := hrel
    cases gk with
    | zero => exact absurd HA.out (by simp [steiner_children.l0])
    | succ k1 =>
     have H := HA.out
     clear HA
     simp only [steiner_children.l0] at H
     by_cases c7 : x28_1 < (t.length : Int)
     ·rw [if_pos c7] at H
      have c7b0 := decide_eq_true c7
      clear c7
      by_cases c8 : 0 ≤ x28_1
      ·rw [if_pos c8] at H
       have c8b0 := decide_eq_true c8
       clear c8
       have H' := ak_ H
       clear H
       have p169 : 0 ≤ (x28_1 : Int) := od_ (by first | (with_reducible assumption) | assumption)
       have q169 : x28_1 < (t.length : Int) := od_ (by first | (with_reducible assumption) | assumption)
       obtain ⟨ad, e169, hx169_0⟩ := Kd.at_int (Kd.R_reads' HO_7.out).2.2 x28_1 p169 q169
       cases e169
       replace p169 := eq_true p169
       replace q169 := eq_true q169
       go_wp2
       go_loopg [11, 32] k1 (fun kq v11 v32 w' => ∃ (x11_2 : List Int) (x32_2 : Int), v32 = .int .i64 x32_2 ∧ Aside0 (steiner_children.l1 step kq a0 t (rd t x28_1) x11_2 x28_1 x32_2 x62_1 = some (r1, r2)) ∧ Aside0 (kq ≤ k1) ∧ Aside0 (Kd.R (Kd.int .u64) 23 w' b (fun k_ => some k_ ≠ (v11 : Value).ownBlock ∧ some k_ ≠ (u62 : Value).ownBlock) (.slice (some ad) t.length co6) t) ∧ Aside0 (Kd.R (Kd.int .u64) 23 w' b (fun k_ => some k_ ≠ ((.slice (some ad) t.length co6) : Value).ownBlock ∧ some k_ ≠ (u62 : Value).ownBlock) v11 x11_2) ∧ Aside0 (Kd.R (Kd.int .u64) 23 w' b (fun k_ => some k_ ≠ ((.slice (some ad) t.length co6) : Value).ownBlock ∧ some k_ ≠ (v11 : Value).ownBlock) u62 x62_1) ∧ Aside0 (w'.heap[b]? = some (.cells #[u62] 22 (0, 0))) ∧ Aside0 (Below b w w'))
       case atStart => exact ⟨(([] : List Int)), (0), (by first | rfl | (simp; done) | (simp [*]; done)), H', ⟨Nat.le_refl _⟩, ⟨by (with_reducible repeat (first | apply Kd.R_alloc | apply Kd.R_drewN | apply Kd.R_drew)); exact Kd.R_mono HO_7.out (fun _ hk => ⟨(by simp [Value.ownBlock]), hk⟩)⟩, ⟨Kd.R_nil _ _ _ _ _⟩, ⟨by (with_reducible repeat (first | apply Kd.R_alloc | apply Kd.R_drewN | apply Kd.R_drew)); exact Kd.R_mono HO_62.out (fun _ hk => ⟨hk, (by simp [Value.ownBlock])⟩)⟩, ⟨by first | exact HX.out | (with_reducible repeat (first | apply box_alloc | apply box_drewN | apply box_drew)); exact HX.out⟩, ⟨by repeat (first | (with_reducible first | exact HB.out | apply ba_ | apply bn_ | apply bd_) | exact HB.out)⟩⟩
       case round =>
        clear H' HX
        try clear c7b0
        try clear c8b0
        try clear hx169_0
        try clear p169
        try clear q169
        obtain ⟨x11_2, x32_2, rfl, HA, HK2, HO_7, HO_11, HO_62, HX, HB⟩ := hrel
        cases gk with
        | zero => exact absurd HA.out (by simp [steiner_children.l1])
        | succ k2 =>
         have H := HA.out
         clear HA
         simp only [steiner_children.l1] at H
         by_cases c10 : x32_2 < 2
         ·rw [if_pos c10] at H
          have c10b0 := decide_eq_true c10
          clear c10
          replace H := bind_eq_some_iff.mp H
          obtain ⟨⟨t173, t174⟩, A110, H⟩ := H
          replace H : (if t174 = 0 then ((slices_BinarySearch_uint64_uint64.f k2 t t173).bind fun bt175 => (if bt175.2 = true then (steiner_children.l1 step k2 a0 t (rd t x28_1) x11_2 x28_1 (wrap64 (x32_2 + 1)) x62_1) else (if x11_2.length < 17592186044416 then (steiner_children.l1 step k2 a0 t (rd t x28_1) (x11_2 ++ [t173]) x28_1 (wrap64 (x32_2 + 1)) x62_1) else (none)))) else ((step k2 x62_1 (rd t x28_1) x11_2).bind fun y => steiner_children.l0 step k2 a0 t (wrap64 (x28_1 + 1)) y)) = some (r1, r2) := H
          have A11 := ak_ A110
          clear A110
          by_cases c12 : t174 = 0
          ·rw [if_pos c12] at H
           have c12b0 : (t174 == 0) = true := beq_iff_eq.mpr c12
           have c12b1 : (t174 != 0) = false := bne_eq_false_iff_eq.mpr c12
           clear c12
           replace H := bind_eq_some_iff.mp H
           obtain ⟨⟨t175, t176⟩, A130, H⟩ := H
           replace H : (if t176 = true then (steiner_children.l1 step k2 a0 t (rd t x28_1) x11_2 x28_1 (wrap64 (x32_2 + 1)) x62_1) else (if x11_2.length < 17592186044416 then (steiner_children.l1 step k2 a0 t (rd t x28_1) (x11_2 ++ [t173]) x28_1 (wrap64 (x32_2 + 1)) x62_1) else (none))) = some (r1, r2) := H
           have A13 := ak_ A130
           clear A130
           by_cases c14 : t176 = true
           ·subst c14
            have H1 : (steiner_children.l1 step k2 a0 t (rd t x28_1) x11_2 x28_1 (wrap64 (x32_2 + 1)) x62_1) = some (r1, r2) := by rw [if_pos rfl] at H; exact H
            clear H
            have H' := ak_ H1
            clear H1
            go_wp2_with (first | ((with_reducible refine gate_callee (f := 72) rfl ?_); refine goesL_ (some 39) rfl rfl func72 (by kernel_rfl) rfl #[.int .i64 a0, .int .u64 (rd t x28_1), .int .i64 x32_2] rfl (by (try simp only [map_toArray, map_cons, map_nil]); first | done | rfl) ?_; (with_reducible refine (node_Child.calls k2 a0 (rd t x28_1) x32_2 t173 t174 _ A11.out).mono ?_); rintro e w' ⟨rfl, ⟨nd, rfl⟩⟩; refine ⟨_, rfl, ?_⟩) | ((with_reducible refine gate_callee (f := 90) rfl ?_); refine goesL_ (some 47) rfl rfl func90 (by kernel_rfl) rfl #[.slice (some ad) t.length co6, .int .u64 t173] rfl (by (try simp only [map_toArray, map_cons, map_nil]); first | done | rfl) ?_; (with_reducible refine (slices_BinarySearch_uint64_uint64.calls k2 _ _ t t173 t175 _ _ ?side1 ?side2 A13.out).mono ?_); (case side1 => repeat (first | exact (Kd.R_reads' HO_7.out).2.2 | (with_reducible refine Kd.C_alloc ?_ _) | (with_reducible refine Kd.C_drewN ?_ _) | (with_reducible refine Kd.C_drew ?_))); (case side2 => exact (Kd.R_reads' HO_7.out).2.1); rintro e w' ⟨rfl, ⟨nd, rfl⟩⟩; refine ⟨_, rfl, ?_⟩))
            go_roundg k2
            case measure => have := HK1.out; have := HK2.out; omega
            case rel => exact ⟨(x11_2), (wrap64 (x32_2 + 1)), (by first | rfl | (simp; done) | (simp [*]; done)), H', ⟨by have := HK1.out; have := HK2.out; omega⟩, ⟨(by (with_reducible repeat (first | apply Kd.R_alloc | apply Kd.R_drewN | apply Kd.R_drew)); exact HO_7.out)⟩, ⟨(by (with_reducible repeat (first | apply Kd.R_alloc | apply Kd.R_drewN | apply Kd.R_drew)); exact HO_11.out)⟩, ⟨(by (with_reducible repeat (first | apply Kd.R_alloc | apply Kd.R_drewN | apply Kd.R_drew)); exact HO_62.out)⟩, ⟨by first | exact HX.out | (with_reducible repeat (first | apply box_alloc | apply box_drewN | apply box_drew)); exact HX.out⟩, ⟨by repeat (first | (with_reducible first | exact HB.out | apply ba_ | apply bn_ | apply bd_) | exact HB.out)⟩⟩
           ·have c14b := Bool.eq_false_iff.2 c14
            rw [if_neg c14] at H
            subst c14b
            clear c14
            by_cases c15 : x11_2.length < 17592186044416
            ·rw [if_pos c15] at H
             have LMc15 := ak_ c15
             clear c15
             have H' := ak_ H
             clear H
             go_wp2_with (first | ((with_reducible refine gate_callee (f := 72) rfl ?_); refine goesL_ (some 39) rfl rfl func72 (by kernel_rfl) rfl #[.int .i64 a0, .int .u64 (rd t x28_1), .int .i64 x32_2] rfl (by (try simp only [map_toArray, map_cons, map_nil]); first | done | rfl) ?_; (with_reducible refine (node_Child.calls k2 a0 (rd t x28_1) x32_2 t173 t174 _ A11.out).mono ?_); rintro e w' ⟨rfl, ⟨nd, rfl⟩⟩; refine ⟨_, rfl, ?_⟩) | ((with_reducible refine gate_callee (f := 90) rfl ?_); refine goesL_ (some 47) rfl rfl func90 (by kernel_rfl) rfl #[.slice (some ad) t.length co6, .int .u64 t173] rfl (by (try simp only [map_toArray, map_cons, map_nil]); first | done | rfl) ?_; (with_reducible refine (slices_BinarySearch_uint64_uint64.calls k2 _ _ t t173 t175 _ _ ?side1 ?side2 A13.out).mono ?_); (case side1 => repeat (first | exact (Kd.R_reads' HO_7.out).2.2 | (with_reducible refine Kd.C_alloc ?_ _) | (with_reducible refine Kd.C_drewN ?_ _) | (with_reducible refine Kd.C_drew ?_))); (case side2 => exact (Kd.R_reads' HO_7.out).2.1); rintro e w' ⟨rfl, ⟨nd, rfl⟩⟩; refine ⟨_, rfl, ?_⟩) | ((with_reducible refine gate_builtin (b := .append) (xs := #[.tmp 52, .tmp 54]) rfl ?_); at_builtin; refine Kd.R_append (Kd.int .u64) (w0 := w) b rfl (.tmp 52) (.tmp 54) 22 23 (.int .u64 0) 8 rfl underlying22 info23 rfl (by decide) (by omega) u11 x11_2 t173 [.int .u64 t173] (fun k_ => some k_ ≠ (.slice (some ad) t.length co6 : Value).ownBlock ∧ some k_ ≠ (u62 : Value).ownBlock) (fun _ => False) rfl rfl ?aP (fun _ hk => hk.elim) ?aF ?aO ?aB ?aS ?aL ?_; (case aP => exact rfl); (case aB => exact by repeat (first | (with_reducible first | exact HB.out | apply ba_ | apply bn_ | apply bd_) | exact HB.out)); (case aF => exact (fun k_ hk => ⟨Kd.fresh' (Kd.R_lt (by (with_reducible repeat (first | apply Kd.R_alloc | apply Kd.R_drewN | apply Kd.R_drew)); exact HO_7.out)) k_ hk, Kd.fresh' (Kd.R_lt (by (with_reducible repeat (first | apply Kd.R_alloc | apply Kd.R_drewN | apply Kd.R_drew)); exact HO_62.out)) k_ hk⟩)); (case aO => exact (by (with_reducible repeat (first | apply Kd.R_alloc | apply Kd.R_drewN | apply Kd.R_drew)); exact HO_11.out)); (case aS => exact (Nat.le_of_lt (blk_lt (by first | exact HX.out | (with_reducible repeat (first | apply box_alloc | apply box_drewN | apply box_drew)); exact HX.out)))); (case aL => have := LMc15.out; omega); intro v178 w16 ho hb hg hat; have n0_ := ak_ (Kd.R_after (ok := (fun k_ => some k_ ≠ (u62 : Value).ownBlock)) (by (with_reducible repeat (first | apply Kd.R_alloc | apply Kd.R_drewN | apply Kd.R_drew)); exact Kd.R_mono HO_7.out (fun _ hk => ⟨hk.2 , hk.1⟩)) hg hat); have n1_ := ak_ (Kd.R_after (ok := (fun k_ => some k_ ≠ (.slice (some ad) t.length co6 : Value).ownBlock)) (by (with_reducible repeat (first | apply Kd.R_alloc | apply Kd.R_drewN | apply Kd.R_drew)); exact HO_62.out) hg hat); have HX2 := ak_ (box_grown (by first | exact HX.out | (with_reducible repeat (first | apply box_alloc | apply box_drewN | apply box_drew)); exact HX.out) hg (Kd.R_ne HO_11.out HX.out (by decide))); clear HO_7; clear HO_62; clear HB; clear HX; have HO_7 := n0_; have HO_62 := n1_; have HX := HX2; have HB := ak_ hb; have HO179 := ak_ ho; clear n0_ n1_ HX2; clear ho hb hg hat))
             go_roundg k2
             case measure => have := HK1.out; have := HK2.out; omega
             case rel => exact ⟨(x11_2 ++ [t173]), (wrap64 (x32_2 + 1)), (by first | rfl | (simp; done) | (simp [*]; done)), H', ⟨by have := HK1.out; have := HK2.out; omega⟩, ⟨by (with_reducible repeat (first | apply Kd.R_alloc | apply Kd.R_drewN | apply Kd.R_drew)); exact Kd.R_mono HO_7.out (fun _ hk => ⟨hk.2, hk.1⟩)⟩, ⟨(by (with_reducible repeat (first | apply Kd.R_alloc | apply Kd.R_drewN | apply Kd.R_drew)); exact HO179.out)⟩, ⟨(by (with_reducible repeat (first | apply Kd.R_alloc | apply Kd.R_drewN | apply Kd.R_drew)); exact HO_62.out)⟩, ⟨by first | exact HX.out | (with_reducible repeat (first | apply box_alloc | apply box_drewN | apply box_drew)); exact HX.out⟩, ⟨by repeat (first | (with_reducible first | exact HB.out | apply ba_ | apply bn_ | apply bd_) | exact HB.out)⟩⟩
            ·rw [if_neg c15] at H
             exact absurd H (by simp)
          ·rw [if_neg c12] at H
           have c12b0 : (t174 == 0) = false := beq_eq_false_iff_ne.mpr c12
           have c12b1 : (t174 != 0) = true := bne_iff_ne.mpr c12
           clear c12
           obtain ⟨y, hy, H⟩ := bind_eq_some_iff.mp H
           have HY := ak_ hy
           clear hy
           have H' := ak_ H
           clear H
           go_wp2_with (first | ((with_reducible refine gate_callee (f := 72) rfl ?_); refine goesL_ (some 39) rfl rfl func72 (by kernel_rfl) rfl #[.int .i64 a0, .int .u64 (rd t x28_1), .int .i64 x32_2] rfl (by (try simp only [map_toArray, map_cons, map_nil]); first | done | rfl) ?_; (with_reducible refine (node_Child.calls k2 a0 (rd t x28_1) x32_2 t173 t174 _ A11.out).mono ?_); rintro e w' ⟨rfl, ⟨nd, rfl⟩⟩; refine ⟨_, rfl, ?_⟩; obtain ⟨Ao22, co22, eo22⟩ := Kd.R_slice HO_11.out; subst eo22) | ((with_reducible refine gate_closure (x := .tmp 57) (xs_ := #[.tmp 58, .tmp 59]) rfl ?_); refine goesC_ (some 60) rfl rfl HF.out HN.out HBO.out #[.int .u64 (rd t x28_1), .slice Ao22 x11_2.length co22] rfl rfl (by (try simp only [map_toArray, map_cons, map_nil]); first | done | rfl) ?_; refine (HST.out k2 _ u62 x62_1 (rd t x28_1) Ao22 co22 x11_2 y ?s1 ?s2 ?s3 ?side1 (Kd.R_reads' HO_11.out).2.1 HY.out).mono ?_; (case s1 => exact (by repeat (first | (with_reducible first | exact HB.out | apply ba_ | apply bn_ | apply bd_) | exact HB.out))); (case s2 => exact (by first | exact HX.out | (with_reducible repeat (first | apply box_alloc | apply box_drewN | apply box_drew)); exact HX.out)); (case s3 => exact (by (with_reducible repeat (first | apply Kd.R_alloc | apply Kd.R_drewN | apply Kd.R_drew)); exact Kd.R_mono HO_62.out (fun _ _ => trivial))); (case side1 => repeat (first | exact (Kd.R_reads' HO_11.out).2.2 | (with_reducible refine Kd.C_alloc ?_ _) | (with_reducible refine Kd.C_drewN ?_ _) | (with_reducible refine Kd.C_drew ?_))); rintro e w18 ⟨rfl, v181, hxn, ho0, hb, hkp⟩; refine ⟨_, rfl, ?_⟩; have n0_ := ak_ (R_tell HO_7.out HX.out (by decide) (fun k_ hk => hk.2) hkp ho0.1); have n1_ := ak_ (R_told HO_7.out (fun k_ hk => hk.2) ho0); clear HO_7 HO_62 HO_11 HB HX; have HO_7 := n0_; have HO182 := n1_; have HB := ak_ hb; have HX := ak_ hxn; clear n0_ n1_ hb hxn ho0 hkp))
           go_roundg k2
           case measure => have := HK1.out; have := HK2.out; omega
           case rel => exact ⟨(wrap64 (x28_1 + 1)), y, v181, (by first | rfl | (simp; done) | (simp [*]; done)), H', ⟨by have := HK1.out; have := HK2.out; omega⟩, ⟨(by (with_reducible repeat (first | apply Kd.R_alloc | apply Kd.R_drewN | apply Kd.R_drew)); exact HO_7.out)⟩, ⟨(by (with_reducible repeat (first | apply Kd.R_alloc | apply Kd.R_drewN | apply Kd.R_drew)); exact HO182.out)⟩, ⟨by first | exact HX.out | (with_reducible repeat (first | apply box_alloc | apply box_drewN | apply box_drew)); exact HX.out⟩, ⟨by repeat (first | (with_reducible first | exact HB.out | apply ba_ | apply bn_ | apply bd_) | exact HB.out)⟩⟩
         ·rw [if_neg c10] at H
          have c10b0 := decide_eq_false c10
          clear c10
          obtain ⟨y, hy, H⟩ := bind_eq_some_iff.mp H
          have HY := ak_ hy
          clear hy
          have H' := ak_ H
          clear H
          obtain ⟨Ao22, co22, eo22⟩ := Kd.R_slice HO_11.out
          subst eo22
          go_wp2_with (first | ((with_reducible refine gate_closure (x := .tmp 57) (xs_ := #[.tmp 58, .tmp 59]) rfl ?_); refine goesC_ (some 60) rfl rfl HF.out HN.out HBO.out #[.int .u64 (rd t x28_1), .slice Ao22 x11_2.length co22] rfl rfl (by (try simp only [map_toArray, map_cons, map_nil]); first | done | rfl) ?_; refine (HST.out k2 _ u62 x62_1 (rd t x28_1) Ao22 co22 x11_2 y ?s1 ?s2 ?s3 ?side1 (Kd.R_reads' HO_11.out).2.1 HY.out).mono ?_; (case s1 => exact (by repeat (first | (with_reducible first | exact HB.out | apply ba_ | apply bn_ | apply bd_) | exact HB.out))); (case s2 => exact (by first | exact HX.out | (with_reducible repeat (first | apply box_alloc | apply box_drewN | apply box_drew)); exact HX.out)); (case s3 => exact (by (with_reducible repeat (first | apply Kd.R_alloc | apply Kd.R_drewN | apply Kd.R_drew)); exact Kd.R_mono HO_62.out (fun _ _ => trivial))); (case side1 => repeat (first | exact (Kd.R_reads' HO_11.out).2.2 | (with_reducible refine Kd.C_alloc ?_ _) | (with_reducible refine Kd.C_drewN ?_ _) | (with_reducible refine Kd.C_drew ?_))); rintro e w18 ⟨rfl, v181, hxn, ho0, hb, hkp⟩; refine ⟨_, rfl, ?_⟩; have n0_ := ak_ (R_tell HO_7.out HX.out (by decide) (fun k_ hk => hk.2) hkp ho0.1); have n1_ := ak_ (R_told HO_7.out (fun k_ hk => hk.2) ho0); clear HO_7 HO_62 HO_11 HB HX; have HO_7 := n0_; have HO182 := n1_; have HB := ak_ hb; have HX := ak_ hxn; clear n0_ n1_ hb hxn ho0 hkp))
          go_roundg k2
          case measure => have := HK1.out; have := HK2.out; omega
          case rel => exact ⟨(wrap64 (x28_1 + 1)), y, v181, (by first | rfl | (simp; done) | (simp [*]; done)), H', ⟨by have := HK1.out; have := HK2.out; omega⟩, ⟨(by (with_reducible repeat (first | apply Kd.R_alloc | apply Kd.R_drewN | apply Kd.R_drew)); exact HO_7.out)⟩, ⟨(by (with_reducible repeat (first | apply Kd.R_alloc | apply Kd.R_drewN | apply Kd.R_drew)); exact HO182.out)⟩, ⟨by first | exact HX.out | (with_reducible repeat (first | apply box_alloc | apply box_drewN | apply box_drew)); exact HX.out⟩, ⟨by repeat (first | (with_reducible first | exact HB.out | apply ba_ | apply bn_ | apply bd_) | exact HB.out)⟩⟩
      ·rw [if_neg c8] at H
       exact absurd H (by simp)
     ·rw [if_neg c7] at H
      have c7b0 := decide_eq_false c7
      clear c7
      simp only [some.injEq, Prod.mk.injEq] at H
      obtain ⟨rfl, rfl⟩ := H
      go_wp2
      go_ret
      exact ⟨rfl, u62, by first | exact HX.out | (with_reducible repeat (first | apply box_alloc | apply box_drewN | apply box_drew)); exact HX.out, by (with_reducible repeat (first | apply Kd.R_alloc | apply Kd.R_drewN | apply Kd.R_drew)); exact Kd.R_mono HO_62.out (fun _ hk => trivial), by repeat (first | (with_reducible first | exact HB.out | apply ba_ | apply bn_ | apply bd_) | exact HB.out)⟩
  ·rw [if_neg c4] at H
   have c4b0 : (t166 == 0) = false := beq_eq_false_iff_ne.mpr c4
   have c4b1 : (t166 != 0) = true := bne_iff_ne.mpr c4
   clear c4
   simp only [some.injEq, Prod.mk.injEq] at H
   obtain ⟨rfl, rfl⟩ := H
   go_enter func68, ntmps68
   go_wp2_with (first | ((with_reducible refine gate_callee (f := 89) rfl ?_); refine goesL_ (some 20) rfl rfl func89 (by kernel_rfl) rfl #[.int .i64 a0, .slice A1 l1.length c1] rfl (by (try simp only [map_toArray, map_cons, map_nil]); first | done | rfl) ?_; (with_reducible refine (steiner_tree.calls k a0 _ _ l1 t t166 _ HR1.out HC1.out A3.out).mono ?_); rintro e w5 ⟨v167, rfl, ho0, hb⟩; refine ⟨_, rfl, ?_⟩; have HX2 := ak_ (kb_ HX.out hb); have n1_ := ak_ (below_then HB.out (Nat.le_of_lt (blk_lt HX.out)) hb); clear HB HX; have HX := HX2; have HB := n1_; clear n1_ HX2; (try clear hb); (try clear ho0)))
   go_ret
   exact ⟨rfl, .slice none 0 0, by first | exact HX.out | (with_reducible repeat (first | apply box_alloc | apply box_drewN | apply box_drew)); exact HX.out, Kd.R_nil _ _ _ _ _, by repeat (first | (with_reducible first | exact HB.out | apply ba_ | apply bn_ | apply bd_) | exact HB.out)⟩
def steiner_Hang1.f (_k : Nat) (x : List Int) (_n : Int) (y : List Int) : Option (List Int) := if x.length + y.length < 17592186044416 then some (x ++ y) else none
theorem results_cell_tmp {P : Program} {tmps : Array Value} {w : World} {fn : Func} {p u : Tmp} {ty : TypeId} {a : Addr} {v : Value} (h : fn.results = #[.cell p ty, .tmp u]) (hp : tmps.getD p undef = .pointer (some a)) (hv : (loadVar ty a).run P w = .ok v w) : (results fn tmps).run P w = .ok (.tuple #[v, tmps.getD u undef]) w := by
  unfold results
  rw [h]
  have hp2 : tmps[p]?.getD undef = .pointer (some a) := by simpa using hp
  simp [asAddr, hp2, hv]
theorem R_boxset {e base b T : Nat} {ok : Nat → Prop} {W : World} {v u : Value} {xs : List Int} {cs : Array Value} (h : Kd.R (Kd.int .u64) e W base ok v xs) (hx : W.heap[b]? = some (.cells cs T (0, 0))) (hT : e ≠ T) : Kd.R (Kd.int .u64) e (W.setCell ⟨b, 0, none⟩ u) base ok v xs := by
  refine Kd.R_mono (Kd.R_move (Kd.R_bound h) ?_) (fun k_ hk => hk.1)
  rintro k_ ⟨_, _, _, q, hq, cells, hc⟩
  refine Below.heap_setCell W _ u k_ ?_
  rintro rfl
  rw [hx] at hc
  simp only [some.injEq, Obj.cells.injEq] at hc
  simp [Kd.int, Kd.scalar] at hq
  exact hT (hq.symm.trans hc.2.1.symm)
set_option maxHeartbeats 8000000 in
set_option maxRecDepth 100000 in
theorem steiner_Hang1.calls (b : Nat) (w W : World) (v : Value) (x : List Int) (n : Int) (A : Option Addr) (c : Nat) (y x' : List Int) (hB : Below b w W) (hx : W.heap[b]? = some (.cells #[v] 22 (0, 0))) (hv : Kd.R (Kd.int .u64) 23 W b (fun _ => True) v x) (hy : Kd.C (Kd.int .u64) W A y.length y) (hyc : y.length ≤ c) (h : steiner_Hang1.f 0 x n y = some x') :
   Calls Tryz.prog 69 #[.int .u64 n, .slice A y.length c, .pointer (some ⟨b, 0, none⟩)] W fun e W' => e = .returned (.tuple #[]) ∧ ∃ v' : Value, W'.heap[b]? = some (.cells #[v'] 22 (0, 0)) ∧ Kd.R (Kd.int .u64) 23 W' b (fun k_ => some k_ = v.ownBlock ∨ W.heap.size ≤ k_) v' x' ∧ Below b w W' ∧ Kept W W' (fun k_ => k_ = b ∨ some k_ = v.ownBlock) := by
  have hl : x.length + y.length < 17592186044416 := by
   by_cases c : x.length + y.length < 17592186044416
   ·exact c
   ·simp [steiner_Hang1.f, c] at h
  obtain rfl : x ++ y = x' := by simpa [steiner_Hang1.f, hl] using h
  clear h
  have HV := ak_ (Kd.R_mono (Kd.R_tight rfl hv) (ok' := fun k_ => some k_ = v.ownBlock ∨ W.heap.size ≤ k_) (fun _ hk => .inl hk))
  have HX := ak_ hx
  have HY := ak_ hy
  have HB := ak_ hB
  have HL := ak_ hl
  have hc0 := cell_of_one hx
  have HNE := ak_ (Kd.R_ne hv hx (by decide))
  have HBS := ak_ (Nat.le_of_lt (blk_lt hx))
  clear hv hx hy hB hl
  go_enter func69, ntmps69
  go_wp2_with (first | (at_builtin; refine Kd.R_append_rows (Kd.int .u64) (w0 := w) b rfl (.tmp 5) (.tmp 6) 22 23 (.int .u64 0) 8 rfl underlying22 info23 rfl (by decide) (by omega) v x y _ _ _ (fun k_ => some k_ = v.ownBlock ∨ W.heap.size ≤ k_) (fun _ => False) rfl rfl HV.out HY.out (fun _ _ h => h) (fun _ h => h.elim) (fun _ hk => .inr hk) HB.out HBS.out (by have := HL.out; omega) ?_; intro v1 w1 ho hb hg hat; have hx1 := box_grown HX.out hg HNE.out; have hc1 := cell_of_one hx1; have hf1 := free_of_one hx1; have HO := ak_ ho; have HB1 := ak_ hb; have HG := ak_ hg; have HX1 := ak_ hx1; clear ho hb hg hat hx1 hc0; obtain ⟨A1, c1, e1⟩ := Kd.R_slice HO.out; subst e1))
  go_end0
  have HO2 := HO.out
  rw [List.length_append] at HO2
  exact ⟨rfl, _, one_setCell HX1.out, R_boxset HO2 HX1.out (by decide), HB1.out.setCell (Nat.le_refl b) _, Kept.setCell (Kept.of_grown HG.out (Kept.refl _ _) (fun k_ hk => .inl (.inr hk.symm))) (.inl (.inl rfl)) _⟩
def steiner_Hang.f (k : Nat) (a0 : Int) (l1 : List Int) : Option (List Int × Int) := (leaf_Check.f k a0 l1).bind fun t => if t = 0 then (if (l1.length : Int) = 0 then some ([1], 0) else steiner_children.f steiner_Hang1.f k a0 l1) else steiner_children.f steiner_Hang1.f k a0 l1
set_option maxHeartbeats 8000000 in
set_option maxRecDepth 100000 in
theorem steiner_Hang.calls (k : Nat) (a0 : Int) (A1 : Option Addr) (c1 : Nat) (l1 : List Int) (r1 : List Int) (r2 : Int) (w : World) (hr1 : Kd.C (Kd.int .u64) w A1 l1.length l1) (hc1 : l1.length ≤ c1) (h : steiner_Hang.f k a0 l1 = some (r1, r2)) :
   Calls Tryz.prog 36 #[.int .i64 a0, .slice A1 l1.length c1] w fun e w' => ∃ v0_ : Value, e = .returned (.tuple #[v0_, .int .i64 r2]) ∧ Kd.R (Kd.int .u64) 23 w' w.heap.size (fun _ => True) v0_ r1 ∧ Below w.heap.size w w' := by
  have HR1 := ak_ hr1
  have HC1 := ak_ hc1
  clear hr1 hc1
  have hmf : ∀ (fn : Fn) (first cap : Array Value) (w : World), (Instr.makeFunc fn first cap).run Tryz.prog w = .ok (.func fn first cap) w := fun _ _ _ _ => rfl
  have hx0 : (w.alloc (.cells #[.slice none 0 0] 22)).heap[w.heap.size]? = some (.cells #[.slice none 0 0] 22 (0, 0)) := blk_new _ _
  have HX := ak_ hx0
  have hc0 := cell_of_one hx0
  have hf0 := free_of_one hx0
  clear hx0
  obtain ⟨t, A30, H⟩ := bind_eq_some_iff.mp h
  clear h
  replace H : (if t = 0 then (if (l1.length : Int) = 0 then some ([1], 0) else steiner_children.f steiner_Hang1.f k a0 l1) else steiner_children.f steiner_Hang1.f k a0 l1) = some (r1, r2) := H
  have A3 := ak_ A30
  clear A30
  have key : ∀ W : World, Kd.C (Kd.int .u64) W A1 l1.length l1 → W.heap[w.heap.size]? = some (.cells #[.slice none 0 0] 22 (0, 0)) → steiner_children.f steiner_Hang1.f k a0 l1 = some (r1, r2) → Calls Tryz.prog 68 #[.int .i64 a0, .slice A1 l1.length c1, .func (.func 69) #[] #[.pointer (some ⟨w.heap.size, 0, none⟩)]] W fun e w' => e = .returned (.int .i64 r2) ∧ ∃ v0_ : Value, w'.heap[w.heap.size]? = some (.cells #[v0_] 22 (0, 0)) ∧ Kd.R (Kd.int .u64) 23 w' w.heap.size (fun _ => True) v0_ r1 ∧ Below w.heap.size W w' := fun W hr hx hh =>
   steiner_children.calls steiner_Hang1.f k a0 A1 c1 l1 r1 r2 W hr HC1.out 69 _ _ w.heap.size func69 (by kernel_rfl) rfl hx (fun k W2 v x n A c y x' h1 h2 h3 h4 h5 h6 => steiner_Hang1.calls w.heap.size W W2 v x n A c y x' h1 h2 h3 h4 h5 h6) hh
  have KEY := ak_ key
  clear key
  by_cases c4 : t = 0
  ·rw [if_pos c4] at H
   have c4b0 : (t == 0) = true := beq_iff_eq.mpr c4
   clear c4
   by_cases c5 : (l1.length : Int) = 0
   ·rw [if_pos c5] at H
    have c5b0 : ((l1.length : Int) == 0) = true := beq_iff_eq.mpr c5
    clear c5
    simp only [some.injEq, Prod.mk.injEq] at H
    obtain ⟨rfl, rfl⟩ := H
    go_enter func36, ntmps36
    go_wp2_with (first | ((with_reducible refine gate_callee (f := 67) rfl ?_); refine goesL_ (some 9) rfl rfl func67 (by kernel_rfl) rfl #[.int .i64 a0, .slice A1 l1.length c1] rfl (by (try simp only [map_toArray, map_cons, map_nil]); first | done | rfl) ?_; (with_reducible refine (leaf_Check.calls k a0 _ _ l1 t _ ?side1 ?side2 A3.out).mono ?_); (case side1 => repeat (first | exact HR1.out | (with_reducible refine Kd.C_alloc ?_ _) | (with_reducible refine Kd.C_drewN ?_ _) | (with_reducible refine Kd.C_drew ?_))); (case side2 => exact HC1.out); rintro e w' ⟨rfl, ⟨nd, rfl⟩⟩; refine ⟨_, rfl, ?_⟩))
    have hsz : (((w.alloc (.cells #[.slice none 0 0] 22)).drewN nd).setCell ⟨w.heap.size, 0, none⟩ (.slice (some ⟨w.heap.size + 1, 0, none⟩) 1 1)).heap.size = w.heap.size + 1 := by simp
    have hbA := one_setCell (u := .slice (some ⟨w.heap.size + 1, 0, none⟩) 1 1) (show ((w.alloc (.cells #[.slice none 0 0] 22)).drewN nd).heap[w.heap.size]? = some (.cells #[.slice none 0 0] 22 (0, 0)) from HX.out)
    have hcA := cell_of_one (box_alloc hbA (.cells #[.int .u64 1] 23))
    have hrA := World.ownsRow_lit (base := w.heap.size) (e := 23) (size := 1) (((w.alloc (.cells #[.slice none 0 0] 22)).drewN nd).setCell ⟨w.heap.size, 0, none⟩ (.slice (some ⟨w.heap.size + 1, 0, none⟩) 1 1)) #[.int .u64 1] 1 (by rw [hsz]; omega) (by simp only [maxLen]; omega) rfl
    rw [hsz] at hrA
    have HRA := ak_ hrA
    clear hrA hsz hbA
    refine bodyPost_ret (results_cell_tmp rfl rfl (v := .slice (some ⟨w.heap.size + 1, 0, none⟩) 1 1) (by go_simp)) rfl ?_
    exact ⟨_, rfl, Kd.R_of_own (enc := Value.int .u64) (h1 := fun _ => rfl) (xs := [1]) HRA.out (fun _ _ => trivial), ba_ ((bn_ (ba_ (Below.refl w.heap.size w) _) nd).setCell (Nat.le_refl _) _) _⟩
   ·rw [if_neg c5] at H
    have c5b0 : ((l1.length : Int) == 0) = false := beq_eq_false_iff_ne.mpr c5
    clear c5
    have H' := ak_ H
    clear H
    go_enter func36, ntmps36
    go_wp2_with (first | ((with_reducible refine gate_callee (f := 67) rfl ?_); refine goesL_ (some 9) rfl rfl func67 (by kernel_rfl) rfl #[.int .i64 a0, .slice A1 l1.length c1] rfl (by (try simp only [map_toArray, map_cons, map_nil]); first | done | rfl) ?_; (with_reducible refine (leaf_Check.calls k a0 _ _ l1 t _ ?side1 ?side2 A3.out).mono ?_); (case side1 => repeat (first | exact HR1.out | (with_reducible refine Kd.C_alloc ?_ _) | (with_reducible refine Kd.C_drewN ?_ _) | (with_reducible refine Kd.C_drew ?_))); (case side2 => exact HC1.out); rintro e w' ⟨rfl, ⟨nd, rfl⟩⟩; refine ⟨_, rfl, ?_⟩) | ((with_reducible refine gate_callee (f := 68) rfl ?_); refine goesL_ (some 20) rfl rfl func68 (by kernel_rfl) rfl #[.int .i64 a0, .slice A1 l1.length c1, .func (.func 69) #[] #[.pointer (some ⟨w.heap.size, 0, none⟩)]] rfl (by (try simp only [map_toArray, map_cons, map_nil]); first | done | rfl) ?_; refine (KEY.out _ ?s1 ?s2 H'.out).mono ?_; (case s1 => repeat (first | exact HR1.out | (with_reducible refine Kd.C_alloc ?_ _) | (with_reducible refine Kd.C_drewN ?_ _) | (with_reducible refine Kd.C_drew ?_))); (case s2 => exact HX.out); rintro e w5 ⟨rfl, v0, hx, ho, hb⟩; refine ⟨_, rfl, ?_⟩; have hc1 := cell_of_one hx; have hf1 := free_of_one hx; have HX2 := ak_ hx; have HO := ak_ ho; have HB := ak_ (Below.trans (bn_ (ba_ (Below.refl w.heap.size w) (.cells #[.slice none 0 0] 22)) nd) hb); clear hx ho hb; obtain ⟨Ao, co, eo⟩ := Kd.R_slice HO.out; subst eo))
    have hcB := cell_of_one (one_setCell (u := .slice Ao r1.length co) HX2.out)
    refine bodyPost_ret (results_cell_tmp rfl rfl (v := .slice Ao r1.length co) (by go_simp)) rfl ?_
    exact ⟨_, rfl, R_boxset HO.out HX2.out (by decide), HB.out.setCell (Nat.le_refl _) _⟩
  ·rw [if_neg c4] at H
   have c4b0 : (t == 0) = false := beq_eq_false_iff_ne.mpr c4
   clear c4
   have H' := ak_ H
   clear H
   go_enter func36, ntmps36
   go_wp2_with (first | ((with_reducible refine gate_callee (f := 67) rfl ?_); refine goesL_ (some 9) rfl rfl func67 (by kernel_rfl) rfl #[.int .i64 a0, .slice A1 l1.length c1] rfl (by (try simp only [map_toArray, map_cons, map_nil]); first | done | rfl) ?_; (with_reducible refine (leaf_Check.calls k a0 _ _ l1 t _ ?side1 ?side2 A3.out).mono ?_); (case side1 => repeat (first | exact HR1.out | (with_reducible refine Kd.C_alloc ?_ _) | (with_reducible refine Kd.C_drewN ?_ _) | (with_reducible refine Kd.C_drew ?_))); (case side2 => exact HC1.out); rintro e w' ⟨rfl, ⟨nd, rfl⟩⟩; refine ⟨_, rfl, ?_⟩) | ((with_reducible refine gate_callee (f := 68) rfl ?_); refine goesL_ (some 20) rfl rfl func68 (by kernel_rfl) rfl #[.int .i64 a0, .slice A1 l1.length c1, .func (.func 69) #[] #[.pointer (some ⟨w.heap.size, 0, none⟩)]] rfl (by (try simp only [map_toArray, map_cons, map_nil]); first | done | rfl) ?_; refine (KEY.out _ ?s1 ?s2 H'.out).mono ?_; (case s1 => repeat (first | exact HR1.out | (with_reducible refine Kd.C_alloc ?_ _) | (with_reducible refine Kd.C_drewN ?_ _) | (with_reducible refine Kd.C_drew ?_))); (case s2 => exact HX.out); rintro e w5 ⟨rfl, v0, hx, ho, hb⟩; refine ⟨_, rfl, ?_⟩; have hc1 := cell_of_one hx; have hf1 := free_of_one hx; have HX2 := ak_ hx; have HO := ak_ ho; have HB := ak_ (Below.trans (bn_ (ba_ (Below.refl w.heap.size w) (.cells #[.slice none 0 0] 22)) nd) hb); clear hx ho hb; obtain ⟨Ao, co, eo⟩ := Kd.R_slice HO.out; subst eo))
   have hcB := cell_of_one (one_setCell (u := .slice Ao r1.length co) HX2.out)
   refine bodyPost_ret (results_cell_tmp rfl rfl (v := .slice Ao r1.length co) (by go_simp)) rfl ?_
   exact ⟨_, rfl, R_boxset HO.out HX2.out (by decide), HB.out.setCell (Nat.le_refl _) _⟩
set_option maxHeartbeats 8000000 in
set_option maxRecDepth 100000 in
theorem whole_Cover1.calls (n : Int) (w : World) : Calls Tryz.prog 38 #[.int .u64 n] w fun e w' => e = .returned (.agg #[.int .u64 n, .int .u64 0]) ∧ Below w.heap.size w w' := by
  have hu := underlying25
  have hb0 := blk_new w (.cells #[.int .u64 0, .int .u64 0] 25)
  have hz0 := kc_ hb0 0
  have hz1 := kc_ hb0 1
  have hy0 := kf_ hb0 0
  have hy1 := kf_ hb0 1
  simp at hz0 hz1 hy0 hy1
  go_enter func38, ntmps38
  go_wp2
  refine bodyPost_ret (v := .agg #[.int .u64 n, .int .u64 0]) (by simp [results, Tryz.f38, go_sem]) rfl ⟨rfl, ?_⟩
  exact ba_ (Below.refl _ _) _
def api_Subset_37.l0 : Nat → List (S25) → List Int → Int → Int → Option ((List (S25)))
  | 0, _, _, _, _ => none
  | k + 1, x5, x11, x12, x13 => if x13 < x12 then (if 0 ≤ x13 then (if x13 < (x11.length : Int) then (if x13 < (x5.length : Int) then (api_Subset_37.l0 k (x5.set (x13 : Int).toNat (⟨rd x11 x13, 0⟩ : S25)) x11 x12 (wrap64 (x13 + 1))) else (none)) else (none)) else (none)) else (some x5)
def api_Subset_37.f (k : Nat) (l0 : List Int) : Option ((List (S25))) := if 0 ≤ (l0.length : Int) then (if ((l0.length : Int) : Int).toNat ≤ 17592186044416 then (api_Subset_37.l0 k (List.replicate ((l0.length : Int) : Int).toNat z25) l0 (l0.length : Int) 0) else (none)) else (none)
set_option maxHeartbeats 8000000 in
set_option maxRecDepth 100000 in
theorem api_Subset_37.calls (k : Nat) (A0 : Option Addr) (c0 : Nat) (l0 : List Int) (r : List (S25)) (w : World) (hr0 : Kd.C (Kd.int .u64) w A0 l0.length l0) (hc0 : l0.length ≤ c0) (h : api_Subset_37.f k l0 = some r) :
   Calls Tryz.prog 37 #[.slice A0 l0.length c0, .func (.func 38) #[] #[]] w fun e w' => ∃ v0_ : Value, e = .returned (v0_) ∧ Kd.R k25 25 w' w.heap.size (fun _ => True) v0_ r ∧ Below w.heap.size w w' := by
  have hu25 := underlying25
  have HR0 := ak_ hr0
  have HC0 := ak_ hc0
  clear hr0 hc0
  have HB := ak_ (Below.refl w.heap.size w)
  have H : (if 0 ≤ (l0.length : Int) then (if ((l0.length : Int) : Int).toNat ≤ 17592186044416 then (api_Subset_37.l0 k (List.replicate ((l0.length : Int) : Int).toNat z25) l0 (l0.length : Int) 0) else (none)) else (none)) = some r := h
  clear h
  by_cases c2 : 0 ≤ (l0.length : Int)
  ·rw [if_pos c2] at H
   have c2b0 := eq_true c2
   have c2b1 := decide_eq_true c2
   clear c2
   by_cases c3 : ((l0.length : Int) : Int).toNat ≤ 17592186044416
   ·rw [if_pos c3] at H
    have c3b0 := eq_true c3
    have c3b1 := decide_eq_true c3
    clear c3
    obtain ⟨y166, hy166⟩ : ∃ y_ : List (S25), y_ = (List.replicate ((l0.length : Int) : Int).toNat z25) := ⟨_, rfl⟩
    replace H : (api_Subset_37.l0 k y166 l0 (l0.length : Int) 0) = some r := by first | (rw [hy166]; with_reducible exact H) | (have H2_ := (Option.bind_some _ _).symm.trans H; rw [hy166]; with_reducible exact H2_) | (have H2_ := (Option.bind_some _ _).symm.trans H; with_reducible exact H2_) | with_reducible exact H | (rw [hy166]; exact H) | exact H
    have Ny166 := ak_ hy166
    clear hy166
    have H' := ak_ H
    clear H
    go_enter func37, ntmps37
    go_wp2_with (first | ((with_reducible refine gate_dst (N := 10) rfl ?_); refine Kd.R_make k25 _ 25 rfl (N := 10) rfl 27 _ _ rfl (l0.length : Int) rfl rfl underlying27 (.agg #[(.int .u64 0), (.int .u64 0)]) 16 info25 rfl (by decide) (by omega) z25 (ok := fun _ => True) (okp := fun _ => True) (k25_mkM _ _ _ z25 ) (fun _ hk => hk) trivial (od_ (by first | (with_reducible assumption) | assumption)) (Nat.le_trans (Nat.mul_le_mul_right _ (od_ (by first | (with_reducible assumption) | assumption) : (l0.length : Int).toNat ≤ 17592186044416)) (by omega)) (Below.refl _ _) (Nat.le_refl _) ?_; intro v167 w4 ho5 hb hg_ hnew_; clear hg_ hnew_; (first | rw [← Ny166.out] at ho5 | (simp only [Int.reduceToNat] at ho5; rw [← Ny166.out] at ho5)); have n0_ := ak_ (Kd.R_lower ho5 (bz_ (bl_ HB))); have n1_ := ak_ (bt_ (bl_ HB) hb); clear HB; have HO168 := n0_; have HB := n1_; clear n0_ n1_; clear hb ho5))
    go_loopg [13] k (fun kq v13 w' => ∃ (x5_1 : List (S25)) (x13_1 : Int), v13 = .int .i64 x13_1 ∧ Aside0 (api_Subset_37.l0 kq x5_1 l0 (l0.length : Int) x13_1 = some r) ∧ Aside0 (kq ≤ k) ∧ Aside0 (Kd.R k25 25 w' w.heap.size (fun _ => True) v167 x5_1) ∧ Aside0 (Below w.heap.size w w'))
    case atStart => exact ⟨(y166), (0), (by first | rfl | (simp; done) | (simp [*]; done)), H', ⟨Nat.le_refl _⟩, ⟨rl_ HO168⟩, ⟨bl_ HB⟩⟩
    case round =>
     clear H'
     try clear c2
     try clear c2b0
     try clear c2b1
     try clear p2
     try clear c3
     try clear c3b0
     try clear c3b1
     obtain ⟨x5_1, x13_1, rfl, HA, HK1, HO_5, HB⟩ := hrel
     cases gk with
     | zero => exact absurd HA.out (by simp [api_Subset_37.l0])
     | succ k1 =>
      have H := HA.out
      clear HA
      simp only [api_Subset_37.l0] at H
      by_cases c6 : x13_1 < (l0.length : Int)
      ·rw [if_pos c6] at H
       have c6b0 := decide_eq_true c6
       clear c6
       by_cases c7 : 0 ≤ x13_1
       ·rw [if_pos c7] at H
        have c7b0 := decide_eq_true c7
        clear c7
        by_cases c8 : x13_1 < (l0.length : Int)
        ·rw [if_pos c8] at H
         have c8b0 := decide_eq_true c8
         clear c8
         by_cases c9 : x13_1 < (x5_1.length : Int)
         ·rw [if_pos c9] at H
          have c9b0 := decide_eq_true c9
          clear c9
          obtain ⟨y170, hy170⟩ : ∃ y_ : List (S25), y_ = (x5_1.set (x13_1 : Int).toNat (⟨rd l0 x13_1, 0⟩ : S25)) := ⟨_, rfl⟩
          replace H : (api_Subset_37.l0 k1 y170 l0 (l0.length : Int) (wrap64 (x13_1 + 1))) = some r := by first | (rw [hy170]; with_reducible exact H) | (have H2_ := (Option.bind_some _ _).symm.trans H; rw [hy170]; with_reducible exact H2_) | (have H2_ := (Option.bind_some _ _).symm.trans H; with_reducible exact H2_) | with_reducible exact H | (rw [hy170]; exact H) | exact H
          have Ny170 := ak_ hy170
          clear hy170
          have H' := ak_ H
          clear H
          have p169 : 0 ≤ (x13_1 : Int) := od_ (by first | (with_reducible assumption) | assumption)
          have q169 : x13_1 < (l0.length : Int) := od_ (by first | (with_reducible assumption) | assumption)
          obtain ⟨ad169, e169, hx169_0⟩ := Kd.at_int HR0.out x13_1 p169 q169
          cases e169
          replace hx169_0 := (HB.out.cell (World.block_lt_of_cell? w _ hx169_0)).trans hx169_0
          replace p169 := eq_true p169
          replace q169 := eq_true q169
          have p10 : 0 ≤ (x13_1 : Int) := od_ (by first | (with_reducible assumption) | assumption)
          have q10 : (x13_1 : Int) < ((x5_1.length : Int) : Int) := od_ (by first | (with_reducible assumption) | assumption)
          obtain ⟨go10, co10, eo10, gb10, gl10, cl10, HG10⟩ := Kd.R_form HO_5.out (by omega)
          (first | cases eo10 | (injection eo10 with ea_ en_ ec_; (first | subst ea_ | (injection ea_ with ea_; subst ea_)); subst ec_; clear en_))
          have GB10 := ak_ gb10
          have GG10 := ak_ HG10
          clear gb10 gl10 HG10
          go_wp2_with (first | ((with_reducible refine gate_closure (x := .tmp 20) (xs_ := #[.tmp 21]) rfl ?_); refine goesC_ (some 22) rfl rfl func38 (by kernel_rfl) rfl #[.int .u64 (rd l0 x13_1)] rfl rfl (by (try simp only [map_toArray, map_cons, map_nil]); first | done | rfl) ?_; refine Calls.mono (whole_Cover1.calls (rd l0 x13_1) _) ?_; rintro e w10 ⟨rfl, hb⟩; refine ⟨_, rfl, ?_⟩; have n0_ := ak_ (Kd.R_below HO_5.out hb); have n1_ := ak_ (bt_ HB.out hb); clear HO_5 HB; have HO_5 := n0_; have HB := n1_; clear n0_ n1_ hb; obtain ⟨ce10, hcl10, hM10, hcc10, hfr10⟩ := Kd.R_elem HO_5.out z25 (x13_1 : Int) p10 q10; obtain rfl := k25_openM hM10; have hx10_0 : w10.cell? ⟨go10, (x13_1 : Int).toNat * 2, none⟩ = some (.int .u64 ((rd_T25 x5_1 x13_1).f0)) := hcc10 0 _ rfl; have hx10_1 : w10.cell? ⟨go10, (x13_1 : Int).toNat * 2 + 1, none⟩ = some (.int .u64 ((rd_T25 x5_1 x13_1).f1)) := hcc10 1 _ rfl; have hf10_0 : w10.frozen? ⟨go10, (x13_1 : Int).toNat * 2, none⟩ = false := hfr10 0; have hf10_1 : w10.frozen? ⟨go10, (x13_1 : Int).toNat * 2 + 1, none⟩ = false := hfr10 1; clear hcl10 hcc10 hfr10 hM10; replace p10 := eq_true p10; replace q10 := eq_true q10; have HX11 := ak_ (show Kd.R k25 25 w10 w.heap.size (fun _ => True) (.slice (some ⟨go10, 0, none⟩) x5_1.length co10) x5_1 from (rl_ HO_5)); obtain ⟨ce11, hcl11, hM11, hcc11, hfr11⟩ := Kd.R_elem HX11.out z25 (x13_1 : Int) (od_ (by first | (with_reducible assumption) | assumption)) (by have h_ : (x13_1 : Int) < ((x5_1.length : Int) : Int) := od_ (by first | (with_reducible assumption) | assumption); first | exact h_ | (have e_ := (Kd.R_reads' HO_5.out).1; omega) | simpa using h_); obtain rfl := k25_openM hM11; have HP11 := Kd.R_seg HX11.out (x13_1 : Int) (od_ (by first | (with_reducible assumption) | assumption)) (by have h_ : (x13_1 : Int) < ((x5_1.length : Int) : Int) := od_ (by first | (with_reducible assumption) | assumption); first | exact h_ | (have e_ := (Kd.R_reads' HO_5.out).1; omega) | simpa using h_) (seg := [.int .u64 (rd l0 x13_1), .int .u64 0]) (j := 0) hcl11 hcc11 (show 2 ≤ 2 from by decide) (x' := (⟨rd l0 x13_1, 0⟩ : S25)) (k25_mkM _ _ _ (⟨rd l0 x13_1, 0⟩ : S25) ) (fun _ hk => hk); have hx11_0 := hcc11 0 _ rfl; (try simp only [show (k25).sz = 2 from rfl, Nat.mul_one, Nat.add_zero] at hx11_0); have hf11_0 := hfr11 0; (try simp only [show (k25).sz = 2 from rfl, Nat.mul_one, Nat.add_zero] at hf11_0); have hx11_1 := hcc11 1 _ rfl; (try simp only [show (k25).sz = 2 from rfl, Nat.mul_one, Nat.add_zero] at hx11_1); have hf11_1 := hfr11 1; (try simp only [show (k25).sz = 2 from rfl, Nat.mul_one, Nat.add_zero] at hf11_1); clear hcl11 hcc11 hfr11 hM11) | ((with_reducible refine gate_store (t := 25) (p := 23) rfl ?_); refine store_event (t := 25) (p := 23) (v := ?vo_w12) (w1 := ((w10.setCell ⟨go10, (x13_1 : Int).toNat * 2, none⟩ (.int .u64 (rd l0 x13_1))).setCell ⟨go10, (x13_1 : Int).toNat * 2 + 1, none⟩ (.int .u64 0))) ?hg ?ho ?hn ?hr ?_; (case ho => rfl); (case hg => rfl); (case hn => rfl); (case hr => first | (go_simp; done) | (go_simp; rfl)); intro w12 hw; have hg : w10.grownBy w12 (some go10) := (by rw [hw]; exact HP11.2); have hp_ : Kd.R k25 25 w12 w.heap.size (fun _ => True) (.slice (some ⟨go10, 0, none⟩) x5_1.length co10) y170 := (by rw [hw, Ny170.out]; exact HP11.1); clear HP11; have n0_ := ak_ (hp_); have n1_ := ak_ ((by rw [hw]; exact below_set (below_set (HB.out) GB10.out) GB10.out : Below w.heap.size w w12)); clear HO_5; clear HB; have HO_5 := n0_; have HB := n1_; clear n0_ n1_; clear hg hw hp_))
          go_roundg k1
          case measure => have := HK1.out; omega
          case rel => exact ⟨(y170), (wrap64 (x13_1 + 1)), (by first | rfl | (simp; done) | (simp [*]; done)), H', ⟨by have := HK1.out; omega⟩, ⟨rl_ HO_5⟩, ⟨bl_ HB⟩⟩
         ·rw [if_neg c9] at H
          exact absurd H (by simp)
        ·rw [if_neg c8] at H
         exact absurd H (by simp)
       ·rw [if_neg c7] at H
        exact absurd H (by simp)
      ·rw [if_neg c6] at H
       have c6b0 := decide_eq_false c6
       clear c6
       obtain rfl := Option.some.inj H
       go_wp2
       go_ret
       exact ⟨_, by first | rfl | (simp <;> rfl) | (simp [*] <;> rfl), by (with_reducible repeat (first | apply Kd.R_alloc | apply Kd.R_drewN | apply Kd.R_drew)); exact HO_5.out, bl_ HB⟩
   ·rw [if_neg c3] at H
    exact absurd H (by simp)
  ·rw [if_neg c2] at H
   exact absurd H (by simp)
def whole_Cover.f (k : Nat) (a0 : Int) (l1 : List Int) : Option ((List (S25)) × Int) := (steiner_Hang.f k a0 l1).bind fun bt171 => ((api_Subset_37.f k bt171.1).bind fun t175 => (some (t175, bt171.2)))
set_option maxHeartbeats 8000000 in
set_option maxRecDepth 100000 in
theorem whole_Cover.calls (k : Nat) (a0 : Int) (A1 : Option Addr) (c1 : Nat) (l1 : List Int) (r1 : List (S25)) (r2 : Int) (w : World) (hr1 : Kd.C (Kd.int .u64) w A1 l1.length l1) (hc1 : l1.length ≤ c1) (h : whole_Cover.f k a0 l1 = some (r1, r2)) :
   Calls Tryz.prog 15 #[.int .i64 a0, .slice A1 l1.length c1] w fun e w' => ∃ v0_ : Value, e = .returned (.tuple #[v0_, .int .i64 r2]) ∧ Kd.R k25 25 w' w.heap.size (fun _ => True) v0_ r1 ∧ Below w.heap.size w w' := by
  have HR1 := ak_ hr1
  have HC1 := ak_ hc1
  clear hr1 hc1
  have HB := ak_ (Below.refl w.heap.size w)
  have H : ((steiner_Hang.f k a0 l1).bind fun bt171 => ((api_Subset_37.f k bt171.1).bind fun t175 => (some (t175, bt171.2)))) = some (r1, r2) := h
  clear h
  replace H := bind_eq_some_iff.mp H
  obtain ⟨⟨t171, t172⟩, A30, H⟩ := H
  replace H : ((api_Subset_37.f k t171).bind fun t175 => (some (t175, t172))) = some (r1, r2) := H
  have A3 := ak_ A30
  clear A30
  replace H := bind_eq_some_iff.mp H
  obtain ⟨t175, A40, H⟩ := H
  replace H : (some (t175, t172)) = some (r1, r2) := H
  have A4 := ak_ A40
  clear A40
  simp only [some.injEq, Prod.mk.injEq] at H
  obtain ⟨rfl, rfl⟩ := H
  go_enter func15, ntmps15
  go_wp2_with (first | ((with_reducible refine gate_callee (f := 36) rfl ?_); refine goesL_ (some 11) rfl rfl func36 (by kernel_rfl) rfl #[.int .i64 a0, .slice A1 l1.length c1] rfl (by (try simp only [map_toArray, map_cons, map_nil]); first | done | rfl) ?_; (with_reducible refine (steiner_Hang.calls k a0 _ _ l1 t171 t172 _ ?side1 ?side2 A3.out).mono ?_); (case side1 => repeat (first | exact HR1.out | (with_reducible refine Kd.C_alloc ?_ _) | (with_reducible refine Kd.C_drewN ?_ _) | (with_reducible refine Kd.C_drew ?_))); (case side2 => exact HC1.out); rintro e w5 ⟨v173, rfl, ho0, hb⟩; refine ⟨_, rfl, ?_⟩; have n0_ := ak_ (Kd.R_lower ho0 (bz_ (bl_ HB))); have n1_ := ak_ (bt_ (bl_ HB) hb); clear HB; have HO174 := n0_; have HB := n1_; clear n0_ n1_; (try clear hb); (try clear hk); (try clear ho0); obtain ⟨Ao6, co6, eo6⟩ := Kd.R_slice HO174.out; subst eo6) | ((with_reducible refine gate_callee (f := 37) rfl ?_); refine goesL_ (some 15) rfl rfl func37 (by kernel_rfl) rfl #[.slice Ao6 t171.length co6, .func (.func 38) #[] #[]] rfl (by (try simp only [map_toArray, map_cons, map_nil]); first | done | rfl) ?_; (with_reducible refine (api_Subset_37.calls k _ _ t171 t175 _ ?side1 ?side2 A4.out).mono ?_); (case side1 => repeat (first | exact (Kd.R_reads' HO174.out).2.2 | (with_reducible refine Kd.C_alloc ?_ _) | (with_reducible refine Kd.C_drewN ?_ _) | (with_reducible refine Kd.C_drew ?_))); (case side2 => exact (Kd.R_reads' HO174.out).2.1); rintro e w7 ⟨v176, rfl, ho0, hb⟩; refine ⟨_, rfl, ?_⟩; have n0_ := ak_ (Kd.R_below (rl_ HO174) hb); have n1_ := ak_ (Kd.R_lower ho0 (bz_ (bl_ HB))); have n2_ := ak_ (bt_ (bl_ HB) hb); clear HO174; clear HB; have HO174 := n0_; have HO177 := n1_; have HB := n2_; clear n0_ n1_ n2_; (try clear hb); (try clear hk); (try clear ho0)))
  go_ret2
  exact ⟨_, by first | rfl | (simp <;> rfl) | (simp [*] <;> rfl), by (with_reducible repeat (first | apply Kd.R_alloc | apply Kd.R_drewN | apply Kd.R_drew)); exact HO177.out, bl_ HB⟩
def node_Leaves.f (k : Nat) (a0 : Int) (a1 : Int) : Option (Int × Int × Int) := (node_Check.f k a0 a1).bind fun t179 => (if t179 = 0 then ((node_depth.f k a1).bind fun t180 => (if 0 ≤ (wrap64 (a0 - t180)) then (if 0 ≤ a0 then (some (IntKind.u64.wrap ((shl .u64 a1 (wrap64 (a0 - t180))) - (shl .u64 1 a0)), IntKind.u64.wrap ((IntKind.u64.wrap ((IntKind.u64.wrap ((shl .u64 a1 (wrap64 (a0 - t180))) - (shl .u64 1 a0))) + (shl .u64 1 (wrap64 (a0 - t180))))) - 1), 0)) else (none)) else (none))) else (some (0, 0, t179)))
set_option maxHeartbeats 8000000 in
set_option maxRecDepth 100000 in
theorem node_Leaves.calls (k : Nat) (a0 : Int) (a1 : Int) (r1 : Int) (r2 : Int) (r3 : Int) (w : World) (h : node_Leaves.f k a0 a1 = some (r1, r2, r3)) :
   Calls Tryz.prog 58 #[.int .i64 a0, .int .u64 a1] w fun e w' => e = .returned (.tuple #[.agg #[.int .u64 r1, .int .u64 r2], .int .i64 r3]) ∧ Below w.heap.size w w' := by
  have hu76 := underlying76
  have HB := ak_ (Below.refl w.heap.size w)
  have H : ((node_Check.f k a0 a1).bind fun t179 => (if t179 = 0 then ((node_depth.f k a1).bind fun t180 => (if 0 ≤ (wrap64 (a0 - t180)) then (if 0 ≤ a0 then (some (IntKind.u64.wrap ((shl .u64 a1 (wrap64 (a0 - t180))) - (shl .u64 1 a0)), IntKind.u64.wrap ((IntKind.u64.wrap ((IntKind.u64.wrap ((shl .u64 a1 (wrap64 (a0 - t180))) - (shl .u64 1 a0))) + (shl .u64 1 (wrap64 (a0 - t180))))) - 1), 0)) else (none)) else (none))) else (some (0, 0, t179)))) = some (r1, r2, r3) := h
  clear h
  replace H := bind_eq_some_iff.mp H
  obtain ⟨t179, A30, H⟩ := H
  replace H : (if t179 = 0 then ((node_depth.f k a1).bind fun t180 => (if 0 ≤ (wrap64 (a0 - t180)) then (if 0 ≤ a0 then (some (IntKind.u64.wrap ((shl .u64 a1 (wrap64 (a0 - t180))) - (shl .u64 1 a0)), IntKind.u64.wrap ((IntKind.u64.wrap ((IntKind.u64.wrap ((shl .u64 a1 (wrap64 (a0 - t180))) - (shl .u64 1 a0))) + (shl .u64 1 (wrap64 (a0 - t180))))) - 1), 0)) else (none)) else (none))) else (some (0, 0, t179))) = some (r1, r2, r3) := H
  have A3 := ak_ A30
  clear A30
  by_cases c4 : t179 = 0
  ·rw [if_pos c4] at H
   have c4b0 : (t179 == 0) = true := beq_iff_eq.mpr c4
   have c4b1 : (t179 != 0) = false := bne_eq_false_iff_eq.mpr c4
   clear c4
   replace H := bind_eq_some_iff.mp H
   obtain ⟨t180, A50, H⟩ := H
   replace H : (if 0 ≤ (wrap64 (a0 - t180)) then (if 0 ≤ a0 then (some (IntKind.u64.wrap ((shl .u64 a1 (wrap64 (a0 - t180))) - (shl .u64 1 a0)), IntKind.u64.wrap ((IntKind.u64.wrap ((IntKind.u64.wrap ((shl .u64 a1 (wrap64 (a0 - t180))) - (shl .u64 1 a0))) + (shl .u64 1 (wrap64 (a0 - t180))))) - 1), 0)) else (none)) else (none)) = some (r1, r2, r3) := H
   have A5 := ak_ A50
   clear A50
   obtain ⟨ji6, hji6⟩ : ∃ j_ : Int, (wrap64 (a0 - t180)) = j_ := ⟨_, rfl⟩
   replace H : (if 0 ≤ (ji6) then (if 0 ≤ a0 then (some (IntKind.u64.wrap ((shl .u64 a1 (ji6)) - (shl .u64 1 a0)), IntKind.u64.wrap ((IntKind.u64.wrap ((IntKind.u64.wrap ((shl .u64 a1 (ji6)) - (shl .u64 1 a0))) + (shl .u64 1 (ji6)))) - 1), 0)) else (none)) else (none)) = some (r1, r2, r3) := by first | (rw [hji6] at H; exact H) | (simp only [hji6] at H ⊢; exact H)
   (try rw [hji6] at A3)
   (try rw [hji6] at A5)
   have hji6w : (IntKind.i64.wrap (a0 - t180)) = ji6 := (i64_w _).trans hji6
   by_cases c7 : 0 ≤ (ji6)
   ·rw [if_pos c7] at H
    have c7b0 := eq_true c7
    have c7b1 := decide_eq_true c7
    clear c7
    obtain ⟨ji8, hji8⟩ : ∃ j_ : Int, (shl .u64 a1 (ji6)) = j_ := ⟨_, rfl⟩
    replace H : (if 0 ≤ a0 then (some (IntKind.u64.wrap ((ji8) - (shl .u64 1 a0)), IntKind.u64.wrap ((IntKind.u64.wrap ((IntKind.u64.wrap ((ji8) - (shl .u64 1 a0))) + (shl .u64 1 (ji6)))) - 1), 0)) else (none)) = some (r1, r2, r3) := by first | (rw [hji8] at H; exact H) | (simp only [hji8] at H ⊢; exact H)
    (try rw [hji8] at A3)
    (try rw [hji8] at A5)
    have hji8_ : (IntKind.u64.wrap (a1 * 2 ^ min (ji6).toNat 64)) = ji8 := hji8
    have hji8z : (ji6) ≤ 64 → (IntKind.u64.wrap (a1 * 2 ^ (ji6).toNat)) = ji8 := shl_small hji8
    by_cases c9 : 0 ≤ a0
    ·rw [if_pos c9] at H
     have c9b0 := eq_true c9
     have c9b1 := decide_eq_true c9
     clear c9
     obtain ⟨ji10, hji10⟩ : ∃ j_ : Int, (shl .u64 1 a0) = j_ := ⟨_, rfl⟩
     replace H : (some (IntKind.u64.wrap ((ji8) - (ji10)), IntKind.u64.wrap ((IntKind.u64.wrap ((IntKind.u64.wrap ((ji8) - (ji10))) + (shl .u64 1 (ji6)))) - 1), 0)) = some (r1, r2, r3) := by first | (rw [hji10] at H; exact H) | (simp only [hji10] at H ⊢; exact H)
     (try rw [hji10] at A3)
     (try rw [hji10] at A5)
     have hji10_ : (IntKind.u64.wrap (1 * 2 ^ min a0.toNat 64)) = ji10 := hji10
     have hji10z : a0 ≤ 64 → (IntKind.u64.wrap (1 * 2 ^ a0.toNat)) = ji10 := shl_small hji10
     have hji10u : (IntKind.u64.wrap (2 ^ min a0.toNat 64)) = ji10 := by have h_ := hji10_; rw [Int.one_mul] at h_; exact h_
     have hji10v : a0 ≤ 64 → (IntKind.u64.wrap (2 ^ a0.toNat)) = ji10 := fun hle_ => by have h_ := hji10z hle_; rw [Int.one_mul] at h_; exact h_
     have c11b0 := eq_true (od_ (by first | (with_reducible assumption) | assumption) : 0 ≤ (ji6))
     obtain ⟨ji12, hji12⟩ : ∃ j_ : Int, (shl .u64 1 (ji6)) = j_ := ⟨_, rfl⟩
     replace H : (some (IntKind.u64.wrap ((ji8) - (ji10)), IntKind.u64.wrap ((IntKind.u64.wrap ((IntKind.u64.wrap ((ji8) - (ji10))) + (ji12))) - 1), 0)) = some (r1, r2, r3) := by first | (rw [hji12] at H; exact H) | (simp only [hji12] at H ⊢; exact H)
     (try rw [hji12] at A3)
     (try rw [hji12] at A5)
     have hji12_ : (IntKind.u64.wrap (1 * 2 ^ min (ji6).toNat 64)) = ji12 := hji12
     have hji12z : (ji6) ≤ 64 → (IntKind.u64.wrap (1 * 2 ^ (ji6).toNat)) = ji12 := shl_small hji12
     have hji12u : (IntKind.u64.wrap (2 ^ min (ji6).toNat 64)) = ji12 := by have h_ := hji12_; rw [Int.one_mul] at h_; exact h_
     have hji12v : (ji6) ≤ 64 → (IntKind.u64.wrap (2 ^ (ji6).toNat)) = ji12 := fun hle_ => by have h_ := hji12z hle_; rw [Int.one_mul] at h_; exact h_
     simp only [some.injEq, Prod.mk.injEq] at H
     obtain ⟨rfl, rfl, rfl⟩ := H
     go_enter func58, ntmps58
     go_wp2_with (first | ((with_reducible refine gate_dst (N := 4) rfl ?_); refine box_event ?hg (N := 4) ?hd (cs := #[.int .u64 0, .int .u64 0]) (t := 76) ?hr ?_; (case hd => rfl); (case hg => rfl); (case hr => first | (go_simp; done) | (go_simp; rfl)); intro gb178 hg w13 hbox hb; have n0_ := ak_ (bt_ (bl_ HB) hb); have n1_ := ak_ (hbox); have n2_ := ak_ ((gs_ hg HB)); have n3_ := ak_ ((gs_ hg HB)); clear HB; have HB := n0_; have BK178 := n1_; have GW178 := n2_; have GE178 := n3_; clear n0_ n1_ n2_ n3_; clear hb hbox hg) | (go_at_call 35; (with_reducible refine (node_Check.calls k a0 a1 t179 _ A3.out).mono ?_); rintro e w' ⟨rfl, ⟨nd, rfl⟩⟩; (try first | exact ⟨rfl, _, World.drewN_drewN _ _ _⟩ | exact ⟨rfl, _, Eq.trans (World.drewN_drewN _ _ _) (congrArg (World.drewN _) (Nat.add_assoc _ _ _))⟩)) | (go_at_call 66; (with_reducible refine (node_depth.calls k a1 t180 _ A5.out).mono ?_); rintro e w' ⟨rfl, ⟨nd, rfl⟩⟩; (try first | exact ⟨rfl, _, World.drewN_drewN _ _ _⟩ | exact ⟨rfl, _, Eq.trans (World.drewN_drewN _ _ _) (congrArg (World.drewN _) (Nat.add_assoc _ _ _))⟩); have hcz14_0 : w13.cell? ⟨gb178, 0, none⟩ = some (.int .u64 0) := (kc_ BK178.out 0).trans rfl; have hcz14_1 : w13.cell? ⟨gb178, 1, none⟩ = some (.int .u64 0) := (kc_ BK178.out 1).trans rfl; have hfz14_0 := kf_ BK178.out 0; have hfz14_1 := kf_ BK178.out 1))
     repeat (go_quiet (first | ((with_reducible refine gate_dst (N := 4) rfl ?_); refine box_event ?hg (N := 4) ?hd (cs := #[.int .u64 0, .int .u64 0]) (t := 76) ?hr ?_; (case hd => rfl); (case hg => rfl); (case hr => first | (go_simp; done) | (go_simp; rfl)); intro gb178 hg w13 hbox hb; have n0_ := ak_ (bt_ (bl_ HB) hb); have n1_ := ak_ (hbox); have n2_ := ak_ ((gs_ hg HB)); have n3_ := ak_ ((gs_ hg HB)); clear HB; have HB := n0_; have BK178 := n1_; have GW178 := n2_; have GE178 := n3_; clear n0_ n1_ n2_ n3_; clear hb hbox hg) | (go_at_call 35; (with_reducible refine (node_Check.calls k a0 a1 t179 _ A3.out).mono ?_); rintro e w' ⟨rfl, ⟨nd, rfl⟩⟩; (try first | exact ⟨rfl, _, World.drewN_drewN _ _ _⟩ | exact ⟨rfl, _, Eq.trans (World.drewN_drewN _ _ _) (congrArg (World.drewN _) (Nat.add_assoc _ _ _))⟩)) | (go_at_call 66; (with_reducible refine (node_depth.calls k a1 t180 _ A5.out).mono ?_); rintro e w' ⟨rfl, ⟨nd, rfl⟩⟩; (try first | exact ⟨rfl, _, World.drewN_drewN _ _ _⟩ | exact ⟨rfl, _, Eq.trans (World.drewN_drewN _ _ _) (congrArg (World.drewN _) (Nat.add_assoc _ _ _))⟩); have hcz14_0 : w13.cell? ⟨gb178, 0, none⟩ = some (.int .u64 0) := (kc_ BK178.out 0).trans rfl; have hcz14_1 : w13.cell? ⟨gb178, 1, none⟩ = some (.int .u64 0) := (kc_ BK178.out 1).trans rfl; have hfz14_0 := kf_ BK178.out 0; have hfz14_1 := kf_ BK178.out 1)); try go_wp2_with (first | ((with_reducible refine gate_dst (N := 4) rfl ?_); refine box_event ?hg (N := 4) ?hd (cs := #[.int .u64 0, .int .u64 0]) (t := 76) ?hr ?_; (case hd => rfl); (case hg => rfl); (case hr => first | (go_simp; done) | (go_simp; rfl)); intro gb178 hg w13 hbox hb; have n0_ := ak_ (bt_ (bl_ HB) hb); have n1_ := ak_ (hbox); have n2_ := ak_ ((gs_ hg HB)); have n3_ := ak_ ((gs_ hg HB)); clear HB; have HB := n0_; have BK178 := n1_; have GW178 := n2_; have GE178 := n3_; clear n0_ n1_ n2_ n3_; clear hb hbox hg) | (go_at_call 35; (with_reducible refine (node_Check.calls k a0 a1 t179 _ A3.out).mono ?_); rintro e w' ⟨rfl, ⟨nd, rfl⟩⟩; (try first | exact ⟨rfl, _, World.drewN_drewN _ _ _⟩ | exact ⟨rfl, _, Eq.trans (World.drewN_drewN _ _ _) (congrArg (World.drewN _) (Nat.add_assoc _ _ _))⟩)) | (go_at_call 66; (with_reducible refine (node_depth.calls k a1 t180 _ A5.out).mono ?_); rintro e w' ⟨rfl, ⟨nd, rfl⟩⟩; (try first | exact ⟨rfl, _, World.drewN_drewN _ _ _⟩ | exact ⟨rfl, _, Eq.trans (World.drewN_drewN _ _ _) (congrArg (World.drewN _) (Nat.add_assoc _ _ _))⟩); have hcz14_0 : w13.cell? ⟨gb178, 0, none⟩ = some (.int .u64 0) := (kc_ BK178.out 0).trans rfl; have hcz14_1 : w13.cell? ⟨gb178, 1, none⟩ = some (.int .u64 0) := (kc_ BK178.out 1).trans rfl; have hfz14_0 := kf_ BK178.out 0; have hfz14_1 := kf_ BK178.out 1)))
     refine bodyPost_ret (results_ct rfl _ _ gb178 76 #[.int .u64 (IntKind.u64.wrap ((ji8) - (ji10))), .int .u64 (IntKind.u64.wrap ((IntKind.u64.wrap ((IntKind.u64.wrap ((ji8) - (ji10))) + (ji12))) - 1))] (0, 0) _ rfl (by (with_reducible repeat (first | refine kn_ ?_ _ | refine kd_ ?_ | refine ka_ ?_ _)); refine blk_put (cs := #[.int .u64 (IntKind.u64.wrap ((ji8) - (ji10))), .int .u64 0]) ?_ 1 _ rfl; (with_reducible repeat (first | refine kn_ ?_ _ | refine kd_ ?_ | refine ka_ ?_ _)); refine blk_put (cs := #[.int .u64 0, .int .u64 0]) ?_ 0 _ rfl; (with_reducible repeat (first | refine kn_ ?_ _ | refine kd_ ?_ | refine ka_ ?_ _)); exact BK178.out) underlying76 rfl (by kernel_rfl)) rfl ?_
     exact ⟨by first | rfl | (simp <;> rfl) | (simp only [← hji6, ← hji8, ← hji10, ← hji12]; first | rfl | (simp <;> rfl)) | (simp [*] <;> rfl), by repeat (first | (with_reducible first | exact HB.out | apply ba_ | apply bn_ | apply bd_ | refine below_set ?_ GE178.out) | exact HB.out)⟩
    ·rw [if_neg c9] at H
     exact absurd H (by simp)
   ·rw [if_neg c7] at H
    exact absurd H (by simp)
  ·rw [if_neg c4] at H
   have c4b0 : (t179 == 0) = false := beq_eq_false_iff_ne.mpr c4
   have c4b1 : (t179 != 0) = true := bne_iff_ne.mpr c4
   simp only [some.injEq, Prod.mk.injEq] at H
   obtain ⟨rfl, rfl, rfl⟩ := H
   go_enter func58, ntmps58
   go_wp2_with (first | ((with_reducible refine gate_dst (N := 4) rfl ?_); refine box_event ?hg (N := 4) ?hd (cs := #[.int .u64 0, .int .u64 0]) (t := 76) ?hr ?_; (case hd => rfl); (case hg => rfl); (case hr => first | (go_simp; done) | (go_simp; rfl)); intro gb178 hg w15 hbox hb; have n0_ := ak_ (bt_ (bl_ HB) hb); have n1_ := ak_ (hbox); have n2_ := ak_ ((gs_ hg HB)); have n3_ := ak_ ((gs_ hg HB)); clear HB; have HB := n0_; have BK178 := n1_; have GW178 := n2_; have GE178 := n3_; clear n0_ n1_ n2_ n3_; clear hb hbox hg) | (go_at_call 35; (with_reducible refine (node_Check.calls k a0 a1 t179 _ A3.out).mono ?_); rintro e w' ⟨rfl, ⟨nd, rfl⟩⟩; (try first | exact ⟨rfl, _, World.drewN_drewN _ _ _⟩ | exact ⟨rfl, _, Eq.trans (World.drewN_drewN _ _ _) (congrArg (World.drewN _) (Nat.add_assoc _ _ _))⟩); have hcz16_0 : w15.cell? ⟨gb178, 0, none⟩ = some (.int .u64 0) := (kc_ BK178.out 0).trans rfl; have hcz16_1 : w15.cell? ⟨gb178, 1, none⟩ = some (.int .u64 0) := (kc_ BK178.out 1).trans rfl; have hfz16_0 := kf_ BK178.out 0; have hfz16_1 := kf_ BK178.out 1))
   repeat (go_quiet (first | ((with_reducible refine gate_dst (N := 4) rfl ?_); refine box_event ?hg (N := 4) ?hd (cs := #[.int .u64 0, .int .u64 0]) (t := 76) ?hr ?_; (case hd => rfl); (case hg => rfl); (case hr => first | (go_simp; done) | (go_simp; rfl)); intro gb178 hg w15 hbox hb; have n0_ := ak_ (bt_ (bl_ HB) hb); have n1_ := ak_ (hbox); have n2_ := ak_ ((gs_ hg HB)); have n3_ := ak_ ((gs_ hg HB)); clear HB; have HB := n0_; have BK178 := n1_; have GW178 := n2_; have GE178 := n3_; clear n0_ n1_ n2_ n3_; clear hb hbox hg) | (go_at_call 35; (with_reducible refine (node_Check.calls k a0 a1 t179 _ A3.out).mono ?_); rintro e w' ⟨rfl, ⟨nd, rfl⟩⟩; (try first | exact ⟨rfl, _, World.drewN_drewN _ _ _⟩ | exact ⟨rfl, _, Eq.trans (World.drewN_drewN _ _ _) (congrArg (World.drewN _) (Nat.add_assoc _ _ _))⟩); have hcz16_0 : w15.cell? ⟨gb178, 0, none⟩ = some (.int .u64 0) := (kc_ BK178.out 0).trans rfl; have hcz16_1 : w15.cell? ⟨gb178, 1, none⟩ = some (.int .u64 0) := (kc_ BK178.out 1).trans rfl; have hfz16_0 := kf_ BK178.out 0; have hfz16_1 := kf_ BK178.out 1)); try go_wp2_with (first | ((with_reducible refine gate_dst (N := 4) rfl ?_); refine box_event ?hg (N := 4) ?hd (cs := #[.int .u64 0, .int .u64 0]) (t := 76) ?hr ?_; (case hd => rfl); (case hg => rfl); (case hr => first | (go_simp; done) | (go_simp; rfl)); intro gb178 hg w15 hbox hb; have n0_ := ak_ (bt_ (bl_ HB) hb); have n1_ := ak_ (hbox); have n2_ := ak_ ((gs_ hg HB)); have n3_ := ak_ ((gs_ hg HB)); clear HB; have HB := n0_; have BK178 := n1_; have GW178 := n2_; have GE178 := n3_; clear n0_ n1_ n2_ n3_; clear hb hbox hg) | (go_at_call 35; (with_reducible refine (node_Check.calls k a0 a1 t179 _ A3.out).mono ?_); rintro e w' ⟨rfl, ⟨nd, rfl⟩⟩; (try first | exact ⟨rfl, _, World.drewN_drewN _ _ _⟩ | exact ⟨rfl, _, Eq.trans (World.drewN_drewN _ _ _) (congrArg (World.drewN _) (Nat.add_assoc _ _ _))⟩); have hcz16_0 : w15.cell? ⟨gb178, 0, none⟩ = some (.int .u64 0) := (kc_ BK178.out 0).trans rfl; have hcz16_1 : w15.cell? ⟨gb178, 1, none⟩ = some (.int .u64 0) := (kc_ BK178.out 1).trans rfl; have hfz16_0 := kf_ BK178.out 0; have hfz16_1 := kf_ BK178.out 1)))
   refine bodyPost_ret (results_ct rfl _ _ gb178 76 #[.int .u64 0, .int .u64 0] (0, 0) _ rfl (by (with_reducible repeat (first | refine kn_ ?_ _ | refine kd_ ?_ | refine ka_ ?_ _)); refine blk_put (cs := #[.int .u64 0, .int .u64 0]) ?_ 1 _ rfl; (with_reducible repeat (first | refine kn_ ?_ _ | refine kd_ ?_ | refine ka_ ?_ _)); refine blk_put (cs := #[.int .u64 0, .int .u64 0]) ?_ 0 _ rfl; (with_reducible repeat (first | refine kn_ ?_ _ | refine kd_ ?_ | refine ka_ ?_ _)); exact BK178.out) underlying76 rfl (by kernel_rfl)) rfl ?_
   exact ⟨by first | rfl | (simp <;> rfl) | (simp [*] <;> rfl), by repeat (first | (with_reducible first | exact HB.out | apply ba_ | apply bn_ | apply bd_ | refine below_set ?_ GE178.out) | exact HB.out)⟩
def slices_Clone_uint64_uint64.f (l0 : List Int) : Option (List Int) := if l0.length < 17592186044416 then some l0 else none
set_option maxHeartbeats 8000000 in
set_option maxRecDepth 100000 in
theorem slices_Clone_uint64_uint64.calls (A0 : Option Addr) (c0 : Nat) (l0 : List Int) (r : List Int) (w : World) (hr0 : Kd.C (Kd.int .u64) w A0 l0.length l0) (hc0 : l0.length ≤ c0) (h : slices_Clone_uint64_uint64.f l0 = some r) :
   Calls Tryz.prog 91 #[.slice A0 l0.length c0] w fun e w' => ∃ v0_ : Value, e = .returned (v0_) ∧ Kd.R (Kd.int .u64) 23 w' w.heap.size (fun _ => True) v0_ r ∧ Below w.heap.size w w' := by
  have hl : l0.length < 17592186044416 := by
   by_cases c : l0.length < 17592186044416
   ·exact c
   ·simp [slices_Clone_uint64_uint64.f, c] at h
  obtain rfl : l0 = r := by simpa [slices_Clone_uint64_uint64.f, hl] using h
  clear h
  have q22 : ∀ (w : World) (a : Option Addr) (n c n' c' : Nat), (binOp .eql 22 (.slice a n c) (.slice none n' c')).run Tryz.prog w = .ok (.bool a.isNone) w := fun w a n c n' c' => Lib.run_eql_slice_nil w _ _ a n c n' c' underlying22
  cases A0 with
  | none =>
   have h0 : l0 = [] := by
    apply List.length_eq_zero_iff.1
    by_cases hz : 0 < l0.length
    ·obtain ⟨_, h, _⟩ := hr0.2.2 hz
     cases h
    ·omega
   subst h0
   clear hr0
   have i0 : (none : Option Addr).isNone = true := rfl
   go_enter func91, ntmps91
   go_wp2
   go_ret
   exact ⟨_, rfl, Kd.R_nil _ _ _ _ _, Below.refl _ _⟩
  | some ad =>
   have HR0 := ak_ hr0
   clear hr0
   have hR0 : Kd.R (Kd.int .u64) 23 (w.alloc (.cells #[] 23)) w.heap.size (fun _ => True) (.slice (some ⟨w.heap.size, 0, none⟩) 0 0) [] := ⟨fun _ _ => trivial, [], (by have h := World.ownsRow_lit (base := w.heap.size) (e := 23) (size := 1) w #[] 0 (Nat.le_refl _) (by simp only [maxLen]; omega) rfl; simpa [Kd.int, Kd.scalar] using h), ⟨rfl, fun i p hi => by simp at hi⟩⟩
   have i0 : (some ad : Option Addr).isNone = false := rfl
   go_enter func91, ntmps91
   go_wp2_with (first | (at_builtin; refine Kd.R_append_rows (Kd.int .u64) (w0 := w) w.heap.size rfl (.tmp 5) (.tmp 6) 22 23 (.int .u64 0) 8 rfl underlying22 info23 rfl (by decide) (by omega) (.slice (some ⟨w.heap.size, 0, none⟩) 0 0) [] l0 _ _ _ (fun _ => True) (fun _ => False) rfl rfl hR0 (Kd.C_alloc HR0.out _) (fun _ _ h => h) (fun _ h => h.elim) (fun _ _ => trivial) (ba_ (Below.refl _ _) _) (by simp) (by simp; omega) ?_; intro v1 w1 ho hb hg hat; clear hg hat; have HO := ak_ ho; have HB := ak_ hb; clear ho hb))
   go_ret
   exact ⟨_, rfl, HO.out, HB.out⟩
def leaf_Below.j0 : Nat → List Int → Bool → Int → Int → Option (List Int × Int)
  | 0, _, _, _, _ => none
  | k + 1, x1, x27, x185000, x185001 => if x27 = true then (some (([] : List Int), 1)) else ((slices_BinarySearch_uint64_uint64.f k x1 x185000).bind fun bt186 => ((slices_BinarySearch_uint64_uint64.f k x1 (IntKind.u64.wrap (x185001 + 1))).bind fun bt188 => (if 0 ≤ bt186.1 then (if bt186.1 ≤ bt188.1 then (if bt188.1 ≤ (x1.length : Int) then ((slices_Clone_uint64_uint64.f ((x1.take (bt188.1 : Int).toNat).drop (bt186.1 : Int).toNat)).bind fun t191 => (some (t191, 0))) else (none)) else (none)) else (none))))
def leaf_Below.f (k : Nat) (a0 : Int) (l1 : List Int) (a2 : Int) : Option (List Int × Int) := (node_Leaves.f k a0 a2).bind fun bt181 => (if bt181.2.2 = 0 then ((leaf_Check.f k a0 l1).bind fun t185 => (leaf_Below.j0 k l1 (t185 != 0) bt181.1 bt181.2.1)) else (leaf_Below.j0 k l1 true bt181.1 bt181.2.1))
set_option maxHeartbeats 8000000 in
set_option maxRecDepth 100000 in
theorem leaf_Below.calls (k : Nat) (a0 : Int) (A1 : Option Addr) (c1 : Nat) (l1 : List Int) (a2 : Int) (r1 : List Int) (r2 : Int) (w : World) (hr1 : Kd.C (Kd.int .u64) w A1 l1.length l1) (hc1 : l1.length ≤ c1) (h : leaf_Below.f k a0 l1 a2 = some (r1, r2)) :
   Calls Tryz.prog 70 #[.int .i64 a0, .slice A1 l1.length c1, .int .u64 a2] w fun e w' => ∃ v0_ : Value, e = .returned (.tuple #[v0_, .int .i64 r2]) ∧ Kd.R (Kd.int .u64) 23 w' w.heap.size (fun _ => True) v0_ r1 ∧ Below w.heap.size w w' := by
  have hu76 := underlying76
  have HR1 := ak_ hr1
  have HC1 := ak_ hc1
  clear hr1 hc1
  have HB := ak_ (Below.refl w.heap.size w)
  have H : ((node_Leaves.f k a0 a2).bind fun bt181 => (if bt181.2.2 = 0 then ((leaf_Check.f k a0 l1).bind fun t185 => (leaf_Below.j0 k l1 (t185 != 0) bt181.1 bt181.2.1)) else (leaf_Below.j0 k l1 true bt181.1 bt181.2.1))) = some (r1, r2) := h
  clear h
  replace H := bind_eq_some_iff.mp H
  obtain ⟨⟨t181, t182, t183⟩, A40, H⟩ := H
  replace H : (if t183 = 0 then ((leaf_Check.f k a0 l1).bind fun t185 => (leaf_Below.j0 k l1 (t185 != 0) t181 t182)) else (leaf_Below.j0 k l1 true t181 t182)) = some (r1, r2) := H
  have A4 := ak_ A40
  clear A40
  have HC5 := ak_ H
  clear H
  go_enter func70, ntmps70
  go_upto_region 2 with (first | ((with_reducible refine gate_callee (f := 58) rfl ?_); refine goesL_ (some 17) rfl rfl func58 (by kernel_rfl) rfl #[.int .i64 a0, .int .u64 a2] rfl (by (try simp only [map_toArray, map_cons, map_nil]); first | done | rfl) ?_; (with_reducible refine (node_Leaves.calls k a0 a2 t181 t182 t183 _ A4.out).mono ?_); rintro e w6 ⟨rfl, hb⟩; refine ⟨_, rfl, ?_⟩; have n0_ := ak_ (bt_ (bl_ HB) hb); clear HB; have HB := n0_; clear n0_; (try clear hb); (try clear hk)) | ((with_reducible refine gate_dst (N := 8) rfl ?_); refine box_event ?hg (N := 8) ?hd (cs := #[.int .u64 0, .int .u64 0]) (t := 76) ?hr ?_; (case hd => rfl); (case hg => rfl); (case hr => first | (go_simp; done) | (go_simp; rfl)); intro gb184 hg w7 hbox hb; have n0_ := ak_ (bt_ (bl_ HB) hb); have n1_ := ak_ (hbox); have n2_ := ak_ ((gs_ hg HB)); have n3_ := ak_ ((gs_ hg HB)); clear HB; have HB := n0_; have BK184 := n1_; have GW184 := n2_; have GE184 := n3_; clear n0_ n1_ n2_ n3_; clear hb hbox hg; have hcz8_0 : w7.cell? ⟨gb184, 0, none⟩ = some (.int .u64 0) := (kc_ BK184.out 0).trans rfl; have hcz8_1 : w7.cell? ⟨gb184, 1, none⟩ = some (.int .u64 0) := (kc_ BK184.out 1).trans rfl; have hfz8_0 := kf_ BK184.out 0; have hfz8_1 := kf_ BK184.out 1))
  (try simp only [Act.put, setIfInBounds_toArray, set_cons_zero, set_cons_succ])
  go_cut [27] (fun v27 wc => ∃ (kq : Nat) (x27_4 : Bool), v27 = .bool x27_4 ∧ Aside0 (leaf_Below.j0 kq l1 x27_4 t181 t182 = some (r1, r2)) ∧ Aside0 (kq ≤ k) ∧ Aside0 (wc.heap[gb184]? = some (.cells #[.int .u64 t181, .int .u64 t182] 76 (0, 0))) ∧ Aside0 (Below w.heap.size w wc))
  case first =>
   have H := HC5.out
   clear HC5
   by_cases c9 : t183 = 0
   ·rw [if_pos c9] at H
    have c9b0 : (t183 == 0) = true := beq_iff_eq.mpr c9
    have c9b1 : (t183 != 0) = false := bne_eq_false_iff_eq.mpr c9
    clear c9
    (first | rw [c9b0] | (simp only [i64_w, i32_w]; rw [c9b0]) | skip)
    replace H := bind_eq_some_iff.mp H
    obtain ⟨t185, A100, H⟩ := H
    replace H : (leaf_Below.j0 k l1 (t185 != 0) t181 t182) = some (r1, r2) := H
    have A10 := ak_ A100
    clear A100
    have H' := ak_ H
    clear H
    go_wp2_with (first | (go_at_call 67; (with_reducible refine (leaf_Check.calls k a0 _ _ l1 t185 _ ?side1 ?side2 A10.out).mono ?_); (case side1 => exact Kd.C_below HR1.out (by repeat (first | (with_reducible first | exact HB.out | apply ba_ | apply bn_ | apply bd_ | refine below_set ?_ GE184.out) | exact HB.out))); (case side2 => exact HC1.out); rintro e w' ⟨rfl, ⟨nd, rfl⟩⟩))
    go_meet
    case rel => exact ⟨_, ((t185 != 0)), (by first | rfl | (simp; done) | (simp [*]; done)), H', ⟨by first | omega | exact Nat.le_refl _⟩, ⟨by (with_reducible repeat (first | refine kn_ ?_ _ | refine kd_ ?_ | refine ka_ ?_ _)); refine blk_put (cs := #[.int .u64 t181, .int .u64 0]) ?_ 1 _ rfl; (with_reducible repeat (first | refine kn_ ?_ _ | refine kd_ ?_ | refine ka_ ?_ _)); refine blk_put (cs := #[.int .u64 0, .int .u64 0]) ?_ 0 _ rfl; (with_reducible repeat (first | refine kn_ ?_ _ | refine kd_ ?_ | refine ka_ ?_ _)); exact BK184.out⟩, ⟨by repeat (first | (with_reducible first | exact HB.out | apply ba_ | apply bn_ | apply bd_ | refine below_set ?_ GE184.out) | exact HB.out)⟩⟩
   ·rw [if_neg c9] at H
    have c9b0 : (t183 == 0) = false := beq_eq_false_iff_ne.mpr c9
    have c9b1 : (t183 != 0) = true := bne_iff_ne.mpr c9
    (first | rw [c9b0] | (simp only [i64_w, i32_w]; rw [c9b0]) | skip)
    have H' := ak_ H
    clear H
    go_wp2
    go_meet
    case rel => exact ⟨_, (true), (by first | rfl | (simp; done) | (simp [*]; done)), H', ⟨by first | omega | exact Nat.le_refl _⟩, ⟨by (with_reducible repeat (first | refine kn_ ?_ _ | refine kd_ ?_ | refine ka_ ?_ _)); refine blk_put (cs := #[.int .u64 t181, .int .u64 0]) ?_ 1 _ rfl; (with_reducible repeat (first | refine kn_ ?_ _ | refine kd_ ?_ | refine ka_ ?_ _)); refine blk_put (cs := #[.int .u64 0, .int .u64 0]) ?_ 0 _ rfl; (with_reducible repeat (first | refine kn_ ?_ _ | refine kd_ ?_ | refine ka_ ?_ _)); exact BK184.out⟩, ⟨by repeat (first | (with_reducible first | exact HB.out | apply ba_ | apply bn_ | apply bd_ | refine below_set ?_ GE184.out) | exact HB.out)⟩⟩
  case rest =>
   clear HC5
   try clear c1
   try clear p2
   try clear c5
   try clear c7
   try clear c9
   try clear c9b0
   try clear c9b1
   try clear hcz8_0
   try clear hcz8_1
   try clear hfz8_0
   try clear hfz8_1
   obtain ⟨kq, x27_4, rfl, HA, HJ4, BK184, HB⟩ := hcut
   cases kq with
   | zero => exact absurd HA.out (by simp [leaf_Below.j0])
   | succ kj4 =>
    have H := HA.out
    clear HA
    simp only [leaf_Below.j0] at H
    by_cases c11 : x27_4 = true
    ·subst c11
     have H1 : (some (([] : List Int), 1)) = some (r1, r2) := by rw [if_pos rfl] at H; exact H
     clear H
     have H := H1
     clear H1
     simp only [some.injEq, Prod.mk.injEq] at H
     obtain ⟨rfl, rfl⟩ := H
     go_wp2
     go_ret2
     exact ⟨_, by first | rfl | (simp <;> rfl) | (simp [*] <;> rfl), by first | exact Kd.R_nil _ _ _ _ _ | exact Kd.N_nil _ _ _ _ _ | exact Kd.V_nil _ _ _ _ _ | exact Kd.Q_nil _ _ _ _ _ | exact Kd.S_nil _ _ _ _ _, by repeat (first | (with_reducible first | exact HB.out | apply ba_ | apply bn_ | apply bd_ | refine below_set ?_ GE184.out) | exact HB.out)⟩
    ·replace c11 := Bool.eq_false_iff.mpr c11
     subst c11
     have H1 : ((slices_BinarySearch_uint64_uint64.f kj4 l1 t181).bind fun bt186 => ((slices_BinarySearch_uint64_uint64.f kj4 l1 (IntKind.u64.wrap (t182 + 1))).bind fun bt188 => (if 0 ≤ bt186.1 then (if bt186.1 ≤ bt188.1 then (if bt188.1 ≤ (l1.length : Int) then ((slices_Clone_uint64_uint64.f ((l1.take (bt188.1 : Int).toNat).drop (bt186.1 : Int).toNat)).bind fun t191 => (some (t191, 0))) else (none)) else (none)) else (none)))) = some (r1, r2) := by rw [if_neg (show ¬ (false = true) by decide)] at H; exact H
     clear H
     have H := H1
     clear H1
     replace H := bind_eq_some_iff.mp H
     obtain ⟨⟨t186, t187⟩, A120, H⟩ := H
     replace H : ((slices_BinarySearch_uint64_uint64.f kj4 l1 (IntKind.u64.wrap (t182 + 1))).bind fun bt188 => (if 0 ≤ t186 then (if t186 ≤ bt188.1 then (if bt188.1 ≤ (l1.length : Int) then ((slices_Clone_uint64_uint64.f ((l1.take (bt188.1 : Int).toNat).drop (t186 : Int).toNat)).bind fun t191 => (some (t191, 0))) else (none)) else (none)) else (none))) = some (r1, r2) := H
     have A12 := ak_ A120
     clear A120
     replace H := bind_eq_some_iff.mp H
     obtain ⟨⟨t188, t189⟩, A130, H⟩ := H
     replace H : (if 0 ≤ t186 then (if t186 ≤ t188 then (if t188 ≤ (l1.length : Int) then ((slices_Clone_uint64_uint64.f ((l1.take (t188 : Int).toNat).drop (t186 : Int).toNat)).bind fun t191 => (some (t191, 0))) else (none)) else (none)) else (none)) = some (r1, r2) := H
     have A13 := ak_ A130
     clear A130
     by_cases c14 : 0 ≤ t186
     ·rw [if_pos c14] at H
      have c14b0 := eq_true c14
      have c14b1 := decide_eq_true c14
      clear c14
      by_cases c15 : t186 ≤ t188
      ·rw [if_pos c15] at H
       have c15b0 := eq_true c15
       have c15b1 := decide_eq_true c15
       clear c15
       by_cases c16 : t188 ≤ (l1.length : Int)
       ·rw [if_pos c16] at H
        have c16b0 := eq_true c16
        have c16b1 := decide_eq_true c16
        clear c16
        replace H := bind_eq_some_iff.mp H
        obtain ⟨t191, A170, H⟩ := H
        replace H : (some (t191, 0)) = some (r1, r2) := H
        have A17 := ak_ A170
        clear A170
        simp only [some.injEq, Prod.mk.injEq] at H
        obtain ⟨rfl, rfl⟩ := H
        have hcz18_0 : wc.cell? ⟨gb184, 0, none⟩ = some (.int .u64 t181) := (kc_ BK184.out 0).trans rfl
        have hcz18_1 : wc.cell? ⟨gb184, 1, none⟩ = some (.int .u64 t182) := (kc_ BK184.out 1).trans rfl
        have hfz18_0 := kf_ BK184.out 0
        have hfz18_1 := kf_ BK184.out 1
        go_wp2_with (first | ((with_reducible refine gate_callee (f := 90) rfl ?_); refine goesL_ (some 32) rfl rfl func90 (by kernel_rfl) rfl #[.slice A1 l1.length c1, .int .u64 t181] rfl (by (try simp only [map_toArray, map_cons, map_nil]); first | done | rfl) ?_; (with_reducible refine (slices_BinarySearch_uint64_uint64.calls kj4 _ _ l1 t181 t186 t187 _ ?side1 ?side2 A12.out).mono ?_); (case side1 => repeat (first | exact (Kd.C_below HR1.out HB.out) | (with_reducible refine Kd.C_alloc ?_ _) | (with_reducible refine Kd.C_drewN ?_ _) | (with_reducible refine Kd.C_drew ?_))); (case side2 => exact HC1.out); rintro e w' ⟨rfl, ⟨nd, rfl⟩⟩; refine ⟨_, rfl, ?_⟩) | ((with_reducible refine gate_callee (f := 90) rfl ?_); refine goesL_ (some 40) rfl rfl func90 (by kernel_rfl) rfl #[.slice A1 l1.length c1, .int .u64 (IntKind.u64.wrap (t182 + 1))] rfl (by (try simp only [map_toArray, map_cons, map_nil]); first | done | rfl) ?_; (with_reducible refine (slices_BinarySearch_uint64_uint64.calls kj4 _ _ l1 (IntKind.u64.wrap (t182 + 1)) t188 t189 _ ?side1 ?side2 A13.out).mono ?_); (case side1 => repeat (first | exact (Kd.C_below HR1.out (by repeat (first | (with_reducible first | exact HB.out | apply ba_ | apply bn_ | apply bd_ | refine below_set ?_ GE184.out) | exact HB.out))) | (with_reducible refine Kd.C_alloc ?_ _) | (with_reducible refine Kd.C_drewN ?_ _) | (with_reducible refine Kd.C_drew ?_))); (case side2 => exact HC1.out); rintro e w' ⟨rfl, ⟨nd, rfl⟩⟩; refine ⟨_, rfl, ?_⟩; obtain ⟨i019, hi019, _, hsz19, _⟩ := info_parts info23; obtain ⟨A19, hcut19, hA19, hC19⟩ := print_mid_of (P := Tryz.prog) (Value.int .u64) 0 22 23 .i64 .i64 underlying22 hi019 hsz19 A1 c1 l1 t186 t188 (od_ (by first | (with_reducible assumption) | assumption)) (by first | omega | exact od_ (by first | (with_reducible assumption) | assumption)) (od_ (by first | (with_reducible assumption) | assumption)) HC1.out; have HR190 := ak_ (Kd.C_of_reads (h1 := fun _ => rfl) (hA19 _ (Kd.reads_of_C HR1.out))); have HC190 := ak_ hC19; clear hA19 hC19 hi019 hsz19) | ((with_reducible refine gate_callee (f := 91) rfl ?_); refine goesL_ (some 47) rfl rfl func91 (by kernel_rfl) rfl #[.slice A19 ((l1.take (t188 : Int).toNat).drop (t186 : Int).toNat).length (c1 - t186.toNat)] rfl (by (try simp only [map_toArray, map_cons, map_nil]); first | done | (rw [show ((l1.take (t188 : Int).toNat).drop (t186 : Int).toNat).length = (t188.toNat - t186.toNat) from (by rw [List.length_drop, List.length_take]; have h_ : (t188 : Int) ≤ (l1.length : Int) := od_ (by first | (with_reducible assumption) | assumption); omega)] <;> rfl) | rfl | (simp only [length_drop, length_take]; rfl)) ?_; (with_reducible refine (slices_Clone_uint64_uint64.calls _ _ ((l1.take (t188 : Int).toNat).drop (t186 : Int).toNat) t191 _ ?side1 ?side2 A17.out).mono ?_); (case side1 => repeat (first | exact (Kd.C_below HR190.out (by repeat (first | (with_reducible first | exact HB.out | apply ba_ | apply bn_ | apply bd_ | refine below_set ?_ GE184.out) | exact HB.out))) | (with_reducible refine Kd.C_alloc ?_ _) | (with_reducible refine Kd.C_drewN ?_ _) | (with_reducible refine Kd.C_drew ?_))); (case side2 => exact HC190.out); rintro e w20 ⟨v192, rfl, ho0, hb⟩; refine ⟨_, rfl, ?_⟩; have n0_ := ak_ (Kd.R_lower ho0 (bz_ (by repeat (first | (with_reducible first | exact HB.out | apply ba_ | apply bn_ | apply bd_ | refine below_set ?_ GE184.out) | exact HB.out)))); have n1_ := ak_ (kb_ (g := gb184) (o := .cells #[.int .u64 t181, .int .u64 t182] 76 (0, 0)) (kl_ BK184) hb); have n2_ := ak_ (bt_ (by repeat (first | (with_reducible first | exact HB.out | apply ba_ | apply bn_ | apply bd_ | refine below_set ?_ GE184.out) | exact HB.out)) hb); clear BK184; clear HB; have HO193 := n0_; have BK184 := n1_; have HB := n2_; clear n0_ n1_ n2_; (try clear hb); (try clear hk); (try clear ho0)))
        go_ret2
        exact ⟨_, by first | rfl | (simp <;> rfl) | (simp [*] <;> rfl), by (with_reducible repeat (first | apply Kd.R_alloc | apply Kd.R_drewN | apply Kd.R_drew)); exact HO193.out, by repeat (first | (with_reducible first | exact HB.out | apply ba_ | apply bn_ | apply bd_ | refine below_set ?_ GE184.out) | exact HB.out)⟩
       ·rw [if_neg c16] at H
        exact absurd H (by simp)
      ·rw [if_neg c15] at H
       exact absurd H (by simp)
     ·rw [if_neg c14] at H
      exact absurd H (by simp)
def steiner_Is.f (k : Nat) (a0 : Int) (l1 : List Int) (a2 : Int) : Option (Bool × Int) := (leaf_Below.f k a0 l1 a2).bind fun bt194 => (some (decide ((bt194.1.length : Int) > 0), bt194.2))
set_option maxHeartbeats 8000000 in
set_option maxRecDepth 100000 in
theorem steiner_Is.calls (k : Nat) (a0 : Int) (A1 : Option Addr) (c1 : Nat) (l1 : List Int) (a2 : Int) (r1 : Bool) (r2 : Int) (w : World) (hr1 : Kd.C (Kd.int .u64) w A1 l1.length l1) (hc1 : l1.length ≤ c1) (h : steiner_Is.f k a0 l1 a2 = some (r1, r2)) :
   Calls Tryz.prog 39 #[.int .i64 a0, .slice A1 l1.length c1, .int .u64 a2] w fun e w' => e = .returned (.tuple #[.bool r1, .int .i64 r2]) ∧ Below w.heap.size w w' := by
  have HR1 := ak_ hr1
  have HC1 := ak_ hc1
  clear hr1 hc1
  have HB := ak_ (Below.refl w.heap.size w)
  have H : ((leaf_Below.f k a0 l1 a2).bind fun bt194 => (some (decide ((bt194.1.length : Int) > 0), bt194.2))) = some (r1, r2) := h
  clear h
  replace H := bind_eq_some_iff.mp H
  obtain ⟨⟨t194, t195⟩, A40, H⟩ := H
  replace H : (some (decide ((t194.length : Int) > 0), t195)) = some (r1, r2) := H
  have A4 := ak_ A40
  clear A40
  simp only [some.injEq, Prod.mk.injEq] at H
  obtain ⟨rfl, rfl⟩ := H
  go_enter func39, ntmps39
  go_wp2_with (first | ((with_reducible refine gate_callee (f := 70) rfl ?_); refine goesL_ (some 14) rfl rfl func70 (by kernel_rfl) rfl #[.int .i64 a0, .slice A1 l1.length c1, .int .u64 a2] rfl (by (try simp only [map_toArray, map_cons, map_nil]); first | done | rfl) ?_; (with_reducible refine (leaf_Below.calls k a0 _ _ l1 a2 t194 t195 _ ?side1 ?side2 A4.out).mono ?_); (case side1 => repeat (first | exact HR1.out | (with_reducible refine Kd.C_alloc ?_ _) | (with_reducible refine Kd.C_drewN ?_ _) | (with_reducible refine Kd.C_drew ?_))); (case side2 => exact HC1.out); rintro e w5 ⟨v196, rfl, ho0, hb⟩; refine ⟨_, rfl, ?_⟩; have n0_ := ak_ (Kd.R_lower ho0 (bz_ (bl_ HB))); have n1_ := ak_ (bt_ (bl_ HB) hb); clear HB; have HO197 := n0_; have HB := n1_; clear n0_ n1_; (try clear hb); (try clear hk); (try clear ho0); obtain ⟨Ao6, co6, eo6⟩ := Kd.R_slice HO197.out; subst eo6))
  go_ret2
  exact ⟨by first | rfl | (simp <;> rfl) | (simp [*] <;> rfl), bl_ HB⟩
def node_both.f (k : Nat) (a0 : Int) (a1 : Int) (a2 : Int) : Option (Int) := (node_Check.f k a0 a1).bind fun t198 => (if t198 = 0 then ((node_Check.f k a0 a2).bind fun t199 => (if t199 = 0 then (some 0) else (some 1))) else (some 1))
set_option maxHeartbeats 8000000 in
set_option maxRecDepth 100000 in
theorem node_both.calls (k : Nat) (a0 : Int) (a1 : Int) (a2 : Int) (r : Int) (w : World) (h : node_both.f k a0 a1 a2 = some r) :
   Calls Tryz.prog 85 #[.int .i64 a0, .int .u64 a1, .int .u64 a2] w fun e w' => e = .returned (.int .i64 r) ∧ Drawn0 w w' := by
  have H : ((node_Check.f k a0 a1).bind fun t198 => (if t198 = 0 then ((node_Check.f k a0 a2).bind fun t199 => (if t199 = 0 then (some 0) else (some 1))) else (some 1))) = some r := h
  clear h
  replace H := bind_eq_some_iff.mp H
  obtain ⟨t198, A40, H⟩ := H
  replace H : (if t198 = 0 then ((node_Check.f k a0 a2).bind fun t199 => (if t199 = 0 then (some 0) else (some 1))) else (some 1)) = some r := H
  have A4 := ak_ A40
  clear A40
  by_cases c5 : t198 = 0
  ·rw [if_pos c5] at H
   have c5b0 : (t198 == 0) = true := beq_iff_eq.mpr c5
   have c5b1 : (t198 != 0) = false := bne_eq_false_iff_eq.mpr c5
   clear c5
   replace H := bind_eq_some_iff.mp H
   obtain ⟨t199, A60, H⟩ := H
   replace H : (if t199 = 0 then (some 0) else (some 1)) = some r := H
   have A6 := ak_ A60
   clear A60
   by_cases c7 : t199 = 0
   ·rw [if_pos c7] at H
    have c7b0 : (t199 == 0) = true := beq_iff_eq.mpr c7
    have c7b1 : (t199 != 0) = false := bne_eq_false_iff_eq.mpr c7
    clear c7
    obtain rfl := Option.some.inj H
    go_enter func85, ntmps85
    go_wp2_with (first | ((with_reducible refine gate_callee (f := 35) rfl ?_); refine goesL_ (some 9) rfl rfl func35 (by kernel_rfl) rfl #[.int .i64 a0, .int .u64 a1] rfl (by (try simp only [map_toArray, map_cons, map_nil]); first | done | rfl) ?_; (with_reducible refine (node_Check.calls k a0 a1 t198 _ A4.out).mono ?_); rintro e w' ⟨rfl, ⟨nd, rfl⟩⟩; refine ⟨_, rfl, ?_⟩) | (go_at_call 35; (with_reducible refine (node_Check.calls k a0 a2 t199 _ A6.out).mono ?_); rintro e w' ⟨rfl, ⟨nd, rfl⟩⟩))
    go_ret
    exact ⟨by first | rfl | (simp; done) | (simp [*]; done), by repeat (first | exact Drawn0.refl _ | apply Drawn0.step)⟩
   ·rw [if_neg c7] at H
    have c7b0 : (t199 == 0) = false := beq_eq_false_iff_ne.mpr c7
    have c7b1 : (t199 != 0) = true := bne_iff_ne.mpr c7
    obtain rfl := Option.some.inj H
    go_enter func85, ntmps85
    go_wp2_with (first | ((with_reducible refine gate_callee (f := 35) rfl ?_); refine goesL_ (some 9) rfl rfl func35 (by kernel_rfl) rfl #[.int .i64 a0, .int .u64 a1] rfl (by (try simp only [map_toArray, map_cons, map_nil]); first | done | rfl) ?_; (with_reducible refine (node_Check.calls k a0 a1 t198 _ A4.out).mono ?_); rintro e w' ⟨rfl, ⟨nd, rfl⟩⟩; refine ⟨_, rfl, ?_⟩) | (go_at_call 35; (with_reducible refine (node_Check.calls k a0 a2 t199 _ A6.out).mono ?_); rintro e w' ⟨rfl, ⟨nd, rfl⟩⟩))
    go_ret
    exact ⟨by first | rfl | (simp; done) | (simp [*]; done), by repeat (first | exact Drawn0.refl _ | apply Drawn0.step)⟩
  ·rw [if_neg c5] at H
   have c5b0 : (t198 == 0) = false := beq_eq_false_iff_ne.mpr c5
   have c5b1 : (t198 != 0) = true := bne_iff_ne.mpr c5
   obtain rfl := Option.some.inj H
   go_enter func85, ntmps85
   go_wp2_with (first | ((with_reducible refine gate_callee (f := 35) rfl ?_); refine goesL_ (some 9) rfl rfl func35 (by kernel_rfl) rfl #[.int .i64 a0, .int .u64 a1] rfl (by (try simp only [map_toArray, map_cons, map_nil]); first | done | rfl) ?_; (with_reducible refine (node_Check.calls k a0 a1 t198 _ A4.out).mono ?_); rintro e w' ⟨rfl, ⟨nd, rfl⟩⟩; refine ⟨_, rfl, ?_⟩))
   go_ret
   exact ⟨by first | rfl | (simp; done) | (simp [*]; done), by repeat (first | exact Drawn0.refl _ | apply Drawn0.step)⟩
end Go.Proofs.YtmffkfakcbopcaaGreat.MP
