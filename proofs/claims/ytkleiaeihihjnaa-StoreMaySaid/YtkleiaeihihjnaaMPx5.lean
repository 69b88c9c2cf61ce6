-- written by a program of this session (wip/tools/mprint.sh) for this seat
import Derived.Test.YtkleiaeihihjnaaMPx0
import Derived.Test.YtkleiaeihihjnaaMPx2
import Derived.Test.YtkleiaeihihjnaaMPx3
import Derived.Test.YtkleiaeihihjnaaMPx4
import Derived.WalkMore
import Derived.Deep.RegionHeld3
namespace Go.Proofs.Ytkleiaeihihjnaa.MP
open Go.RowKit Go.Proofs.YtkleiaeihihjnaaW.PrintWords Go.Proofs.YtkleiaeihihjnaaW.PrintLast Go.Proofs.YtkleiaeihihjnaaW.PrintMore
open Option (bind_eq_some_iff some.injEq)
open _root_.Go.Proofs.Try
open List (setIfInBounds_toArray set_cons_zero set_cons_succ map_toArray map_cons map_nil length_drop length_take)
attribute [local go_sem] max2_int min2_int max_two min_two max_three min_three max_four min_four
set_option linter.unusedVariables false
set_option linter.unusedSimpArgs false
def bA5 (k n : Nat) : Array Bool := (Array.range n).map fun i => decide (i < k)
def mix_Mix.l0 : Nat → Int → Int → Int → Option (Int × Int)
  | 0, _, _, _ => none
  | k + 1, x3, x4, x10 => if x10 < 8 then ((bits_RotateLeft64.f (IntKind.u64.wrap ((IntKind.u64.wrap (x3 + x4)) + (IntKind.u64.wrap (x10 * 11400714819323198485)))) 13).bind fun t202 => ((bits_RotateLeft64.f (Go.bits .xor .u64 x4 t202) 29).bind fun t203 => (mix_Mix.l0 k (Go.bits .xor .u64 t202 t203) t203 (IntKind.u64.wrap (x10 + 1))))) else (some (x3, x4))
def mix_Mix.f (k : Nat) (a0_0 : Int) (a0_1 : Int) : Option (Int × Int) := mix_Mix.l0 k a0_0 a0_1 0
theorem mix_Mix.mono_l : ∀ k, (∀ y0 y1 y2, LeO (mix_Mix.l0 k y0 y1 y2) (mix_Mix.l0 (k + 1) y0 y1 y2))
  | 0 => fun _ _ _ r h => by simp [mix_Mix.l0] at h
  | k + 1 => by
   have ih0 := mix_Mix.mono_l k
   ·intro y0 y1 y2
    unfold mix_Mix.l0
    repeat' first | (with_reducible first | exact ih0 .. | exact LeO.refl _ | exact LeO.none _ | refine LeO.ite ?_ ?_ | refine LeO.bind ?_ (fun _ => ?_)) | exact ih0 .. | refine LeO.ite ?_ ?_ | refine LeO.bind ?_ (fun _ => ?_)
theorem mix_Mix.mono : ∀ a0 a1 k, LeO (mix_Mix.f k a0 a1) (mix_Mix.f (k + 1) a0 a1) := by
  intro a0 a1 k
  have ih0 := mix_Mix.mono_l k
  unfold mix_Mix.f
  repeat' first | (with_reducible first | exact ih0 .. | exact LeO.refl _ | exact LeO.none _ | refine LeO.ite ?_ ?_ | refine LeO.bind ?_ (fun _ => ?_)) | exact ih0 .. | refine LeO.ite ?_ ?_ | refine LeO.bind ?_ (fun _ => ?_)
set_option maxHeartbeats 8000000 in
set_option maxRecDepth 100000 in
theorem mix_Mix.calls (k : Nat) (a0_0 : Int) (a0_1 : Int) (r1 : Int) (r2 : Int) (w : World) (h : mix_Mix.f k a0_0 a0_1 = some (r1, r2)) :
   Calls Try.prog 112 #[.agg #[.int .u64 a0_0, .int .u64 a0_1]] w fun e w' => e = .returned (.agg #[.int .u64 r1, .int .u64 r2]) ∧ Below w.heap.size w w' := by
  have hu24 := underlying24
  have HB := ak_ (Below.refl w.heap.size w)
  have H : (mix_Mix.l0 k a0_0 a0_1 0) = some (r1, r2) := h
  clear h
  have H' := ak_ H
  clear H
  go_enter func112, ntmps112
  go_wp2_with (first | ((with_reducible refine gate_dst (N := 1) rfl ?_); refine bx_ 1 #[.int .u64 a0_0, .int .u64 a0_1] 24 ?_; intro gb200 hg w2 hbox hb; have BK200 := ak_ hbox; have GW200 := ak_ (gs_ hg HB); have GE200 := ak_ (gs_ hg HB); replace HB := ak_ (bt_ (bl_ HB) hb); clear hb hbox hg) | ((with_reducible refine gate_dst (N := 2) rfl ?_); refine bx_ 2 #[.int .u64 0, .int .u64 0] 24 ?_; intro gb201 hg w3 hbox hb; have BK201 := ak_ hbox; have GW201 := ak_ (gw1_ HB GE200 hg); have GE201 := ak_ (gw1_ HB GE200 hg); replace HB := ak_ (bt_ (bw1_ HB GE200) hb); have NB200_201 := ak_ (nl_ hg BK200); have NB201_200 := ak_ (nr_ hg BK200); replace BK200 := ak_ (kb_ (kl_ BK200) hb); clear hb hbox hg; have hnb4 := NB200_201.out; have hnc4 := NB201_200.out; obtain ⟨hcz5_0, hcz5_1, hfz5_0, hfz5_1⟩ := kc2_ BK200.out))
  repeat (go_quiet (first | ((with_reducible refine gate_dst (N := 1) rfl ?_); refine bx_ 1 #[.int .u64 a0_0, .int .u64 a0_1] 24 ?_; intro gb200 hg w2 hbox hb; have BK200 := ak_ hbox; have GW200 := ak_ (gs_ hg HB); have GE200 := ak_ (gs_ hg HB); replace HB := ak_ (bt_ (bl_ HB) hb); clear hb hbox hg) | ((with_reducible refine gate_dst (N := 2) rfl ?_); refine bx_ 2 #[.int .u64 0, .int .u64 0] 24 ?_; intro gb201 hg w3 hbox hb; have BK201 := ak_ hbox; have GW201 := ak_ (gw1_ HB GE200 hg); have GE201 := ak_ (gw1_ HB GE200 hg); replace HB := ak_ (bt_ (bw1_ HB GE200) hb); have NB200_201 := ak_ (nl_ hg BK200); have NB201_200 := ak_ (nr_ hg BK200); replace BK200 := ak_ (kb_ (kl_ BK200) hb); clear hb hbox hg; have hnb4 := NB200_201.out; have hnc4 := NB201_200.out; obtain ⟨hcz5_0, hcz5_1, hfz5_0, hfz5_1⟩ := kc2_ BK200.out)); try go_wp2_with (first | ((with_reducible refine gate_dst (N := 1) rfl ?_); refine bx_ 1 #[.int .u64 a0_0, .int .u64 a0_1] 24 ?_; intro gb200 hg w2 hbox hb; have BK200 := ak_ hbox; have GW200 := ak_ (gs_ hg HB); have GE200 := ak_ (gs_ hg HB); replace HB := ak_ (bt_ (bl_ HB) hb); clear hb hbox hg) | ((with_reducible refine gate_dst (N := 2) rfl ?_); refine bx_ 2 #[.int .u64 0, .int .u64 0] 24 ?_; intro gb201 hg w3 hbox hb; have BK201 := ak_ hbox; have GW201 := ak_ (gw1_ HB GE200 hg); have GE201 := ak_ (gw1_ HB GE200 hg); replace HB := ak_ (bt_ (bw1_ HB GE200) hb); have NB200_201 := ak_ (nl_ hg BK200); have NB201_200 := ak_ (nr_ hg BK200); replace BK200 := ak_ (kb_ (kl_ BK200) hb); clear hb hbox hg; have hnb4 := NB200_201.out; have hnc4 := NB201_200.out; obtain ⟨hcz5_0, hcz5_1, hfz5_0, hfz5_1⟩ := kc2_ BK200.out)))
  go_loopg [3, 4, 10] k (fun kq v3 v4 v10 w' => ∃ (x3_1 : Int) (x4_1 : Int) (x10_1 : Int), v3 = .int .u64 x3_1 ∧ v4 = .int .u64 x4_1 ∧ v10 = .int .u64 x10_1 ∧ Aside0 (mix_Mix.l0 kq x3_1 x4_1 x10_1 = some (r1, r2)) ∧ Aside0 (kq ≤ k) ∧ Aside0 (w'.heap[gb200]? = some (.cells #[.int .u64 a0_0, .int .u64 a0_1] 24 (0, 0))) ∧ Aside0 (w'.heap[gb201]? = some (.cells #[.int .u64 0, .int .u64 0] 24 (0, 0))) ∧ Aside0 (Below w.heap.size w w'))
  case atStart => exact ⟨(a0_0), (a0_1), (0), rf_, rf_, rf_, H', ⟨Nat.le_refl _⟩, ⟨kl_ BK200⟩, ⟨kl_ BK201⟩, ⟨bw2_ HB GE200 GE201⟩⟩
  case round =>
   clear H'
   try clear c1
   try clear p2
   try clear c4
   try clear hcz5_0 hcz5_1
   try clear hfz5_0 hfz5_1
   obtain ⟨x3_1, x4_1, x10_1, rfl, rfl, rfl, HA, HK1, BK200, BK201, HB⟩ := hrel
   cases gk with
   | zero => exact absurd HA.out (by simp [mix_Mix.l0])
   | succ k1 =>
    have H := HA.out
    clear HA
    simp only [mix_Mix.l0] at H
    by_cases c6 : x10_1 < 8
    ·rw [if_pos c6] at H
     have c6b0 := decide_eq_true c6
     clear c6
     replace H := bind_eq_some_iff.mp H
     obtain ⟨t202, A70, H⟩ := H
     replace H : ((bits_RotateLeft64.f (Go.bits .xor .u64 x4_1 t202) 29).bind fun t203 => (mix_Mix.l0 k1 (Go.bits .xor .u64 t202 t203) t203 (IntKind.u64.wrap (x10_1 + 1)))) = some (r1, r2) := H
     have A7 := ak_ A70
     clear A70
     replace H := bind_eq_some_iff.mp H
     obtain ⟨t203, A80, H⟩ := H
     replace H : (mix_Mix.l0 k1 (Go.bits .xor .u64 t202 t203) t203 (IntKind.u64.wrap (x10_1 + 1))) = some (r1, r2) := H
     have A8 := ak_ A80
     clear A80
     have H' := ak_ H
     clear H
     go_wp2_with (first | (go_at_call 116; (with_reducible refine (bits_RotateLeft64.calls (IntKind.u64.wrap ((IntKind.u64.wrap (x3_1 + x4_1)) + (IntKind.u64.wrap (x10_1 * 11400714819323198485)))) 13 t202 _ A7.out).mono ?_); rintro e w' ⟨rfl, ⟨nd, rfl⟩⟩; (try first | exact ⟨rfl, _, World.drewN_drewN _ _ _⟩ | exact ⟨rfl, _, Eq.trans (World.drewN_drewN _ _ _) (congrArg (World.drewN _) (Nat.add_assoc _ _ _))⟩)) | (go_at_call 116; (with_reducible refine (bits_RotateLeft64.calls (Go.bits .xor .u64 x4_1 t202) 29 t203 _ A8.out).mono ?_); rintro e w' ⟨rfl, ⟨nd, rfl⟩⟩; (try first | exact ⟨rfl, _, World.drewN_drewN _ _ _⟩ | exact ⟨rfl, _, Eq.trans (World.drewN_drewN _ _ _) (congrArg (World.drewN _) (Nat.add_assoc _ _ _))⟩)))
     repeat (go_quiet (first | (go_at_call 116; (with_reducible refine (bits_RotateLeft64.calls (IntKind.u64.wrap ((IntKind.u64.wrap (x3_1 + x4_1)) + (IntKind.u64.wrap (x10_1 * 11400714819323198485)))) 13 t202 _ A7.out).mono ?_); rintro e w' ⟨rfl, ⟨nd, rfl⟩⟩; (try first | exact ⟨rfl, _, World.drewN_drewN _ _ _⟩ | exact ⟨rfl, _, Eq.trans (World.drewN_drewN _ _ _) (congrArg (World.drewN _) (Nat.add_assoc _ _ _))⟩)) | (go_at_call 116; (with_reducible refine (bits_RotateLeft64.calls (Go.bits .xor .u64 x4_1 t202) 29 t203 _ A8.out).mono ?_); rintro e w' ⟨rfl, ⟨nd, rfl⟩⟩; (try first | exact ⟨rfl, _, World.drewN_drewN _ _ _⟩ | exact ⟨rfl, _, Eq.trans (World.drewN_drewN _ _ _) (congrArg (World.drewN _) (Nat.add_assoc _ _ _))⟩))); try go_wp2_with (first | (go_at_call 116; (with_reducible refine (bits_RotateLeft64.calls (IntKind.u64.wrap ((IntKind.u64.wrap (x3_1 + x4_1)) + (IntKind.u64.wrap (x10_1 * 11400714819323198485)))) 13 t202 _ A7.out).mono ?_); rintro e w' ⟨rfl, ⟨nd, rfl⟩⟩; (try first | exact ⟨rfl, _, World.drewN_drewN _ _ _⟩ | exact ⟨rfl, _, Eq.trans (World.drewN_drewN _ _ _) (congrArg (World.drewN _) (Nat.add_assoc _ _ _))⟩)) | (go_at_call 116; (with_reducible refine (bits_RotateLeft64.calls (Go.bits .xor .u64 x4_1 t202) 29 t203 _ A8.out).mono ?_); rintro e w' ⟨rfl, ⟨nd, rfl⟩⟩; (try first | exact ⟨rfl, _, World.drewN_drewN _ _ _⟩ | exact ⟨rfl, _, Eq.trans (World.drewN_drewN _ _ _) (congrArg (World.drewN _) (Nat.add_assoc _ _ _))⟩))))
     go_roundg k1
     case measure => have := HK1.out; omega
     case rel => exact ⟨(Go.bits .xor .u64 t202 t203), (t203), (IntKind.u64.wrap (x10_1 + 1)), rf_, rf_, rf_, H', ⟨by have := HK1.out; omega⟩, ⟨kl_ BK200⟩, ⟨kl_ BK201⟩, ⟨bw2_ HB GE200 GE201⟩⟩
    ·rw [if_neg c6] at H
     have c6b0 := decide_eq_false c6
     clear c6
     simp only [some.injEq, Prod.mk.injEq] at H
     obtain ⟨rfl, rfl⟩ := H
     have hnb9 := NB201_200.out
     have hnc9 := NB200_201.out
     obtain ⟨hcz10_0, hcz10_1, hfz10_0, hfz10_1⟩ := kc2_ BK201.out
     go_wp2
     go_wp2
     repeat (go_quiet (fail); try go_wp2)
     refine bodyPost_ret (results_cell_row rfl _ _ gb201 24 #[.int .u64 x3_1, .int .u64 x4_1] (0, 0) _ rfl (by (with_reducible repeat (first | refine kn_ ?_ _ | refine kd_ ?_ | refine ka_ ?_ _)); exact bp_ (bp_ BK201.out 0 _) 1 _) underlying24 rfl (by kernel_rfl)) rfl ?_
     exact ea_ (bw2_ HB GE200 GE201)
def mix_Part.j0 : Nat → Int → Bool → Int → Int → Option (Int × Int × Int)
  | 0, _, _, _, _ => none
  | k + 1, x1, x11, x205000, x205001 => if x11 = true then (some (0, 0, 1)) else ((mix_Xor.f x205000 x205001 (IntKind.u64.wrap (wrap64 (x1 + 1))) 0).bind fun bt206 => ((mix_Mix.f k bt206.1 bt206.2).bind fun bt208 => ((mix_Xor.f bt208.1 bt208.2 x205000 x205001).bind fun bt210 => (some (bt210.1, bt210.2, 0)))))
def mix_Part.f (k : Nat) (a0_0 : Int) (a0_1 : Int) (a1 : Int) : Option (Int × Int × Int) := if a1 < 0 then (mix_Part.j0 k a1 true a0_0 a0_1) else (mix_Part.j0 k a1 (decide (a1 > 4)) a0_0 a0_1)
theorem mix_Part.mono_l : ∀ k, (∀ y0 y1 y2 y3, LeO (mix_Part.j0 k y0 y1 y2 y3) (mix_Part.j0 (k + 1) y0 y1 y2 y3))
  | 0 => fun _ _ _ _ r h => by simp [mix_Part.j0] at h
  | k + 1 => by
   have ih0 := mix_Part.mono_l k
   ·intro y0 y1 y2 y3
    unfold mix_Part.j0
    repeat' first | (with_reducible first | exact ih0 .. | exact mix_Mix.mono .. | exact LeO.refl _ | exact LeO.none _ | refine LeO.ite ?_ ?_ | refine LeO.bind ?_ (fun _ => ?_)) | exact ih0 .. | exact mix_Mix.mono .. | refine LeO.ite ?_ ?_ | refine LeO.bind ?_ (fun _ => ?_)
theorem mix_Part.mono : ∀ a0 a1 a2 k, LeO (mix_Part.f k a0 a1 a2) (mix_Part.f (k + 1) a0 a1 a2) := by
  intro a0 a1 a2 k
  have ih0 := mix_Part.mono_l k
  unfold mix_Part.f
  repeat' first | (with_reducible first | exact ih0 .. | exact mix_Mix.mono .. | exact LeO.refl _ | exact LeO.none _ | refine LeO.ite ?_ ?_ | refine LeO.bind ?_ (fun _ => ?_)) | exact ih0 .. | exact mix_Mix.mono .. | refine LeO.ite ?_ ?_ | refine LeO.bind ?_ (fun _ => ?_)
def mix_Part.T3 : Bool × List (List Nat × List Nat) := (true, [([], []), ([], []), ([1], [1]), ([2], [2]), ([3], [3]), ([0, 4], [0, 4]), ([5, 5], [5]), ([], []), ([6, 7, 6], [6, 7]), ([8, 8, 0, 1, 2, 3, 4, 5, 6, 7, 8], [8]), ([9, 0, 1, 2, 3, 4, 5, 6, 7, 8, 9], [])])
def mix_Part.B3 : List Nat := [0, 0, 2, 6, 14, 31, 63, 0, 255, 511, 1023]
theorem mix_Part.tab3 : rtab .any (opsOf Try.f99 3) = mix_Part.T3 := by kernel_rfl
theorem mix_Part.bits3 : waitsOk mix_Part.T3.2 mix_Part.B3 = true := by kernel_rfl
set_option maxHeartbeats 8000000 in
set_option maxRecDepth 100000 in
theorem mix_Part.calls (k : Nat) (a0_0 : Int) (a0_1 : Int) (a1 : Int) (r1 : Int) (r2 : Int) (r3 : Int) (w : World) (h : mix_Part.f k a0_0 a0_1 a1 = some (r1, r2, r3)) :
   Calls Try.prog 99 #[.agg #[.int .u64 a0_0, .int .u64 a0_1], .int .i64 a1] w fun e w' => e = .returned (.tuple #[.agg #[.int .u64 r1, .int .u64 r2], .int .i64 r3]) ∧ Below w.heap.size w w' := by
  have hu24 := underlying24
  have HB := ak_ (Below.refl w.heap.size w)
  have H : (if a1 < 0 then (mix_Part.j0 k a1 true a0_0 a0_1) else (mix_Part.j0 k a1 (decide (a1 > 4)) a0_0 a0_1)) = some (r1, r2, r3) := h
  clear h
  have HC3 := ak_ H
  clear H
  go_enter func99, ntmps99
  go_upto_region 1 with (first | ((with_reducible refine gate_dst (N := 2) rfl ?_); refine bx_ 2 #[.int .u64 a0_0, .int .u64 a0_1] 24 ?_; intro gb204 hg w4 hbox hb; have BK204 := ak_ hbox; have GW204 := ak_ (gs_ hg HB); have GE204 := ak_ (gs_ hg HB); replace HB := ak_ (bt_ (bl_ HB) hb); clear hb hbox hg) | ((with_reducible refine gate_dst (N := 4) rfl ?_); refine bx_ 4 #[.int .u64 0, .int .u64 0] 24 ?_; intro gb205 hg w5 hbox hb; have BK205 := ak_ hbox; have GW205 := ak_ (gw1_ HB GE204 hg); have GE205 := ak_ (gw1_ HB GE204 hg); replace HB := ak_ (bt_ (bw1_ HB GE204) hb); have NB204_205 := ak_ (nl_ hg BK204); have NB205_204 := ak_ (nr_ hg BK204); replace BK204 := ak_ (kb_ (kl_ BK204) hb); clear hb hbox hg))
  (try simp only [Act.put, setIfInBounds_toArray, set_cons_zero, set_cons_succ])
  go_cut [11] (fun v11 wc => ∃ (kq : Nat) (x11_2 : Bool), v11 = .bool x11_2 ∧ Aside0 (mix_Part.j0 kq a1 x11_2 a0_0 a0_1 = some (r1, r2, r3)) ∧ Aside0 (kq ≤ k) ∧ Aside0 (wc.heap[gb204]? = some (.cells #[.int .u64 a0_0, .int .u64 a0_1] 24 (0, 0))) ∧ Aside0 (wc.heap[gb205]? = some (.cells #[.int .u64 0, .int .u64 0] 24 (0, 0))) ∧ Aside0 (Below w.heap.size w wc))
  case first =>
   have H := HC3.out
   clear HC3
   by_cases c6 : a1 < 0
   ·rw [if_pos c6] at H
    have c6b0 := decide_eq_true c6
    clear c6
    (first | rw [c6b0] | (simp only [i64_w, i32_w]; rw [c6b0]) | skip)
    have H' := ak_ H
    clear H
    go_wp2
    go_meet
    case rel => exact ⟨_, (true), rf_, H', ⟨by first | omega | exact Nat.le_refl _⟩, ⟨kl_ BK204⟩, ⟨kl_ BK205⟩, ⟨bw2_ HB GE204 GE205⟩⟩
   ·rw [if_neg c6] at H
    have c6b0 := decide_eq_false c6
    clear c6
    (first | rw [c6b0] | (simp only [i64_w, i32_w]; rw [c6b0]) | skip)
    have H' := ak_ H
    clear H
    go_wp2
    go_meet
    case rel => exact ⟨_, (decide (a1 > 4)), rf_, H', ⟨by first | omega | exact Nat.le_refl _⟩, ⟨kl_ BK204⟩, ⟨kl_ BK205⟩, ⟨bw2_ HB GE204 GE205⟩⟩
  case rest =>
   clear HC3
   try clear p2
   try clear c6
   try clear c6b0
   obtain ⟨kq, x11_2, rfl, HA, HJ2, BK204, BK205, HB⟩ := hcut
   cases kq with
   | zero => exact absurd HA.out (by simp [mix_Part.j0])
   | succ kj2 =>
    have H := HA.out
    clear HA
    simp only [mix_Part.j0] at H
    by_cases c7 : x11_2 = true
    ·subst c7
     have H1 : (some (0, 0, 1)) = some (r1, r2, r3) := by rw [if_pos rfl] at H; exact H
     clear H
     have H := H1
     clear H1
     simp only [some.injEq, Prod.mk.injEq] at H
     obtain ⟨rfl, rfl, rfl⟩ := H
     have hnb8 := NB205_204.out
     have hnc8 := NB204_205.out
     obtain ⟨hcz9_0, hcz9_1, hfz9_0, hfz9_1⟩ := kc2_ BK205.out
     go_wp2
     go_wp2
     refine bodyPost_ret (results_ct rfl _ _ gb205 24 #[.int .u64 0, .int .u64 0] (0, 0) _ rfl (by (with_reducible repeat (first | refine kn_ ?_ _ | refine kd_ ?_ | refine ka_ ?_ _)); exact bp_ (bp_ BK205.out 0 _) 1 _) underlying24 rfl (by kernel_rfl)) rfl ?_
     exact ea_ (bw2_ HB GE204 GE205)
    ·replace c7 := Bool.eq_false_iff.mpr c7
     subst c7
     have H1 : ((mix_Xor.f a0_0 a0_1 (IntKind.u64.wrap (wrap64 (a1 + 1))) 0).bind fun bt206 => ((mix_Mix.f kj2 bt206.1 bt206.2).bind fun bt208 => ((mix_Xor.f bt208.1 bt208.2 a0_0 a0_1).bind fun bt210 => (some (bt210.1, bt210.2, 0))))) = some (r1, r2, r3) := by rw [if_neg (show ¬ (false = true) by decide)] at H; exact H
     clear H
     have H := H1
     clear H1
     replace H := bind_eq_some_iff.mp H
     obtain ⟨⟨t206, t207⟩, A100, H⟩ := H
     replace H : ((mix_Mix.f kj2 t206 t207).bind fun bt208 => ((mix_Xor.f bt208.1 bt208.2 a0_0 a0_1).bind fun bt210 => (some (bt210.1, bt210.2, 0)))) = some (r1, r2, r3) := H
     have A10 := ak_ A100
     clear A100
     replace H := bind_eq_some_iff.mp H
     obtain ⟨⟨t208, t209⟩, A110, H⟩ := H
     replace H : ((mix_Xor.f t208 t209 a0_0 a0_1).bind fun bt210 => (some (bt210.1, bt210.2, 0))) = some (r1, r2, r3) := H
     have A11 := ak_ A110
     clear A110
     replace H := bind_eq_some_iff.mp H
     obtain ⟨⟨t210, t211⟩, A120, H⟩ := H
     replace H : (some (t210, t211, 0)) = some (r1, r2, r3) := H
     have A12 := ak_ A120
     clear A120
     simp only [some.injEq, Prod.mk.injEq] at H
     obtain ⟨rfl, rfl, rfl⟩ := H
     try go_wp2
     replace BK204 := ak_ (kd_ BK204.out)
     replace BK205 := ak_ (kd_ BK205.out)
     replace HB := ak_ (bd_ HB.out)
     refine start_ (n := 11) (S := fun w' => w'.cell? ⟨gb204, 0, none⟩ = some (.int .u64 a0_0) ∧ w'.cell? ⟨gb204, 1, none⟩ = some (.int .u64 a0_1)) (ds := []) #[false, false, false, false, false, false, false, false, false, false, false] (by kernel_rfl) rfl rfl ⟨kq_ BK204.out 0 rfl, kq_ BK204.out 1 rfl⟩ (fun hHeld => ?_); refine with_tabW mix_Part.tab3 mix_Part.bits3 (fun HT_ HW_ => ?_)
     generalize wc.drew = w13 at BK204 BK205 HB hHeld ⊢
     refine pu_ HT_ 1 (some 14) #[false, true, false, false, false, false, false, false, false, false, false] ?_
     refine pu_ HT_ 2 (some 15) #[false, true, true, false, false, false, false, false, false, false, false] ?_
     refine pu_ HT_ 3 (some 16) #[false, true, true, true, false, false, false, false, false, false, false] ?_
     refine pu_ HT_ 4 (some 17) #[false, true, true, true, true, false, false, false, false, false, false] ?_
     refine tk_ HT_ HW_ hHeld 0 (some 13) #[true, true, true, true, true, false, false, false, false, false, false] rfl (by rintro w' ⟨s0, s1⟩; go_simp; with_reducible rfl) ?_
     refine tk_ HT_ HW_ hHeld 7 (some 20) #[true, true, true, true, true, false, false, true, false, false, false] rfl (by rintro w' ⟨s0, s1⟩; go_simp; with_reducible rfl) ?_
     refine one_ (i := 5) (N := some 18) #[true, true, true, true, true, true, false, true, false, false, false] rfl rfl (one_of HT_.out (by kernel_rfl)) (by decide) (fun K hK => ?_)
     refine gg_ func111 #[.agg #[.int .u64 a0_0, .int .u64 a0_1], .agg #[.int .u64 (IntKind.u64.wrap (wrap64 (a1 + 1))), .int .u64 0]] ?_
     with_reducible refine (mix_Xor.calls a0_0 a0_1 (IntKind.u64.wrap (wrap64 (a1 + 1))) 0 t206 t207 _ A10.out).mono ?_
     rintro e w14 ⟨rfl, hb⟩
     refine ⟨_, rfl, ?_⟩
     replace BK204 := ak_ (kb_ (kl_ BK204) hb)
     replace BK205 := ak_ (kb_ (kl_ BK205) hb)
     replace HB := ak_ (bt_ (bw2_ HB GE204 GE205) hb)
     (try clear hb)
     (try clear hb2)
     (try clear hk)
     (try clear hi)
     refine hK.out _ _ ⟨kq_ BK204.out 0 rfl, kq_ BK204.out 1 rfl⟩ (fun hHeld => ?_)
     clear hK K
     refine norm_ (a' := ?_) ?_ ?_
     rotate_left
     ·show Act.put _ (some 18) _ = _
      simp only [Act.put, setIfInBounds_toArray, set_cons_zero, set_cons_succ, i64_w, i32_w]
      rfl
     refine one_ (i := 6) (N := some 19) #[true, true, true, true, true, true, true, true, false, false, false] rfl rfl (one_of HT_.out (by kernel_rfl)) (by decide) (fun K hK => ?_)
     refine gg_ func112 #[.agg #[.int .u64 t206, .int .u64 t207]] ?_
     with_reducible refine (mix_Mix.calls kj2 t206 t207 t208 t209 _ A11.out).mono ?_
     rintro e w15 ⟨rfl, hb⟩
     refine ⟨_, rfl, ?_⟩
     replace BK204 := ak_ (kb_ (kl_ BK204) hb)
     replace BK205 := ak_ (kb_ (kl_ BK205) hb)
     replace HB := ak_ (bt_ (bw2_ HB GE204 GE205) hb)
     (try clear hb)
     (try clear hb2)
     (try clear hk)
     (try clear hi)
     refine hK.out _ _ ⟨kq_ BK204.out 0 rfl, kq_ BK204.out 1 rfl⟩ (fun hHeld => ?_)
     clear hK K
     refine norm_ (a' := ?_) ?_ ?_
     rotate_left
     ·show Act.put _ (some 19) _ = _
      simp only [Act.put, setIfInBounds_toArray, set_cons_zero, set_cons_succ, i64_w, i32_w]
      rfl
     refine one_ (i := 8) (N := some 21) #[true, true, true, true, true, true, true, true, true, false, false] rfl rfl (one_of HT_.out (by kernel_rfl)) (by decide) (fun K hK => ?_)
     refine gg_ func111 #[.agg #[.int .u64 t208, .int .u64 t209], .agg #[.int .u64 a0_0, .int .u64 a0_1]] ?_
     with_reducible refine (mix_Xor.calls t208 t209 a0_0 a0_1 t210 t211 _ A12.out).mono ?_
     rintro e w16 ⟨rfl, hb⟩
     refine ⟨_, rfl, ?_⟩
     replace BK204 := ak_ (kb_ (kl_ BK204) hb)
     replace BK205 := ak_ (kb_ (kl_ BK205) hb)
     replace HB := ak_ (bt_ (bw2_ HB GE204 GE205) hb)
     (try clear hb)
     (try clear hb2)
     (try clear hk)
     (try clear hi)
     refine hK.out _ _ ⟨kq_ BK204.out 0 rfl, kq_ BK204.out 1 rfl⟩ (fun hHeld => ?_)
     clear hK K
     refine norm_ (a' := ?_) ?_ ?_
     rotate_left
     ·show Act.put _ (some 21) _ = _
      simp only [Act.put, setIfInBounds_toArray, set_cons_zero, set_cons_succ, i64_w, i32_w]
      rfl
     refine one_ (i := 9) (N := none) #[true, true, true, true, true, true, true, true, true, true, false] rfl rfl (one_of HT_.out (by kernel_rfl)) (by decide) (fun K hK => ?_)
     have hs17 : w16.cell? ⟨gb205, 0, none⟩ = some (.int .u64 0) := (kc_ BK205.out 0).trans rfl
     have hfs17 := kf_ BK205.out 0
     have hns17_0 := NB204_205.out
     have hms17_0 := NB205_204.out
     have hs18 : w16.cell? ⟨gb205, 1, none⟩ = some (.int .u64 0) := (kc_ BK205.out 1).trans rfl
     have hfs18 := kf_ BK205.out 1
     have hns18_0 := NB204_205.out
     have hms18_0 := NB205_204.out
     refine skip_ (w1 := ?_) (by rfl) rfl ?_ ?_
     rotate_left
     ·go_simp
      rfl
     refine hK.out _ _ ⟨((cell_far (p := ⟨gb205, _, none⟩) NB204_205.out _).trans (((cell_far (p := ⟨gb205, _, none⟩) NB204_205.out _).trans (hHeld.1)))), ((cell_far (p := ⟨gb205, _, none⟩) NB204_205.out _).trans (((cell_far (p := ⟨gb205, _, none⟩) NB204_205.out _).trans (hHeld.2))))⟩ (fun hHeld => ?_)
     clear hK K
     refine pu_ HT_ 10 (some 5) #[true, true, true, true, true, true, true, true, true, true, true] ?_
     refine done_ (done_of HT_.out (by kernel_rfl)) ?_
     try go_wp2
     refine bodyPost_ret (results_ct rfl _ _ gb205 24 #[.int .u64 t210, .int .u64 t211] (0, 0) _ rfl (by (with_reducible repeat (first | refine kn_ ?_ _ | refine kd_ ?_ | refine ka_ ?_ _)); exact bp_ (bp_ BK205.out 0 _) 1 _) underlying24 rfl (by kernel_rfl)) rfl ?_
     exact ea_ (bw2_ HB GE204 GE205)
def value_Part.j0 : Nat → List (S45) → Int → Bool → Bool → Bool → Int → Int → Int → Int → Int → Int → Int → Option (Bool × Bool × Int × Int × Int × Int × Int × Int × Int × (List (S45)) × Int)
  | 0, _, _, _, _, _, _, _, _, _, _, _, _ => none
  | k + 1, x0, x2, x26, x213000, x213001, x213002, x213003, x213004, x213005, x213006, x213007, x213008 => if x26 = true then (some (false, false, 0, 0, 0, 0, 0, 0, 0, ([] : List (S45)), 1)) else (if x213000 = true then ((value_made.f x0 (wrap64 (2 + x2)) x213008 0).bind fun bt221 => (some (bt221.1, bt221.2.1, bt221.2.2.1, bt221.2.2.2.1, bt221.2.2.2.2.1, bt221.2.2.2.2.2.1, bt221.2.2.2.2.2.2.1, bt221.2.2.2.2.2.2.2.1, bt221.2.2.2.2.2.2.2.2.1, bt221.2.2.2.2.2.2.2.2.2.1, bt221.2.2.2.2.2.2.2.2.2.2))) else ((mix_Part.f k x213002 x213003 x2).bind fun bt234 => ((api_Term.f x0).bind fun t238 => (some (false, false, bt234.1, bt234.2.1, 0, 0, 0, 0, 0, t238, bt234.2.2)))))
def value_Part.f (k : Nat) (l0 : List (S45)) (a1_0 : Bool) (a1_1 : Bool) (a1_2 : Int) (a1_3 : Int) (a1_4 : Int) (a1_5 : Int) (a1_6 : Int) (a1_7 : Int) (a1_8 : Int) (a2 : Int) : Option (Bool × Bool × Int × Int × Int × Int × Int × Int × Int × (List (S45)) × Int) := (value_is.f k l0 (([false] : List Bool)) (([(⟨a1_0, a1_1, (⟨a1_2, a1_3⟩ : S24), (⟨(⟨a1_4, a1_5⟩ : S24), (⟨a1_6, a1_7⟩ : S24)⟩ : S32), a1_8⟩ : S34)] : List (S34)))).bind fun t220 => (if t220 = 0 then (if a2 < 0 then (value_Part.j0 k l0 a2 true a1_0 a1_1 a1_2 a1_3 a1_4 a1_5 a1_6 a1_7 a1_8) else (value_Part.j0 k l0 a2 (decide (a2 > 2)) a1_0 a1_1 a1_2 a1_3 a1_4 a1_5 a1_6 a1_7 a1_8)) else (value_Part.j0 k l0 a2 true a1_0 a1_1 a1_2 a1_3 a1_4 a1_5 a1_6 a1_7 a1_8))
theorem value_Part.mono_l : ∀ k, (∀ y0 y1 y2 y3 y4 y5 y6 y7 y8 y9 y10 y11, LeO (value_Part.j0 k y0 y1 y2 y3 y4 y5 y6 y7 y8 y9 y10 y11) (value_Part.j0 (k + 1) y0 y1 y2 y3 y4 y5 y6 y7 y8 y9 y10 y11))
  | 0 => fun _ _ _ _ _ _ _ _ _ _ _ _ r h => by simp [value_Part.j0] at h
  | k + 1 => by
   have ih0 := value_Part.mono_l k
   ·intro y0 y1 y2 y3 y4 y5 y6 y7 y8 y9 y10 y11
    unfold value_Part.j0
    repeat' first | (with_reducible first | exact ih0 .. | exact mix_Part.mono .. | exact value_is.mono .. | exact LeO.refl _ | exact LeO.none _ | refine LeO.ite ?_ ?_ | refine LeO.bind ?_ (fun _ => ?_)) | exact ih0 .. | exact mix_Part.mono .. | exact value_is.mono .. | refine LeO.ite ?_ ?_ | refine LeO.bind ?_ (fun _ => ?_)
theorem value_Part.mono : ∀ a0 a1 a2 a3 a4 a5 a6 a7 a8 a9 a10 k, LeO (value_Part.f k a0 a1 a2 a3 a4 a5 a6 a7 a8 a9 a10) (value_Part.f (k + 1) a0 a1 a2 a3 a4 a5 a6 a7 a8 a9 a10) := by
  intro a0 a1 a2 a3 a4 a5 a6 a7 a8 a9 a10 k
  have ih0 := value_Part.mono_l k
  unfold value_Part.f
  repeat' first | (with_reducible first | exact ih0 .. | exact mix_Part.mono .. | exact value_is.mono .. | exact LeO.refl _ | exact LeO.none _ | refine LeO.ite ?_ ?_ | refine LeO.bind ?_ (fun _ => ?_)) | exact ih0 .. | exact mix_Part.mono .. | exact value_is.mono .. | refine LeO.ite ?_ ?_ | refine LeO.bind ?_ (fun _ => ?_)
def value_Part.T7 : Bool × List (List Nat × List Nat) := (true, [([], []), ([0], [0]), ([], []), ([2], [2]), ([], []), ([1, 3, 0, 1], [1]), ([3, 5, 0, 1, 2, 3, 5], [3]), ([4, 6, 0, 1, 2, 3, 4, 5, 6], [4])])
def value_Part.B7 : List Nat := [0, 1, 0, 4, 0, 15, 47, 127]
theorem value_Part.tab7 : rtab .any (opsOf Try.f78 7) = value_Part.T7 := by kernel_rfl
theorem value_Part.bits7 : waitsOk value_Part.T7.2 value_Part.B7 = true := by kernel_rfl
set_option maxHeartbeats 8000000 in
set_option maxRecDepth 100000 in
theorem value_Part.calls (k : Nat) (A0 : Option Addr) (c0 : Nat) (l0 : List (S45)) (a1_0 : Bool) (a1_1 : Bool) (a1_2 : Int) (a1_3 : Int) (a1_4 : Int) (a1_5 : Int) (a1_6 : Int) (a1_7 : Int) (a1_8 : Int) (a2 : Int) (r1 : Bool) (r2 : Bool) (r3 : Int) (r4 : Int) (r5 : Int) (r6 : Int) (r7 : Int) (r8 : Int) (r9 : Int) (r10 : List (S45)) (r11 : Int) (w : World) (hr0 : Kd.C k45 w A0 l0.length l0) (hc0 : l0.length ≤ c0) (h : value_Part.f k l0 a1_0 a1_1 a1_2 a1_3 a1_4 a1_5 a1_6 a1_7 a1_8 a2 = some (r1, r2, r3, r4, r5, r6, r7, r8, r9, r10, r11)) :
   Calls Try.prog 78 #[.slice A0 l0.length c0, .agg #[.bool a1_0, .bool a1_1, .int .u64 a1_2, .int .u64 a1_3, .int .u64 a1_4, .int .u64 a1_5, .int .u64 a1_6, .int .u64 a1_7, .int .i64 a1_8], .int .i64 a2] w fun e w' => ∃ v9_ : Value, e = .returned (.tuple #[.agg #[.bool r1, .bool r2, .int .u64 r3, .int .u64 r4, .int .u64 r5, .int .u64 r6, .int .u64 r7, .int .u64 r8, .int .i64 r9], v9_, .int .i64 r11]) ∧ Kd.R k45 45 w' w.heap.size (fun _ => True) v9_ r10 ∧ Below w.heap.size w w' := by
  have hu34 := underlying34
  have hu45 := underlying45
  have hu24 := underlying24
  have HR0 := ak_ hr0
  have HC0 := ak_ hc0
  clear hr0 hc0
  have HB := ak_ (Below.refl w.heap.size w)
  have H : ((value_is.f k l0 (([false] : List Bool)) (([(⟨a1_0, a1_1, (⟨a1_2, a1_3⟩ : S24), (⟨(⟨a1_4, a1_5⟩ : S24), (⟨a1_6, a1_7⟩ : S24)⟩ : S32), a1_8⟩ : S34)] : List (S34)))).bind fun t220 => (if t220 = 0 then (if a2 < 0 then (value_Part.j0 k l0 a2 true a1_0 a1_1 a1_2 a1_3 a1_4 a1_5 a1_6 a1_7 a1_8) else (value_Part.j0 k l0 a2 (decide (a2 > 2)) a1_0 a1_1 a1_2 a1_3 a1_4 a1_5 a1_6 a1_7 a1_8)) else (value_Part.j0 k l0 a2 true a1_0 a1_1 a1_2 a1_3 a1_4 a1_5 a1_6 a1_7 a1_8))) = some (r1, r2, r3, r4, r5, r6, r7, r8, r9, r10, r11) := h
  clear h
  obtain ⟨y214, hy214⟩ : ∃ y_ : List Bool, y_ = (([false] : List Bool)) := ⟨_, rfl⟩
  replace H : ((value_is.f k l0 y214 (([(⟨a1_0, a1_1, (⟨a1_2, a1_3⟩ : S24), (⟨(⟨a1_4, a1_5⟩ : S24), (⟨a1_6, a1_7⟩ : S24)⟩ : S32), a1_8⟩ : S34)] : List (S34)))).bind fun t220 => (if t220 = 0 then (if a2 < 0 then (value_Part.j0 k l0 a2 true a1_0 a1_1 a1_2 a1_3 a1_4 a1_5 a1_6 a1_7 a1_8) else (value_Part.j0 k l0 a2 (decide (a2 > 2)) a1_0 a1_1 a1_2 a1_3 a1_4 a1_5 a1_6 a1_7 a1_8)) else (value_Part.j0 k l0 a2 true a1_0 a1_1 a1_2 a1_3 a1_4 a1_5 a1_6 a1_7 a1_8))) = some (r1, r2, r3, r4, r5, r6, r7, r8, r9, r10, r11) := by first | (rw [hy214]; with_reducible exact H) | (have H2_ := (Option.bind_some _ _).symm.trans H; rw [hy214]; with_reducible exact H2_) | (have H2_ := (Option.bind_some _ _).symm.trans H; with_reducible exact H2_) | with_reducible exact H | (rw [hy214]; exact H) | exact H
  have Ny214 := ak_ hy214
  clear hy214
  obtain ⟨y217, hy217⟩ : ∃ y_ : List (S34), y_ = (([(⟨a1_0, a1_1, (⟨a1_2, a1_3⟩ : S24), (⟨(⟨a1_4, a1_5⟩ : S24), (⟨a1_6, a1_7⟩ : S24)⟩ : S32), a1_8⟩ : S34)] : List (S34))) := ⟨_, rfl⟩
  replace H : ((value_is.f k l0 y214 y217).bind fun t220 => (if t220 = 0 then (if a2 < 0 then (value_Part.j0 k l0 a2 true a1_0 a1_1 a1_2 a1_3 a1_4 a1_5 a1_6 a1_7 a1_8) else (value_Part.j0 k l0 a2 (decide (a2 > 2)) a1_0 a1_1 a1_2 a1_3 a1_4 a1_5 a1_6 a1_7 a1_8)) else (value_Part.j0 k l0 a2 true a1_0 a1_1 a1_2 a1_3 a1_4 a1_5 a1_6 a1_7 a1_8))) = some (r1, r2, r3, r4, r5, r6, r7, r8, r9, r10, r11) := by first | (rw [hy217]; with_reducible exact H) | (have H2_ := (Option.bind_some _ _).symm.trans H; rw [hy217]; with_reducible exact H2_) | (have H2_ := (Option.bind_some _ _).symm.trans H; with_reducible exact H2_) | with_reducible exact H | (rw [hy217]; exact H) | exact H
  have Ny217 := ak_ hy217
  clear hy217
  replace H := bind_eq_some_iff.mp H
  obtain ⟨t220, A40, H⟩ := H
  replace H : (if t220 = 0 then (if a2 < 0 then (value_Part.j0 k l0 a2 true a1_0 a1_1 a1_2 a1_3 a1_4 a1_5 a1_6 a1_7 a1_8) else (value_Part.j0 k l0 a2 (decide (a2 > 2)) a1_0 a1_1 a1_2 a1_3 a1_4 a1_5 a1_6 a1_7 a1_8)) else (value_Part.j0 k l0 a2 true a1_0 a1_1 a1_2 a1_3 a1_4 a1_5 a1_6 a1_7 a1_8)) = some (r1, r2, r3, r4, r5, r6, r7, r8, r9, r10, r11) := H
  have A4 := ak_ A40
  clear A40
  have HC5 := ak_ H
  clear H
  go_enter func78, ntmps78
  go_upto_region 2 with (first | ((with_reducible refine gate_dst (N := 4) rfl ?_); refine bx_ 4 #[.bool a1_0, .bool a1_1, .int .u64 a1_2, .int .u64 a1_3, .int .u64 a1_4, .int .u64 a1_5, .int .u64 a1_6, .int .u64 a1_7, .int .i64 a1_8] 34 ?_; intro gb212 hg w6 hbox hb; have BK212 := ak_ hbox; have GW212 := ak_ (gs_ hg HB); have GE212 := ak_ (gs_ hg HB); replace HB := ak_ (bt_ (bl_ HB) hb); clear hb hbox hg) | ((with_reducible refine gate_dst (N := 6) rfl ?_); refine bx_ 6 #[.bool false, .bool false, .int .u64 0, .int .u64 0, .int .u64 0, .int .u64 0, .int .u64 0, .int .u64 0, .int .i64 0] 34 ?_; intro gb213 hg w7 hbox hb; have BK213 := ak_ hbox; have GW213 := ak_ (gw1_ HB GE212 hg); have GE213 := ak_ (gw1_ HB GE212 hg); replace HB := ak_ (bt_ (bw1_ HB GE212) hb); have NB212_213 := ak_ (nl_ hg BK212); have NB213_212 := ak_ (nr_ hg BK212); replace BK212 := ak_ (kb_ (kl_ BK212) hb); clear hb hbox hg) | ((with_reducible refine gate_dst (N := 13) rfl ?_); refine Kd.R_lit Kd.bool _ 4 ?hg (N := 13) ?hd (xs := ([false] : List Bool)) (inner := [.bool false]) (ok := fun _ => True) (okp := fun _ => True) ?hr ?hp (fun _ hk => hk) trivial (Below.refl _ _) (Nat.le_refl _) (by simp) ?_; (case hd => rfl); (case hg => rfl); (case hr => first | (go_simp; done) | (go_simp; rfl)); (case hp => exact (Reps.one (show Kd.M Kd.bool _ _ _ false [.bool false] from rfl) (Reps.none _ _))); intro v215 w8 ho9 hb hg_ hnew_; clear hg_ hnew_; (first | rw [← Ny214.out] at ho9 | (simp only [Int.reduceToNat] at ho9; rw [← Ny214.out] at ho9)); have HO216 := ak_ (Kd.R_lower ho9 (bz_ (bw2_ HB GE212 GE213))); replace BK212 := ak_ (kb_ (kl_ BK212) hb); replace BK213 := ak_ (kb_ (kl_ BK213) hb); replace HB := ak_ (bt_ (bw2_ HB GE212 GE213) hb); clear hb ho9; have hnb10 := NB212_213.out; have hnc10 := NB213_212.out; obtain ⟨hcz11_0, hcz11_1, hcz11_2, hcz11_3, hcz11_4, hcz11_5, hcz11_6, hcz11_7, hcz11_8, hfz11_0, hfz11_1, hfz11_2, hfz11_3, hfz11_4, hfz11_5, hfz11_6, hfz11_7, hfz11_8⟩ := kc9_ BK212.out) | ((with_reducible refine gate_dst (N := 15) rfl ?_); refine Kd.R_lit k34 _ 34 ?hg (N := 15) ?hd (xs := ([(⟨a1_0, a1_1, (⟨a1_2, a1_3⟩ : S24), (⟨(⟨a1_4, a1_5⟩ : S24), (⟨a1_6, a1_7⟩ : S24)⟩ : S32), a1_8⟩ : S34)] : List (S34))) (inner := [.bool a1_0, .bool a1_1, .int .u64 a1_2, .int .u64 a1_3, .int .u64 a1_4, .int .u64 a1_5, .int .u64 a1_6, .int .u64 a1_7, .int .i64 a1_8]) (ok := fun _ => True) (okp := fun _ => True) ?hr ?hp (fun _ hk => hk) trivial (Below.refl _ _) (Nat.le_refl _) (by simp) ?_; (case hd => rfl); (case hg => rfl); (case hr => first | (go_simp; done) | (go_simp; rfl)); (case hp => exact (Reps.c9 (show Kd.M k34 _ _ _ (⟨a1_0, a1_1, (⟨a1_2, a1_3⟩ : S24), (⟨(⟨a1_4, a1_5⟩ : S24), (⟨a1_6, a1_7⟩ : S24)⟩ : S32), a1_8⟩ : S34) [.bool a1_0, .bool a1_1, .int .u64 a1_2, .int .u64 a1_3, .int .u64 a1_4, .int .u64 a1_5, .int .u64 a1_6, .int .u64 a1_7, .int .i64 a1_8] from (k34_mkM _ _ _ (⟨a1_0, a1_1, (⟨a1_2, a1_3⟩ : S24), (⟨(⟨a1_4, a1_5⟩ : S24), (⟨a1_6, a1_7⟩ : S24)⟩ : S32), a1_8⟩ : S34) )) (Reps.none _ _))); intro v218 w12 ho13 hb hg_ hnew_; clear hg_ hnew_; (first | rw [← Ny217.out] at ho13 | (simp only [Int.reduceToNat] at ho13; rw [← Ny217.out] at ho13)); replace HO216 := ak_ (Kd.R_below (rl_ HO216) hb); have HO219 := ak_ (Kd.R_lower (Kd.R_newB (Kd.R_newB ho13 (g := gb212) (o := .cells #[.bool a1_0, .bool a1_1, .int .u64 a1_2, .int .u64 a1_3, .int .u64 a1_4, .int .u64 a1_5, .int .u64 a1_6, .int .u64 a1_7, .int .i64 a1_8] 34 (0, 0)) (kl_ BK212)) (g := gb213) (o := .cells #[.bool false, .bool false, .int .u64 0, .int .u64 0, .int .u64 0, .int .u64 0, .int .u64 0, .int .u64 0, .int .i64 0] 34 (0, 0)) (kl_ BK213)) (bz_ (bw2_ HB GE212 GE213))); replace BK212 := ak_ (kb_ (kl_ BK212) hb); replace BK213 := ak_ (kb_ (kl_ BK213) hb); replace HB := ak_ (bt_ (bw2_ HB GE212 GE213) hb); clear hb ho13; obtain ⟨Ao14, co14, eo14⟩ := Kd.R_slice HO216.out; subst eo14; obtain ⟨Ao15, co15, eo15⟩ := Kd.R_slice HO219.out; subst eo15) | ((with_reducible refine gate_callee (f := 97) rfl ?_); refine goesL_ (some 16) rfl rfl func97 (by kernel_rfl) rfl #[.slice A0 l0.length c0, .slice Ao14 y214.length co14, .slice Ao15 y217.length co15] rfl (by (try simp only [map_toArray, map_cons, map_nil]); first | done | rfl | (simp only [length_drop, length_take]; rfl)) ?_; (with_reducible refine (value_is.calls k _ _ l0 _ _ y214 _ _ y217 t220 _ ?side1 ?side2 ?side3 ?side4 ?side5 ?side6 A4.out).mono ?_); (case side1 => repeat (first | exact (Kd.C_below HR0.out HB.out) | (with_reducible refine Kd.C_alloc ?_ _) | (with_reducible refine Kd.C_drewN ?_ _) | (with_reducible refine Kd.C_drew ?_))); (case side2 => exact HC0.out); (case side3 => repeat (first | exact (Kd.R_reads' HO216.out).2.2 | (with_reducible refine Kd.C_alloc ?_ _) | (with_reducible refine Kd.C_drewN ?_ _) | (with_reducible refine Kd.C_drew ?_))); (case side4 => exact (Kd.R_reads' HO216.out).2.1); (case side5 => repeat (first | exact (Kd.R_reads' HO219.out).2.2 | (with_reducible refine Kd.C_alloc ?_ _) | (with_reducible refine Kd.C_drewN ?_ _) | (with_reducible refine Kd.C_drew ?_))); (case side6 => exact (Kd.R_reads' HO219.out).2.1); rintro e w16 ⟨rfl, hb⟩; refine ⟨_, rfl, ?_⟩; replace HO216 := ak_ (Kd.R_below (rl_ HO216) hb); replace HO219 := ak_ (Kd.R_below (rl_ HO219) hb); replace BK212 := ak_ (kb_ (kl_ BK212) hb); replace BK213 := ak_ (kb_ (kl_ BK213) hb); replace HB := ak_ (bt_ (bw2_ HB GE212 GE213) hb); (try clear hb); (try clear hk)))
  (try simp only [Act.put, setIfInBounds_toArray, set_cons_zero, set_cons_succ])
  go_cut [26] (fun v26 wc => ∃ (kq : Nat) (x26_4 : Bool), v26 = .bool x26_4 ∧ Aside0 (value_Part.j0 kq l0 a2 x26_4 a1_0 a1_1 a1_2 a1_3 a1_4 a1_5 a1_6 a1_7 a1_8 = some (r1, r2, r3, r4, r5, r6, r7, r8, r9, r10, r11)) ∧ Aside0 (kq ≤ k) ∧ Aside0 (wc.heap[gb212]? = some (.cells #[.bool a1_0, .bool a1_1, .int .u64 a1_2, .int .u64 a1_3, .int .u64 a1_4, .int .u64 a1_5, .int .u64 a1_6, .int .u64 a1_7, .int .i64 a1_8] 34 (0, 0))) ∧ Aside0 (wc.heap[gb213]? = some (.cells #[.bool false, .bool false, .int .u64 0, .int .u64 0, .int .u64 0, .int .u64 0, .int .u64 0, .int .u64 0, .int .i64 0] 34 (0, 0))) ∧ Aside0 (Below w.heap.size w wc))
  case first =>
   have H := HC5.out
   clear HC5
   by_cases c17 : t220 = 0
   ·rw [if_pos c17] at H
    have c17b0 : (t220 == 0) = true := beq_iff_eq.mpr c17
    have c17b1 : (t220 != 0) = false := bne_eq_false_iff_eq.mpr c17
    clear c17
    (first | rw [c17b0] | (simp only [i64_w, i32_w]; rw [c17b0]) | skip)
    by_cases c18 : a2 < 0
    ·rw [if_pos c18] at H
     have c18b0 := decide_eq_true c18
     clear c18
     have H' := ak_ H
     clear H
     go_wp2
     go_meet
     case rel => exact ⟨_, (true), rf_, H', ⟨by first | omega | exact Nat.le_refl _⟩, ⟨kl_ BK212⟩, ⟨kl_ BK213⟩, ⟨bw2_ HB GE212 GE213⟩⟩
    ·rw [if_neg c18] at H
     have c18b0 := decide_eq_false c18
     clear c18
     have H' := ak_ H
     clear H
     go_wp2
     go_meet
     case rel => exact ⟨_, (decide (a2 > 2)), rf_, H', ⟨by first | omega | exact Nat.le_refl _⟩, ⟨kl_ BK212⟩, ⟨kl_ BK213⟩, ⟨bw2_ HB GE212 GE213⟩⟩
   ·rw [if_neg c17] at H
    have c17b0 : (t220 == 0) = false := beq_eq_false_iff_ne.mpr c17
    have c17b1 : (t220 != 0) = true := bne_iff_ne.mpr c17
    (first | rw [c17b0] | (simp only [i64_w, i32_w]; rw [c17b0]) | skip)
    have H' := ak_ H
    clear H
    go_wp2
    go_meet
    case rel => exact ⟨_, (true), rf_, H', ⟨by first | omega | exact Nat.le_refl _⟩, ⟨kl_ BK212⟩, ⟨kl_ BK213⟩, ⟨bw2_ HB GE212 GE213⟩⟩
  case rest =>
   clear HC5
   try clear c1
   try clear p2
   try clear c7
   try clear c9
   try clear c10
   try clear c17
   try clear c17b0
   try clear c17b1
   try clear c18
   try clear c18b0
   try clear hcz11_0 hcz11_1 hcz11_2 hcz11_3 hcz11_4 hcz11_5 hcz11_6 hcz11_7 hcz11_8
   try clear hfz11_0 hfz11_1 hfz11_2 hfz11_3 hfz11_4 hfz11_5 hfz11_6 hfz11_7 hfz11_8
   obtain ⟨kq, x26_4, rfl, HA, HJ4, BK212, BK213, HB⟩ := hcut
   cases kq with
   | zero => exact absurd HA.out (by simp [value_Part.j0])
   | succ kj4 =>
    have H := HA.out
    clear HA
    simp only [value_Part.j0] at H
    by_cases c19 : x26_4 = true
    ·subst c19
     have H1 : (some (false, false, 0, 0, 0, 0, 0, 0, 0, ([] : List (S45)), 1)) = some (r1, r2, r3, r4, r5, r6, r7, r8, r9, r10, r11) := by rw [if_pos rfl] at H; exact H
     clear H
     have H := H1
     clear H1
     simp only [some.injEq, Prod.mk.injEq] at H
     obtain ⟨rfl, rfl, rfl, rfl, rfl, rfl, rfl, rfl, rfl, rfl, rfl⟩ := H
     have hnb20 := NB213_212.out
     have hnc20 := NB212_213.out
     obtain ⟨hcz21_0, hcz21_1, hcz21_2, hcz21_3, hcz21_4, hcz21_5, hcz21_6, hcz21_7, hcz21_8, hfz21_0, hfz21_1, hfz21_2, hfz21_3, hfz21_4, hfz21_5, hfz21_6, hfz21_7, hfz21_8⟩ := kc9_ BK213.out
     go_wp2
     go_wp2
     refine bodyPost_ret (results_ctt rfl _ _ gb213 34 #[.bool false, .bool false, .int .u64 0, .int .u64 0, .int .u64 0, .int .u64 0, .int .u64 0, .int .u64 0, .int .i64 0] (0, 0) _ rfl (by (with_reducible repeat (first | refine kn_ ?_ _ | refine kd_ ?_ | refine ka_ ?_ _)); exact sC_blk BK213.out rfl rfl) underlying34 rfl (by kernel_rfl)) rfl ?_
     exact ⟨_, by first | rfl | (simp <;> rfl) | (simp [*] <;> rfl), by first | exact Kd.R_nil _ _ _ _ _ | exact Kd.N_nil _ _ _ _ _ | exact Kd.V_nil _ _ _ _ _ | exact Kd.Q_nil _ _ _ _ _ | exact Kd.S_nil _ _ _ _ _, bw2_ HB GE212 GE213⟩
    ·replace c19 := Bool.eq_false_iff.mpr c19
     subst c19
     have H1 : (if a1_0 = true then ((value_made.f l0 (wrap64 (2 + a2)) a1_8 0).bind fun bt221 => (some (bt221.1, bt221.2.1, bt221.2.2.1, bt221.2.2.2.1, bt221.2.2.2.2.1, bt221.2.2.2.2.2.1, bt221.2.2.2.2.2.2.1, bt221.2.2.2.2.2.2.2.1, bt221.2.2.2.2.2.2.2.2.1, bt221.2.2.2.2.2.2.2.2.2.1, bt221.2.2.2.2.2.2.2.2.2.2))) else ((mix_Part.f kj4 a1_2 a1_3 a2).bind fun bt234 => ((api_Term.f l0).bind fun t238 => (some (false, false, bt234.1, bt234.2.1, 0, 0, 0, 0, 0, t238, bt234.2.2))))) = some (r1, r2, r3, r4, r5, r6, r7, r8, r9, r10, r11) := by rw [if_neg (show ¬ (false = true) by decide)] at H; exact H
     clear H
     have H := H1
     clear H1
     by_cases c22 : a1_0 = true
     ·subst c22
      have H1 : ((value_made.f l0 (wrap64 (2 + a2)) a1_8 0).bind fun bt221 => (some (bt221.1, bt221.2.1, bt221.2.2.1, bt221.2.2.2.1, bt221.2.2.2.2.1, bt221.2.2.2.2.2.1, bt221.2.2.2.2.2.2.1, bt221.2.2.2.2.2.2.2.1, bt221.2.2.2.2.2.2.2.2.1, bt221.2.2.2.2.2.2.2.2.2.1, bt221.2.2.2.2.2.2.2.2.2.2))) = some (r1, r2, r3, r4, r5, r6, r7, r8, r9, r10, r11) := by rw [if_pos rfl] at H; exact H
      clear H
      have H := H1
      clear H1
      replace H := bind_eq_some_iff.mp H
      obtain ⟨⟨t221, t222, t223, t224, t225, t226, t227, t228, t229, t230, t233⟩, A230, H⟩ := H
      replace H : (some (t221, t222, t223, t224, t225, t226, t227, t228, t229, t230, t233)) = some (r1, r2, r3, r4, r5, r6, r7, r8, r9, r10, r11) := H
      have A23 := ak_ A230
      clear A230
      simp only [some.injEq, Prod.mk.injEq] at H
      obtain ⟨rfl, rfl, rfl, rfl, rfl, rfl, rfl, rfl, rfl, rfl, rfl⟩ := H
      have hnb24 := NB212_213.out
      have hnc24 := NB213_212.out
      obtain ⟨hcz25_0, hcz25_1, hcz25_2, hcz25_3, hcz25_4, hcz25_5, hcz25_6, hcz25_7, hcz25_8, hfz25_0, hfz25_1, hfz25_2, hfz25_3, hfz25_4, hfz25_5, hfz25_6, hfz25_7, hfz25_8⟩ := kc9_ BK212.out
      go_wp2_with (first | ((with_reducible refine gate_callee (f := 98) rfl ?_); refine gl_ (some 36) func98 #[.slice A0 l0.length c0, .agg #[.int .i64 (wrap64 (2 + a2)), .int .i64 a1_8, .int .i64 0]] ?_; (with_reducible refine (value_made.calls _ _ l0 (wrap64 (2 + a2)) a1_8 0 t221 t222 t223 t224 t225 t226 t227 t228 t229 t230 t233 _ ?side1 ?side2 A23.out).mono ?_); (case side1 => repeat (first | exact (Kd.C_below HR0.out HB.out) | (with_reducible refine Kd.C_alloc ?_ _) | (with_reducible refine Kd.C_drewN ?_ _) | (with_reducible refine Kd.C_drew ?_))); (case side2 => exact HC0.out); rintro e w26 ⟨v231, rfl, ho0, hb⟩; refine ⟨_, rfl, ?_⟩; have HO232 := ak_ (Kd.R_lower ho0 (bz_ (bw2_ HB GE212 GE213))); replace BK212 := ak_ (kb_ (kl_ BK212) hb); replace BK213 := ak_ (kb_ (kl_ BK213) hb); replace HB := ak_ (bt_ (bw2_ HB GE212 GE213) hb); (try clear hb); (try clear hk); (try clear ho0); have hcz27_0 := kq_ BK213.out 0 rfl; have hcz27_1 := kq_ BK213.out 1 rfl; have hcz27_2 := kq_ BK213.out 2 rfl; have hcz27_3 := kq_ BK213.out 3 rfl; have hcz27_4 := kq_ BK213.out 4 rfl; have hcz27_5 := kq_ BK213.out 5 rfl; have hcz27_6 := kq_ BK213.out 6 rfl; have hcz27_7 := kq_ BK213.out 7 rfl; have hcz27_8 := kq_ BK213.out 8 rfl; have hfz27_0 := kf_ BK213.out 0; have hfz27_1 := kf_ BK213.out 1; have hfz27_2 := kf_ BK213.out 2; have hfz27_3 := kf_ BK213.out 3; have hfz27_4 := kf_ BK213.out 4; have hfz27_5 := kf_ BK213.out 5; have hfz27_6 := kf_ BK213.out 6; have hfz27_7 := kf_ BK213.out 7; have hfz27_8 := kf_ BK213.out 8))
      go_wp2_with (first | ((with_reducible refine gate_callee (f := 98) rfl ?_); refine gl_ (some 36) func98 #[.slice A0 l0.length c0, .agg #[.int .i64 (wrap64 (2 + a2)), .int .i64 a1_8, .int .i64 0]] ?_; (with_reducible refine (value_made.calls _ _ l0 (wrap64 (2 + a2)) a1_8 0 t221 t222 t223 t224 t225 t226 t227 t228 t229 t230 t233 _ ?side1 ?side2 A23.out).mono ?_); (case side1 => repeat (first | exact (Kd.C_below HR0.out HB.out) | (with_reducible refine Kd.C_alloc ?_ _) | (with_reducible refine Kd.C_drewN ?_ _) | (with_reducible refine Kd.C_drew ?_))); (case side2 => exact HC0.out); rintro e w26 ⟨v231, rfl, ho0, hb⟩; refine ⟨_, rfl, ?_⟩; have HO232 := ak_ (Kd.R_lower ho0 (bz_ (bw2_ HB GE212 GE213))); replace BK212 := ak_ (kb_ (kl_ BK212) hb); replace BK213 := ak_ (kb_ (kl_ BK213) hb); replace HB := ak_ (bt_ (bw2_ HB GE212 GE213) hb); (try clear hb); (try clear hk); (try clear ho0); obtain ⟨hcz27_0, hcz27_1, hcz27_2, hcz27_3, hcz27_4, hcz27_5, hcz27_6, hcz27_7, hcz27_8, hfz27_0, hfz27_1, hfz27_2, hfz27_3, hfz27_4, hfz27_5, hfz27_6, hfz27_7, hfz27_8⟩ := kc9_ BK213.out))
      refine bodyPost_ret (results_ctt rfl _ _ gb213 34 #[.bool t221, .bool t222, .int .u64 t223, .int .u64 t224, .int .u64 t225, .int .u64 t226, .int .u64 t227, .int .u64 t228, .int .i64 t229] (0, 0) _ rfl (by (with_reducible repeat (first | refine kn_ ?_ _ | refine kd_ ?_ | refine ka_ ?_ _)); exact sC_blk BK213.out rfl rfl) underlying34 rfl (by kernel_rfl)) rfl ?_
      exact ⟨_, by first | rfl | (simp <;> rfl) | (simp [*] <;> rfl), by (with_reducible repeat (first | apply Kd.R_alloc | apply Kd.R_drewN | apply Kd.R_drew)); exact Kd.R_mono (Kd.R_far (p := ⟨gb213, 8, none⟩) (Kd.R_far (p := ⟨gb213, 7, none⟩) (Kd.R_far (p := ⟨gb213, 6, none⟩) (Kd.R_far (p := ⟨gb213, 5, none⟩) (Kd.R_far (p := ⟨gb213, 4, none⟩) (Kd.R_far (p := ⟨gb213, 3, none⟩) (Kd.R_far (p := ⟨gb213, 2, none⟩) (Kd.R_far (p := ⟨gb213, 1, none⟩) (Kd.R_far (p := ⟨gb213, 0, none⟩) (Kd.R_types HO232.out BK213.out (by decide)) (fun _ hk => hk.2) (.bool t221)) (fun _ hk => hk.2) (.bool t222)) (fun _ hk => hk.2) (.int .u64 t223)) (fun _ hk => hk.2) (.int .u64 t224)) (fun _ hk => hk.2) (.int .u64 t225)) (fun _ hk => hk.2) (.int .u64 t226)) (fun _ hk => hk.2) (.int .u64 t227)) (fun _ hk => hk.2) (.int .u64 t228)) (fun _ hk => hk.2) (.int .i64 t229)) (fun _ hk => trivial), bw2_ HB GE212 GE213⟩
     ·replace c22 := Bool.eq_false_iff.mpr c22
      subst c22
      have H1 : ((mix_Part.f kj4 a1_2 a1_3 a2).bind fun bt234 => ((api_Term.f l0).bind fun t238 => (some (false, false, bt234.1, bt234.2.1, 0, 0, 0, 0, 0, t238, bt234.2.2)))) = some (r1, r2, r3, r4, r5, r6, r7, r8, r9, r10, r11) := by rw [if_neg (show ¬ (false = true) by decide)] at H; exact H
      clear H
      have H := H1
      clear H1
      replace H := bind_eq_some_iff.mp H
      obtain ⟨⟨t234, t235, t236⟩, A280, H⟩ := H
      replace H : ((api_Term.f l0).bind fun t238 => (some (false, false, t234, t235, 0, 0, 0, 0, 0, t238, t236))) = some (r1, r2, r3, r4, r5, r6, r7, r8, r9, r10, r11) := H
      have A28 := ak_ A280
      clear A280
      replace H := bind_eq_some_iff.mp H
      obtain ⟨t238, A290, H⟩ := H
      replace H : (some (false, false, t234, t235, 0, 0, 0, 0, 0, t238, t236)) = some (r1, r2, r3, r4, r5, r6, r7, r8, r9, r10, r11) := H
      have A29 := ak_ A290
      clear A290
      simp only [some.injEq, Prod.mk.injEq] at H
      obtain ⟨rfl, rfl, rfl, rfl, rfl, rfl, rfl, rfl, rfl, rfl, rfl⟩ := H
      have hnb30 := NB212_213.out
      have hnc30 := NB213_212.out
      obtain ⟨hcz31_0, hcz31_1, hcz31_2, hcz31_3, hcz31_4, hcz31_5, hcz31_6, hcz31_7, hcz31_8, hfz31_0, hfz31_1, hfz31_2, hfz31_3, hfz31_4, hfz31_5, hfz31_6, hfz31_7, hfz31_8⟩ := kc9_ BK212.out
      try go_wp2_with (first | ((with_reducible refine gate_callee (f := 99) rfl ?_); refine gl_ (some 44) func99 #[.agg #[.int .u64 a1_2, .int .u64 a1_3], .int .i64 a2] ?_; (with_reducible refine (mix_Part.calls kj4 a1_2 a1_3 a2 t234 t235 t236 _ A28.out).mono ?_); rintro e w32 ⟨rfl, hb⟩; refine ⟨_, rfl, ?_⟩; replace BK212 := ak_ (kb_ (kl_ BK212) hb); replace BK213 := ak_ (kb_ (kl_ BK213) hb); replace HB := ak_ (bt_ (bw2_ HB GE212 GE213) hb); (try clear hb); (try clear hk)) | ((with_reducible refine gate_dst (N := 10) rfl ?_); refine bx_ 10 #[.int .u64 0, .int .u64 0] 24 ?_; intro gb237 hg w33 hbox hb; have BK237 := ak_ hbox; have GW237 := ak_ (gw2_ HB GE212 GE213 hg); have GE237 := ak_ (gw2_ HB GE212 GE213 hg); replace HB := ak_ (bt_ (bw2_ HB GE212 GE213) hb); have NB212_237 := ak_ (nl_ hg BK212); have NB237_212 := ak_ (nr_ hg BK212); replace BK212 := ak_ (kb_ (kl_ BK212) hb); have NB213_237 := ak_ (nl_ hg BK213); have NB237_213 := ak_ (nr_ hg BK213); replace BK213 := ak_ (kb_ (kl_ BK213) hb); clear hb hbox hg; have hnb34 := NB237_212.out; have hnc34 := NB212_237.out; have hnb35 := NB237_213.out; have hnc35 := NB213_237.out; have hcz36_0 := kq_ BK237.out 0 rfl; have hcz36_1 := kq_ BK237.out 1 rfl; have hfz36_0 := kf_ BK237.out 0; have hfz36_1 := kf_ BK237.out 1))
      try go_wp2_with (first | ((with_reducible refine gate_callee (f := 99) rfl ?_); refine gl_ (some 44) func99 #[.agg #[.int .u64 a1_2, .int .u64 a1_3], .int .i64 a2] ?_; (with_reducible refine (mix_Part.calls kj4 a1_2 a1_3 a2 t234 t235 t236 _ A28.out).mono ?_); rintro e w32 ⟨rfl, hb⟩; refine ⟨_, rfl, ?_⟩; replace BK212 := ak_ (kb_ (kl_ BK212) hb); replace BK213 := ak_ (kb_ (kl_ BK213) hb); replace HB := ak_ (bt_ (bw2_ HB GE212 GE213) hb); (try clear hb); (try clear hk)) | ((with_reducible refine gate_dst (N := 10) rfl ?_); refine bx_ 10 #[.int .u64 0, .int .u64 0] 24 ?_; intro gb237 hg w33 hbox hb; have BK237 := ak_ hbox; have GW237 := ak_ (gw2_ HB GE212 GE213 hg); have GE237 := ak_ (gw2_ HB GE212 GE213 hg); replace HB := ak_ (bt_ (bw2_ HB GE212 GE213) hb); have NB212_237 := ak_ (nl_ hg BK212); have NB237_212 := ak_ (nr_ hg BK212); replace BK212 := ak_ (kb_ (kl_ BK212) hb); have NB213_237 := ak_ (nl_ hg BK213); have NB237_213 := ak_ (nr_ hg BK213); replace BK213 := ak_ (kb_ (kl_ BK213) hb); clear hb hbox hg; have hnb34 := NB237_212.out; have hnc34 := NB212_237.out; have hnb35 := NB237_213.out; have hnc35 := NB213_237.out; obtain ⟨hcz36_0, hcz36_1, hfz36_0, hfz36_1⟩ := kc2_ BK237.out))
      obtain ⟨w37, e_⟩ : ∃ w_, sC_ gb237 0 [.int .u64 t234, .int .u64 t235] w33 = w_ := ⟨_, rfl⟩
      have n0_ : Aside0 (w37.heap[gb212]? = some (.cells #[.bool false, .bool a1_1, .int .u64 a1_2, .int .u64 a1_3, .int .u64 a1_4, .int .u64 a1_5, .int .u64 a1_6, .int .u64 a1_7, .int .i64 a1_8] 34 (0, 0))) := ⟨sC_other BK212.out NB212_237.out e_⟩
      have n1_ : Aside0 (w37.heap[gb213]? = some (.cells #[.bool false, .bool false, .int .u64 0, .int .u64 0, .int .u64 0, .int .u64 0, .int .u64 0, .int .u64 0, .int .i64 0] 34 (0, 0))) := ⟨sC_other BK213.out NB213_237.out e_⟩
      have n2_ : Aside0 (w37.heap[gb237]? = some (.cells #[.int .u64 t234, .int .u64 t235] 24 (0, 0))) := ⟨sC_blk BK237.out rfl e_⟩
      have n3_ : Aside0 (Below w.heap.size w w37) := ⟨sC_below GE237.out HB.out e_⟩
      (try clear BK212)
      (try clear BK213)
      (try clear BK237)
      (try clear HB)
      simp only [sC_, Nat.reduceAdd] at e_
      rw [e_]
      clear e_
      have BK212 := n0_
      have BK213 := n1_
      have BK237 := n2_
      have HB := n3_
      clear n0_ n1_ n2_ n3_
      replace BK212 := ak_ (kd_ BK212.out)
      replace BK213 := ak_ (kd_ BK213.out)
      replace BK237 := ak_ (kd_ BK237.out)
      replace HB := ak_ (bd_ HB.out)
      refine start_ (n := 8) (S := fun w' => w'.cell? ⟨gb237, 0, none⟩ = some (.int .u64 t234) ∧ w'.cell? ⟨gb237, 1, none⟩ = some (.int .u64 t235)) (ds := []) #[false, false, false, false, false, false, false, false] (by kernel_rfl) rfl rfl ⟨kq_ BK237.out 0 rfl, kq_ BK237.out 1 rfl⟩ (fun hHeld => ?_); refine with_tabW value_Part.tab7 value_Part.bits7 (fun HT_ HW_ => ?_)
      generalize w37.drew = w38 at BK212 BK213 BK237 HB hHeld ⊢
      refine pu_ HT_ 2 (some 49) #[false, false, true, false, false, false, false, false] ?_
      refine pu_ HT_ 4 (some 51) #[false, false, true, false, true, false, false, false] ?_
      refine tk_ HT_ HW_ hHeld 0 (some 47) #[true, false, true, false, true, false, false, false] rfl (by rintro w' ⟨s0, s1⟩; go_simp; with_reducible rfl) ?_
      refine pu_ HT_ 1 (some 48) #[true, true, true, false, true, false, false, false] ?_
      refine one_ (i := 3) (N := some 50) #[true, true, true, true, true, false, false, false] rfl rfl (one_of HT_.out (by kernel_rfl)) (by decide) (fun K hK => ?_)
      refine gg_ func76 #[.slice A0 l0.length c0] ?_
      with_reducible refine (api_Term.calls _ _ l0 t238 _ ?side1 ?side2 A29.out).mono ?_
      (case side1 => repeat (first | exact (Kd.C_below HR0.out HB.out) | (with_reducible refine Kd.C_alloc ?_ _) | (with_reducible refine Kd.C_drewN ?_ _) | (with_reducible refine Kd.C_drew ?_)))
      (case side2 => exact HC0.out)
      rintro e w39 ⟨v239, rfl, ho0, hb⟩
      refine ⟨_, rfl, ?_⟩
      have HO240 := ak_ (Kd.R_lower ho0 (bz_ (bw3_ HB GE212 GE213 GE237)))
      replace BK212 := ak_ (kb_ (kl_ BK212) hb)
      replace BK213 := ak_ (kb_ (kl_ BK213) hb)
      replace BK237 := ak_ (kb_ (kl_ BK237) hb)
      replace HB := ak_ (bt_ (bw3_ HB GE212 GE213 GE237) hb)
      (try clear hb)
      (try clear hb2)
      (try clear hk)
      (try clear hi)
      (try clear ho0)
      refine hK.out _ _ ⟨kq_ BK237.out 0 rfl, kq_ BK237.out 1 rfl⟩ (fun hHeld => ?_)
      clear hK K
      refine norm_ (a' := ?_) ?_ ?_
      rotate_left
      ·show Act.put _ (some 50) _ = _
       simp only [Act.put, setIfInBounds_toArray, set_cons_zero, set_cons_succ, i64_w, i32_w]
       rfl
      refine one_ (i := 5) (N := none) #[true, true, true, true, true, true, false, false] rfl rfl (one_of HT_.out (by kernel_rfl)) (by decide) (fun K hK => ?_)
      have hs40 : w39.cell? ⟨gb213, 0, none⟩ = some (.bool false) := (kc_ BK213.out 0).trans rfl
      have hfs40 := kf_ BK213.out 0
      have hns40_0 := NB212_213.out
      have hns40_2 := NB237_213.out
      have hms40_0 := NB213_212.out
      have hms40_2 := NB213_237.out
      have hs41 : w39.cell? ⟨gb213, 1, none⟩ = some (.bool false) := (kc_ BK213.out 1).trans rfl
      have hfs41 := kf_ BK213.out 1
      have hns41_0 := NB212_213.out
      have hns41_2 := NB237_213.out
      have hms41_0 := NB213_212.out
      have hms41_2 := NB213_237.out
      have hs42 : w39.cell? ⟨gb213, 2, none⟩ = some (.int .u64 0) := (kc_ BK213.out 2).trans rfl
      have hfs42 := kf_ BK213.out 2
      have hns42_0 := NB212_213.out
      have hns42_2 := NB237_213.out
      have hms42_0 := NB213_212.out
      have hms42_2 := NB213_237.out
      have hs43 : w39.cell? ⟨gb213, 3, none⟩ = some (.int .u64 0) := (kc_ BK213.out 3).trans rfl
      have hfs43 := kf_ BK213.out 3
      have hns43_0 := NB212_213.out
      have hns43_2 := NB237_213.out
      have hms43_0 := NB213_212.out
      have hms43_2 := NB213_237.out
      have hs44 : w39.cell? ⟨gb213, 4, none⟩ = some (.int .u64 0) := (kc_ BK213.out 4).trans rfl
      have hfs44 := kf_ BK213.out 4
      have hns44_0 := NB212_213.out
      have hns44_2 := NB237_213.out
      have hms44_0 := NB213_212.out
      have hms44_2 := NB213_237.out
      have hs45 : w39.cell? ⟨gb213, 5, none⟩ = some (.int .u64 0) := (kc_ BK213.out 5).trans rfl
      have hfs45 := kf_ BK213.out 5
      have hns45_0 := NB212_213.out
      have hns45_2 := NB237_213.out
      have hms45_0 := NB213_212.out
      have hms45_2 := NB213_237.out
      have hs46 : w39.cell? ⟨gb213, 6, none⟩ = some (.int .u64 0) := (kc_ BK213.out 6).trans rfl
      have hfs46 := kf_ BK213.out 6
      have hns46_0 := NB212_213.out
      have hns46_2 := NB237_213.out
      have hms46_0 := NB213_212.out
      have hms46_2 := NB213_237.out
      have hs47 : w39.cell? ⟨gb213, 7, none⟩ = some (.int .u64 0) := (kc_ BK213.out 7).trans rfl
      have hfs47 := kf_ BK213.out 7
      have hns47_0 := NB212_213.out
      have hns47_2 := NB237_213.out
      have hms47_0 := NB213_212.out
      have hms47_2 := NB213_237.out
      have hs48 : w39.cell? ⟨gb213, 8, none⟩ = some (.int .i64 0) := (kc_ BK213.out 8).trans rfl
      have hfs48 := kf_ BK213.out 8
      have hns48_0 := NB212_213.out
      have hns48_2 := NB237_213.out
      have hms48_0 := NB213_212.out
      have hms48_2 := NB213_237.out
      refine skip_ (w1 := ?_) (by rfl) rfl ?_ ?_
      rotate_left
      ·go_simp
       rfl
      refine hK.out _ _ ⟨((cell_far (p := ⟨gb213, _, none⟩) NB237_213.out _).trans (((cell_far (p := ⟨gb213, _, none⟩) NB237_213.out _).trans (((cell_far (p := ⟨gb213, _, none⟩) NB237_213.out _).trans (((cell_far (p := ⟨gb213, _, none⟩) NB237_213.out _).trans (((cell_far (p := ⟨gb213, _, none⟩) NB237_213.out _).trans (((cell_far (p := ⟨gb213, _, none⟩) NB237_213.out _).trans (((cell_far (p := ⟨gb213, _, none⟩) NB237_213.out _).trans (((cell_far (p := ⟨gb213, _, none⟩) NB237_213.out _).trans (((cell_far (p := ⟨gb213, _, none⟩) NB237_213.out _).trans (hHeld.1)))))))))))))))))), ((cell_far (p := ⟨gb213, _, none⟩) NB237_213.out _).trans (((cell_far (p := ⟨gb213, _, none⟩) NB237_213.out _).trans (((cell_far (p := ⟨gb213, _, none⟩) NB237_213.out _).trans (((cell_far (p := ⟨gb213, _, none⟩) NB237_213.out _).trans (((cell_far (p := ⟨gb213, _, none⟩) NB237_213.out _).trans (((cell_far (p := ⟨gb213, _, none⟩) NB237_213.out _).trans (((cell_far (p := ⟨gb213, _, none⟩) NB237_213.out _).trans (((cell_far (p := ⟨gb213, _, none⟩) NB237_213.out _).trans (((cell_far (p := ⟨gb213, _, none⟩) NB237_213.out _).trans (hHeld.2))))))))))))))))))⟩ (fun hHeld => ?_)
      clear hK K
      refine pu_ HT_ 6 (some 7) #[true, true, true, true, true, true, true, false] ?_
      refine pu_ HT_ 7 (some 8) #[true, true, true, true, true, true, true, true] ?_
      refine done_ (done_of HT_.out (by kernel_rfl)) ?_
      try go_wp2
      refine bodyPost_ret (results_ctt rfl _ _ gb213 34 #[.bool false, .bool false, .int .u64 t234, .int .u64 t235, .int .u64 0, .int .u64 0, .int .u64 0, .int .u64 0, .int .i64 0] (0, 0) _ rfl (by (with_reducible repeat (first | refine kn_ ?_ _ | refine kd_ ?_ | refine ka_ ?_ _)); exact sC_blk BK213.out rfl rfl) underlying34 rfl (by kernel_rfl)) rfl ?_
      exact ⟨_, by first | rfl | (simp <;> rfl) | (simp [*] <;> rfl), by (with_reducible repeat (first | apply Kd.R_alloc | apply Kd.R_drewN | apply Kd.R_drew)); exact Kd.R_mono (Kd.R_far (p := ⟨gb213, 8, none⟩) (Kd.R_far (p := ⟨gb213, 7, none⟩) (Kd.R_far (p := ⟨gb213, 6, none⟩) (Kd.R_far (p := ⟨gb213, 5, none⟩) (Kd.R_far (p := ⟨gb213, 4, none⟩) (Kd.R_far (p := ⟨gb213, 3, none⟩) (Kd.R_far (p := ⟨gb213, 2, none⟩) (Kd.R_far (p := ⟨gb213, 1, none⟩) (Kd.R_far (p := ⟨gb213, 0, none⟩) (Kd.R_types HO240.out BK213.out (by decide)) (fun _ hk => hk.2) (.bool false)) (fun _ hk => hk.2) (.bool false)) (fun _ hk => hk.2) (.int .u64 t234)) (fun _ hk => hk.2) (.int .u64 t235)) (fun _ hk => hk.2) (.int .u64 0)) (fun _ hk => hk.2) (.int .u64 0)) (fun _ hk => hk.2) (.int .u64 0)) (fun _ hk => hk.2) (.int .u64 0)) (fun _ hk => hk.2) (.int .i64 0)) (fun _ hk => trivial), bw3_ HB GE212 GE213 GE237⟩
def label_part.f (k : Nat) (l : List S45) (v : S34) (e : Int) (i : Int) : Option (List S45 × S34 × Int) := if e = 0 then ((value_Part.f k l v.f0 v.f1 v.f2.f0 v.f2.f1 v.f3.f0.f0 v.f3.f0.f1 v.f3.f1.f0 v.f3.f1.f1 v.f4 i).bind fun r => some (r.2.2.2.2.2.2.2.2.2.1, ⟨r.1, r.2.1, ⟨r.2.2.1, r.2.2.2.1⟩, ⟨⟨r.2.2.2.2.1, r.2.2.2.2.2.1⟩, ⟨r.2.2.2.2.2.2.1, r.2.2.2.2.2.2.2.1⟩⟩, r.2.2.2.2.2.2.2.2.1⟩, r.2.2.2.2.2.2.2.2.2.2)) else some (l, v, e)
def label_part.T1 : Bool × List (List Nat × List Nat) := (true, [([], []), ([], []), ([], []), ([], []), ([3], [3]), ([4], [4]), ([5], [5]), ([], []), ([7], [7]), ([8], [8]), ([9], [9]), ([], []), ([6, 10, 11], [6, 10, 11]), ([12], [12]), ([13], [13]), ([13], [13]), ([13], [13]), ([0, 0, 3, 4, 5, 6, 7, 8, 9, 10, 11, 12, 13, 14], [0]), ([17, 0, 3, 4, 5, 6, 7, 8, 9, 10, 11, 12, 13, 14], [17]), ([18, 14, 12, 0, 3, 4, 5, 6, 7, 8, 9, 10, 11, 12, 13, 14], [14, 18]), ([1, 0, 1, 3, 4, 5, 6, 7, 8, 9, 10, 11, 12, 13, 14, 15, 17, 18, 19], [1]), ([20, 0, 1, 3, 4, 5, 6, 7, 8, 9, 10, 11, 12, 13, 14, 15, 17, 18, 19], [20]), ([21, 15, 19, 0, 1, 3, 4, 5, 6, 7, 8, 9, 10, 11, 12, 13, 14, 15, 17, 18, 19], [15, 21]), ([2, 0, 1, 2, 3, 4, 5, 6, 7, 8, 9, 10, 11, 12, 13, 14, 15, 16, 17, 18, 19, 20, 21, 22], [2]), ([23, 0, 1, 2, 3, 4, 5, 6, 7, 8, 9, 10, 11, 12, 13, 14, 15, 16, 17, 18, 19, 20, 21, 22], [23]), ([24, 16, 22, 0, 1, 2, 3, 4, 5, 6, 7, 8, 9, 10, 11, 12, 13, 14, 15, 16, 17, 18, 19, 20, 21, 22], [16, 24])])
def label_part.B1 : List Nat := [0, 0, 0, 0, 8, 24, 56, 0, 128, 384, 896, 0, 4088, 8184, 16376, 16376, 16376, 32761, 163833, 425977, 983035, 2031611, 4128763, 8388607, 16777215, 33554431]
theorem label_part.tab1 : rtab .any (opsOf Try.f47 1) = label_part.T1 := by kernel_rfl
theorem label_part.bits1 : waitsOk label_part.T1.2 label_part.B1 = true := by kernel_rfl
theorem label_part.mono : ∀ l v e i k, LeO (label_part.f k l v e i) (label_part.f (k + 1) l v e i) := by
  intro l v e i k
  unfold label_part.f
  repeat' first | (with_reducible first | exact value_Part.mono .. | exact LeO.refl _ | exact LeO.none _ | refine LeO.ite ?_ ?_ | refine LeO.bind ?_ (fun _ => ?_))
set_option maxHeartbeats 8000000 in
set_option maxRecDepth 100000 in
theorem label_part.calls (k : Nat) (l l' : List S45) (v v' : S34) (e e' i : Int) (B g : Nat) (w : World) (hw : Wk B w g l v e) (h : label_part.f k l v e i = some (l', v', e')) :
   Calls Try.prog 47 #[.pointer (some ⟨g, 0, none⟩), .int .i64 i] w fun r w' => ∃ u, r = .returned u ∧ Wk B w' g l' v' e' ∧ LbBut g w w' := by
  obtain ⟨hB, A, c, hg, hr⟩ := hw
  have GB := ak_ hB
  have GL := ak_ (blk_lt hg)
  have BK := ak_ hg
  have HC := ak_ hr
  have HB := ak_ (LbBut.refl g w)
  have hc10 : w.cell? ⟨g, 10, none⟩ = some (.int .i64 e) := (kc_ hg 10).trans rfl
  clear hB hg hr
  unfold label_part.f at h
  by_cases ce : e = 0
  ·rw [if_pos ce] at h
   subst ce
   obtain ⟨r, hr, h⟩ := bind_eq_some_iff.mp h
   obtain ⟨x0, x1, x2, x3, x4, x5, x6, x7, x8, x9, x10⟩ := r
   simp only [some.injEq, Prod.mk.injEq] at h
   obtain ⟨rfl, hv, rfl⟩ := h
   have hv' : value_Part.f k l v.f0 v.f1 v.f2.f0 v.f2.f1 v.f3.f0.f0 v.f3.f0.f1 v.f3.f1.f0 v.f3.f1.f1 v.f4 i = some (v'.f0, v'.f1, v'.f2.f0, v'.f2.f1, v'.f3.f0.f0, v'.f3.f0.f1, v'.f3.f1.f0, v'.f3.f1.f1, v'.f4, x9, x10) := by rw [hr, ← hv]
   have HV := ak_ hv'
   clear hr hv hv'
   obtain ⟨e', he'⟩ : ∃ q, q = x10 := ⟨_, rfl⟩
   rw [← he'] at HV ⊢
   obtain ⟨l', hl'⟩ : ∃ q, q = x9 := ⟨_, rfl⟩
   rw [← hl'] at HV ⊢
   clear he' hl'
   go_enter func47, ntmps47
   try go_wp2
   replace BK := ak_ (kd_ BK.out)
   replace HB := ak_ (HB.out.drew)
   replace HC := ak_ (Kd.R_drew HC.out)
   refine start_ (n := 26) (S := fun w' => w'.cell? ⟨g, 0, none⟩ = some (.slice A l.length c) ∧ w'.cell? ⟨g, 1, none⟩ = some (.bool v.f0) ∧ w'.cell? ⟨g, 2, none⟩ = some (.bool v.f1) ∧ w'.cell? ⟨g, 3, none⟩ = some (.int .u64 v.f2.f0) ∧ w'.cell? ⟨g, 4, none⟩ = some (.int .u64 v.f2.f1) ∧ w'.cell? ⟨g, 5, none⟩ = some (.int .u64 v.f3.f0.f0) ∧ w'.cell? ⟨g, 6, none⟩ = some (.int .u64 v.f3.f0.f1) ∧ w'.cell? ⟨g, 7, none⟩ = some (.int .u64 v.f3.f1.f0) ∧ w'.cell? ⟨g, 8, none⟩ = some (.int .u64 v.f3.f1.f1) ∧ w'.cell? ⟨g, 9, none⟩ = some (.int .i64 v.f4) ∧ w'.cell? ⟨g, 10, none⟩ = some (.int .i64 0)) (ds := [19, 22, 25]) #[false, false, false, false, false, false, false, false, false, false, false, false, false, false, false, false, false, false, false, false, false, false, false, false, false, false] (by kernel_rfl) rfl rfl ⟨(kc_ BK.out 0).trans rfl, (kc_ BK.out 1).trans rfl, (kc_ BK.out 2).trans rfl, (kc_ BK.out 3).trans rfl, (kc_ BK.out 4).trans rfl, (kc_ BK.out 5).trans rfl, (kc_ BK.out 6).trans rfl, (kc_ BK.out 7).trans rfl, (kc_ BK.out 8).trans rfl, (kc_ BK.out 9).trans rfl, (kc_ BK.out 10).trans rfl⟩ (fun hHeld => ?_); refine with_tabW label_part.tab1 label_part.bits1 (fun HT_ HW_ => ?_)
   generalize w.drew = w1 at BK HB HC hHeld ⊢
   refine pu_ HT_ 0 (some 10) (bA5 1 26) ?_
   refine pu_ HT_ 1 (some 11) (bA5 2 26) ?_
   refine pu_ HT_ 2 (some 12) (bA5 3 26) ?_
   refine pu_ HT_ 3 (some 13) (bA5 4 26) ?_
   refine pu_ HT_ 4 (some 14) (bA5 5 26) ?_
   refine pu_ HT_ 5 (some 15) (bA5 6 26) ?_
   refine tk_ HT_ HW_ hHeld 6 (some 16) (bA5 7 26) rfl (by rintro w' ⟨s0, s1, s2, s3, s4, s5, s6, s7, s8, s9, s10⟩; go_simp; with_reducible rfl) ?_
   refine pu_ HT_ 7 (some 17) (bA5 8 26) ?_
   refine pu_ HT_ 8 (some 18) (bA5 9 26) ?_
   refine pu_ HT_ 9 (some 19) (bA5 10 26) ?_
   refine tk_ HT_ HW_ hHeld 10 (some 20) (bA5 11 26) rfl (by rintro w' ⟨s0, s1, s2, s3, s4, s5, s6, s7, s8, s9, s10⟩; go_simp; with_reducible rfl) ?_
   refine pu_ HT_ 11 (some 21) (bA5 12 26) ?_
   refine one_ (i := 12) (N := some 22) (bA5 13 26) rfl rfl (one_of HT_.out (by kernel_rfl)) (by decide) (fun K hK => ?_)
   refine gg_ func78 #[.slice A l.length c, .agg #[.bool v.f0, .bool v.f1, .int .u64 v.f2.f0, .int .u64 v.f2.f1, .int .u64 v.f3.f0.f0, .int .u64 v.f3.f0.f1, .int .u64 v.f3.f1.f0, .int .u64 v.f3.f1.f1, .int .i64 v.f4], .int .i64 i] ?_
   refine (value_Part.calls k A c l v.f0 v.f1 v.f2.f0 v.f2.f1 v.f3.f0.f0 v.f3.f0.f1 v.f3.f1.f0 v.f3.f1.f1 v.f4 i v'.f0 v'.f1 v'.f2.f0 v'.f2.f1 v'.f3.f0.f0 v'.f3.f0.f1 v'.f3.f1.f0 v'.f3.f1.f1 v'.f4 l' e' _ (Kd.R_reads' HC.out).2.2 (Kd.R_reads' HC.out).2.1 HV.out).mono ?_
   rintro e w2 ⟨vl, rfl, ho, hb⟩
   refine ⟨_, rfl, ?_⟩
   obtain ⟨A', c', eo, hC'⟩ := lb_R (B := B) ho (blk_lt BK.out) (by have := GB.out; have := blk_lt BK.out; omega)
   subst eo
   clear HC ho
   have HC := ak_ hC'
   clear hC'
   replace BK := ak_ (kb_ BK.out hb)
   replace HB := ak_ (HB.out.trans (LbBut.of hb))
   clear hb
   refine hK.out _ _ ⟨(kc_ BK.out 0).trans rfl, (kc_ BK.out 1).trans rfl, (kc_ BK.out 2).trans rfl, (kc_ BK.out 3).trans rfl, (kc_ BK.out 4).trans rfl, (kc_ BK.out 5).trans rfl, (kc_ BK.out 6).trans rfl, (kc_ BK.out 7).trans rfl, (kc_ BK.out 8).trans rfl, (kc_ BK.out 9).trans rfl, (kc_ BK.out 10).trans rfl⟩ (fun hHeld => ?_)
   clear hK K
   refine norm_ (a' := ?_) ?_ ?_
   rotate_left
   ·show Act.put _ (some 22) _ = _
    simp only [Act.put, setIfInBounds_toArray, set_cons_zero, set_cons_succ, i64_w, i32_w]
    rfl
   refine pu_ HT_ 13 (some 9) (bA5 14 26) ?_
   refine pu_ HT_ 14 (some 23) (bA5 15 26) ?_
   refine pu_ HT_ 15 (some 24) (bA5 16 26) ?_
   refine pu_ HT_ 16 (some 25) (bA5 17 26) ?_
   refine pu_ HT_ 17 (some 26) (bA5 18 26) ?_
   refine pu_ HT_ 18 (some 27) (bA5 19 26) ?_
   refine last_ (i := 19) (N := none) (bA5 20 26) rfl rfl (one_of HT_.out (by kernel_rfl)) (by decide) (fun K hK => ?_)
   have hf1 := kf_ BK.out 1
   have hf2 := kf_ BK.out 2
   have hf3 := kf_ BK.out 3
   have hf4 := kf_ BK.out 4
   have hf5 := kf_ BK.out 5
   have hf6 := kf_ BK.out 6
   have hf7 := kf_ BK.out 7
   have hf8 := kf_ BK.out 8
   have hf9 := kf_ BK.out 9
   have hs1 : w2.cell? ⟨g, 1, none⟩ = some (.bool v.f0) := (kc_ BK.out 1).trans rfl
   have hs2 : w2.cell? ⟨g, 2, none⟩ = some (.bool v.f1) := (kc_ BK.out 2).trans rfl
   have hs3 : w2.cell? ⟨g, 3, none⟩ = some (.int .u64 v.f2.f0) := (kc_ BK.out 3).trans rfl
   have hs4 : w2.cell? ⟨g, 4, none⟩ = some (.int .u64 v.f2.f1) := (kc_ BK.out 4).trans rfl
   have hs5 : w2.cell? ⟨g, 5, none⟩ = some (.int .u64 v.f3.f0.f0) := (kc_ BK.out 5).trans rfl
   have hs6 : w2.cell? ⟨g, 6, none⟩ = some (.int .u64 v.f3.f0.f1) := (kc_ BK.out 6).trans rfl
   have hs7 : w2.cell? ⟨g, 7, none⟩ = some (.int .u64 v.f3.f1.f0) := (kc_ BK.out 7).trans rfl
   have hs8 : w2.cell? ⟨g, 8, none⟩ = some (.int .u64 v.f3.f1.f1) := (kc_ BK.out 8).trans rfl
   have hs9 : w2.cell? ⟨g, 9, none⟩ = some (.int .i64 v.f4) := (kc_ BK.out 9).trans rfl
   refine skip_ (w1 := ?_) (by rfl) rfl ?_ ?_
   rotate_left
   ·go_simp
    rfl
   clear hf1 hs1 hf2 hs2 hf3 hs3 hf4 hs4 hf5 hs5 hf6 hs6 hf7 hs7 hf8 hs8 hf9 hs9
   have n0_ : Aside0 ((((((((((w2.setCell ⟨g, 1, none⟩ (.bool v'.f0)).setCell ⟨g, 2, none⟩ (.bool v'.f1)).setCell ⟨g, 3, none⟩ (.int .u64 v'.f2.f0)).setCell ⟨g, 4, none⟩ (.int .u64 v'.f2.f1)).setCell ⟨g, 5, none⟩ (.int .u64 v'.f3.f0.f0)).setCell ⟨g, 6, none⟩ (.int .u64 v'.f3.f0.f1)).setCell ⟨g, 7, none⟩ (.int .u64 v'.f3.f1.f0)).setCell ⟨g, 8, none⟩ (.int .u64 v'.f3.f1.f1)).setCell ⟨g, 9, none⟩ (.int .i64 v'.f4)).heap[g]? = some (.cells #[.slice A l.length c, .bool v'.f0, .bool v'.f1, .int .u64 v'.f2.f0, .int .u64 v'.f2.f1, .int .u64 v'.f3.f0.f0, .int .u64 v'.f3.f0.f1, .int .u64 v'.f3.f1.f0, .int .u64 v'.f3.f1.f1, .int .i64 v'.f4, .int .i64 0] 88 (0, 0))) := ⟨(blk_put (cs' := #[.slice A l.length c, .bool v'.f0, .bool v'.f1, .int .u64 v'.f2.f0, .int .u64 v'.f2.f1, .int .u64 v'.f3.f0.f0, .int .u64 v'.f3.f0.f1, .int .u64 v'.f3.f1.f0, .int .u64 v'.f3.f1.f1, .int .i64 v'.f4, .int .i64 0]) (blk_put (cs' := #[.slice A l.length c, .bool v'.f0, .bool v'.f1, .int .u64 v'.f2.f0, .int .u64 v'.f2.f1, .int .u64 v'.f3.f0.f0, .int .u64 v'.f3.f0.f1, .int .u64 v'.f3.f1.f0, .int .u64 v'.f3.f1.f1, .int .i64 v.f4, .int .i64 0]) (blk_put (cs' := #[.slice A l.length c, .bool v'.f0, .bool v'.f1, .int .u64 v'.f2.f0, .int .u64 v'.f2.f1, .int .u64 v'.f3.f0.f0, .int .u64 v'.f3.f0.f1, .int .u64 v'.f3.f1.f0, .int .u64 v.f3.f1.f1, .int .i64 v.f4, .int .i64 0]) (blk_put (cs' := #[.slice A l.length c, .bool v'.f0, .bool v'.f1, .int .u64 v'.f2.f0, .int .u64 v'.f2.f1, .int .u64 v'.f3.f0.f0, .int .u64 v'.f3.f0.f1, .int .u64 v.f3.f1.f0, .int .u64 v.f3.f1.f1, .int .i64 v.f4, .int .i64 0]) (blk_put (cs' := #[.slice A l.length c, .bool v'.f0, .bool v'.f1, .int .u64 v'.f2.f0, .int .u64 v'.f2.f1, .int .u64 v'.f3.f0.f0, .int .u64 v.f3.f0.f1, .int .u64 v.f3.f1.f0, .int .u64 v.f3.f1.f1, .int .i64 v.f4, .int .i64 0]) (blk_put (cs' := #[.slice A l.length c, .bool v'.f0, .bool v'.f1, .int .u64 v'.f2.f0, .int .u64 v'.f2.f1, .int .u64 v.f3.f0.f0, .int .u64 v.f3.f0.f1, .int .u64 v.f3.f1.f0, .int .u64 v.f3.f1.f1, .int .i64 v.f4, .int .i64 0]) (blk_put (cs' := #[.slice A l.length c, .bool v'.f0, .bool v'.f1, .int .u64 v'.f2.f0, .int .u64 v.f2.f1, .int .u64 v.f3.f0.f0, .int .u64 v.f3.f0.f1, .int .u64 v.f3.f1.f0, .int .u64 v.f3.f1.f1, .int .i64 v.f4, .int .i64 0]) (blk_put (cs' := #[.slice A l.length c, .bool v'.f0, .bool v'.f1, .int .u64 v.f2.f0, .int .u64 v.f2.f1, .int .u64 v.f3.f0.f0, .int .u64 v.f3.f0.f1, .int .u64 v.f3.f1.f0, .int .u64 v.f3.f1.f1, .int .i64 v.f4, .int .i64 0]) (blk_put (cs' := #[.slice A l.length c, .bool v'.f0, .bool v.f1, .int .u64 v.f2.f0, .int .u64 v.f2.f1, .int .u64 v.f3.f0.f0, .int .u64 v.f3.f0.f1, .int .u64 v.f3.f1.f0, .int .u64 v.f3.f1.f1, .int .i64 v.f4, .int .i64 0]) BK.out 1 (.bool v'.f0) rfl) 2 (.bool v'.f1) rfl) 3 (.int .u64 v'.f2.f0) rfl) 4 (.int .u64 v'.f2.f1) rfl) 5 (.int .u64 v'.f3.f0.f0) rfl) 6 (.int .u64 v'.f3.f0.f1) rfl) 7 (.int .u64 v'.f3.f1.f0) rfl) 8 (.int .u64 v'.f3.f1.f1) rfl) 9 (.int .i64 v'.f4) rfl)⟩
   have n1_ : Aside0 (LbBut g w (((((((((w2.setCell ⟨g, 1, none⟩ (.bool v'.f0)).setCell ⟨g, 2, none⟩ (.bool v'.f1)).setCell ⟨g, 3, none⟩ (.int .u64 v'.f2.f0)).setCell ⟨g, 4, none⟩ (.int .u64 v'.f2.f1)).setCell ⟨g, 5, none⟩ (.int .u64 v'.f3.f0.f0)).setCell ⟨g, 6, none⟩ (.int .u64 v'.f3.f0.f1)).setCell ⟨g, 7, none⟩ (.int .u64 v'.f3.f1.f0)).setCell ⟨g, 8, none⟩ (.int .u64 v'.f3.f1.f1)).setCell ⟨g, 9, none⟩ (.int .i64 v'.f4))) := ⟨(((((((((HB.out.trans (LbBut.set _ _ _ _)).trans (LbBut.set _ _ _ _)).trans (LbBut.set _ _ _ _)).trans (LbBut.set _ _ _ _)).trans (LbBut.set _ _ _ _)).trans (LbBut.set _ _ _ _)).trans (LbBut.set _ _ _ _)).trans (LbBut.set _ _ _ _)).trans (LbBut.set _ _ _ _))⟩
   have n2_ : Aside0 (Kd.R k45 45 (((((((((w2.setCell ⟨g, 1, none⟩ (.bool v'.f0)).setCell ⟨g, 2, none⟩ (.bool v'.f1)).setCell ⟨g, 3, none⟩ (.int .u64 v'.f2.f0)).setCell ⟨g, 4, none⟩ (.int .u64 v'.f2.f1)).setCell ⟨g, 5, none⟩ (.int .u64 v'.f3.f0.f0)).setCell ⟨g, 6, none⟩ (.int .u64 v'.f3.f0.f1)).setCell ⟨g, 7, none⟩ (.int .u64 v'.f3.f1.f0)).setCell ⟨g, 8, none⟩ (.int .u64 v'.f3.f1.f1)).setCell ⟨g, 9, none⟩ (.int .i64 v'.f4)) B (fun k => k ≠ g) (.slice A' l'.length c') l') := ⟨(Kd.R_far (Kd.R_far (Kd.R_far (Kd.R_far (Kd.R_far (Kd.R_far (Kd.R_far (Kd.R_far (Kd.R_far HC.out (p := ⟨g, 1, none⟩) (fun _ hk => hk) (.bool v'.f0)) (p := ⟨g, 2, none⟩) (fun _ hk => hk) (.bool v'.f1)) (p := ⟨g, 3, none⟩) (fun _ hk => hk) (.int .u64 v'.f2.f0)) (p := ⟨g, 4, none⟩) (fun _ hk => hk) (.int .u64 v'.f2.f1)) (p := ⟨g, 5, none⟩) (fun _ hk => hk) (.int .u64 v'.f3.f0.f0)) (p := ⟨g, 6, none⟩) (fun _ hk => hk) (.int .u64 v'.f3.f0.f1)) (p := ⟨g, 7, none⟩) (fun _ hk => hk) (.int .u64 v'.f3.f1.f0)) (p := ⟨g, 8, none⟩) (fun _ hk => hk) (.int .u64 v'.f3.f1.f1)) (p := ⟨g, 9, none⟩) (fun _ hk => hk) (.int .i64 v'.f4))⟩
   refine hK.out _ _ ?_
   clear hK K BK HB HC
   generalize (((((((((w2.setCell ⟨g, 1, none⟩ (.bool v'.f0)).setCell ⟨g, 2, none⟩ (.bool v'.f1)).setCell ⟨g, 3, none⟩ (.int .u64 v'.f2.f0)).setCell ⟨g, 4, none⟩ (.int .u64 v'.f2.f1)).setCell ⟨g, 5, none⟩ (.int .u64 v'.f3.f0.f0)).setCell ⟨g, 6, none⟩ (.int .u64 v'.f3.f0.f1)).setCell ⟨g, 7, none⟩ (.int .u64 v'.f3.f1.f0)).setCell ⟨g, 8, none⟩ (.int .u64 v'.f3.f1.f1)).setCell ⟨g, 9, none⟩ (.int .i64 v'.f4)) = w3 at n0_ n1_ n2_ ⊢
   have BK := n0_
   have HB := n1_
   have HC := n2_
   clear n0_ n1_ n2_
   refine pu_ HT_ 20 (some 28) (bA5 21 26) ?_
   refine pu_ HT_ 21 (some 29) (bA5 22 26) ?_
   refine last_ (i := 22) (N := none) (bA5 23 26) rfl rfl (one_of HT_.out (by kernel_rfl)) (by decide) (fun K hK => ?_)
   have hf0 := kf_ BK.out 0
   have hs0 : w3.cell? ⟨g, 0, none⟩ = some (.slice A l.length c) := (kc_ BK.out 0).trans rfl
   refine skip_ (w1 := ?_) (by rfl) rfl ?_ ?_
   rotate_left
   ·go_simp
    rfl
   clear hf0 hs0
   have n0_ : Aside0 ((w3.setCell ⟨g, 0, none⟩ (.slice A' l'.length c')).heap[g]? = some (.cells #[.slice A' l'.length c', .bool v'.f0, .bool v'.f1, .int .u64 v'.f2.f0, .int .u64 v'.f2.f1, .int .u64 v'.f3.f0.f0, .int .u64 v'.f3.f0.f1, .int .u64 v'.f3.f1.f0, .int .u64 v'.f3.f1.f1, .int .i64 v'.f4, .int .i64 0] 88 (0, 0))) := ⟨(blk_put (cs' := #[.slice A' l'.length c', .bool v'.f0, .bool v'.f1, .int .u64 v'.f2.f0, .int .u64 v'.f2.f1, .int .u64 v'.f3.f0.f0, .int .u64 v'.f3.f0.f1, .int .u64 v'.f3.f1.f0, .int .u64 v'.f3.f1.f1, .int .i64 v'.f4, .int .i64 0]) BK.out 0 (.slice A' l'.length c') rfl)⟩
   have n1_ : Aside0 (LbBut g w (w3.setCell ⟨g, 0, none⟩ (.slice A' l'.length c'))) := ⟨(HB.out.trans (LbBut.set _ _ _ _))⟩
   have n2_ : Aside0 (Kd.R k45 45 (w3.setCell ⟨g, 0, none⟩ (.slice A' l'.length c')) B (fun k => k ≠ g) (.slice A' l'.length c') l') := ⟨(Kd.R_far HC.out (p := ⟨g, 0, none⟩) (fun _ hk => hk) (.slice A' l'.length c'))⟩
   refine hK.out _ _ ?_
   clear hK K BK HB HC
   generalize (w3.setCell ⟨g, 0, none⟩ (.slice A' l'.length c')) = w4 at n0_ n1_ n2_ ⊢
   have BK := n0_
   have HB := n1_
   have HC := n2_
   clear n0_ n1_ n2_
   refine pu_ HT_ 23 (some 30) (bA5 24 26) ?_
   refine pu_ HT_ 24 (some 31) (bA5 25 26) ?_
   refine last_ (i := 25) (N := none) (bA5 26 26) rfl rfl (one_of HT_.out (by kernel_rfl)) (by decide) (fun K hK => ?_)
   have hf10 := kf_ BK.out 10
   have hs10 : w4.cell? ⟨g, 10, none⟩ = some (.int .i64 0) := (kc_ BK.out 10).trans rfl
   refine skip_ (w1 := ?_) (by rfl) rfl ?_ ?_
   rotate_left
   ·go_simp
    rfl
   clear hf10 hs10
   have n0_ : Aside0 ((w4.setCell ⟨g, 10, none⟩ (.int .i64 e')).heap[g]? = some (.cells #[.slice A' l'.length c', .bool v'.f0, .bool v'.f1, .int .u64 v'.f2.f0, .int .u64 v'.f2.f1, .int .u64 v'.f3.f0.f0, .int .u64 v'.f3.f0.f1, .int .u64 v'.f3.f1.f0, .int .u64 v'.f3.f1.f1, .int .i64 v'.f4, .int .i64 e'] 88 (0, 0))) := ⟨(blk_put (cs' := #[.slice A' l'.length c', .bool v'.f0, .bool v'.f1, .int .u64 v'.f2.f0, .int .u64 v'.f2.f1, .int .u64 v'.f3.f0.f0, .int .u64 v'.f3.f0.f1, .int .u64 v'.f3.f1.f0, .int .u64 v'.f3.f1.f1, .int .i64 v'.f4, .int .i64 e']) BK.out 10 (.int .i64 e') rfl)⟩
   have n1_ : Aside0 (LbBut g w (w4.setCell ⟨g, 10, none⟩ (.int .i64 e'))) := ⟨(HB.out.trans (LbBut.set _ _ _ _))⟩
   have n2_ : Aside0 (Kd.R k45 45 (w4.setCell ⟨g, 10, none⟩ (.int .i64 e')) B (fun k => k ≠ g) (.slice A' l'.length c') l') := ⟨(Kd.R_far HC.out (p := ⟨g, 10, none⟩) (fun _ hk => hk) (.int .i64 e'))⟩
   refine hK.out _ _ ?_
   clear hK K BK HB HC
   generalize (w4.setCell ⟨g, 10, none⟩ (.int .i64 e')) = w5 at n0_ n1_ n2_ ⊢
   have BK := n0_
   have HB := n1_
   have HC := n2_
   clear n0_ n1_ n2_
   refine done_ (done_of HT_.out (by kernel_rfl)) ?_
   go_wp2
   go_end0
   exact ⟨_, rfl, ⟨GB.out, A', c', BK.out, HC.out⟩, HB.out⟩
  ·rw [if_neg ce] at h
   simp only [some.injEq, Prod.mk.injEq] at h
   obtain ⟨rfl, rfl, rfl⟩ := h
   have cb : (e == 0) = false := by simpa using ce
   go_enter func47, ntmps47
   go_wp2
   go_end0
   exact ⟨_, rfl, ⟨GB.out, A, c, BK.out, HC.out⟩, HB.out⟩
def label_end.T2 : Bool × List (List Nat × List Nat) := (true, [([], []), ([], []), ([1], [1]), ([2], [2]), ([3], [3]), ([0, 0], [0]), ([5, 0, 5], []), ([4, 6, 0, 1, 2, 3, 4, 5, 6], [4])])
def label_end.B2 : List Nat := [0, 0, 2, 6, 14, 1, 33, 127]
theorem label_end.tab2 : rtab .any (opsOf Try.f48 2) = label_end.T2 := by kernel_rfl
theorem label_end.bits2 : waitsOk label_end.T2.2 label_end.B2 = true := by kernel_rfl
def label_end.T3 : Bool × List (List Nat × List Nat) := (true, [([], []), ([0], [0]), ([1], [1]), ([2], [2]), ([], []), ([4], [4]), ([5], [5]), ([6], [6]), ([3, 0, 1, 2, 3], [3]), ([7, 8, 0, 1, 2, 3, 4, 5, 6, 7, 8], [7]), ([9, 0, 1, 2, 3, 4, 5, 6, 7, 8, 9], [])])
def label_end.B3 : List Nat := [0, 1, 3, 7, 0, 16, 48, 112, 15, 511, 1023]
theorem label_end.tab3 : rtab .any (opsOf Try.f48 3) = label_end.T3 := by kernel_rfl
theorem label_end.bits3 : waitsOk label_end.T3.2 label_end.B3 = true := by kernel_rfl
set_option maxHeartbeats 8000000 in
set_option maxRecDepth 100000 in
theorem label_end.calls (v : S34) (e : Int) (l : List S45) (A : Option Addr) (c g : Nat) (w : World) (hg : w.heap[g]? = some (.cells #[.slice A l.length c, .bool v.f0, .bool v.f1, .int .u64 v.f2.f0, .int .u64 v.f2.f1, .int .u64 v.f3.f0.f0, .int .u64 v.f3.f0.f1, .int .u64 v.f3.f1.f0, .int .u64 v.f3.f1.f1, .int .i64 v.f4, .int .i64 e] 88 (0, 0))) :
   Calls Try.prog 48 #[.pointer (some ⟨g, 0, none⟩)] w fun r w' => r = .returned (if e = 0 then .tuple #[.agg #[.bool v.f0, .bool v.f1, .int .u64 v.f2.f0, .int .u64 v.f2.f1, .int .u64 v.f3.f0.f0, .int .u64 v.f3.f0.f1, .int .u64 v.f3.f1.f0, .int .u64 v.f3.f1.f1, .int .i64 v.f4], .slice A l.length c, .int .i64 0] else .tuple #[.agg #[.bool false, .bool false, .int .u64 0, .int .u64 0, .int .u64 0, .int .u64 0, .int .u64 0, .int .u64 0, .int .i64 0], .slice none 0 0, .int .i64 e]) ∧ Below w.heap.size w w' := by
  have hu_v := underlying34
  have BK := ak_ hg
  have HB := ak_ (Below.refl w.heap.size w)
  clear hg
  by_cases ce : e = 0
  ·subst ce
   rw [if_pos rfl]
   go_enter func48, ntmps48
   go_wp2_with (first | ((with_reducible refine gate_dst (N := 2) rfl ?_); refine bx_ 2 #[.bool false, .bool false, .int .u64 0, .int .u64 0, .int .u64 0, .int .u64 0, .int .u64 0, .int .u64 0, .int .i64 0] 34 ?_; intro g2 hgs w1 hbox hb; have GE := ak_ (show w.heap.size ≤ g2 by rw [hgs]; exact Nat.le_refl _); have n0_ := ak_ (kb_ BK.out hb); have n1_ := ak_ hb; have NG := ak_ (show g ≠ g2 by rw [hgs]; exact Nat.ne_of_lt (blk_lt BK.out)); have BS := ak_ hbox; clear BK HB hb hbox hgs; have BK := n0_; have HB := n1_; clear n0_ n1_; have hz10 : w1.cell? ⟨g, 10, none⟩ = some (.int .i64 0) := (kc_ BK.out 10).trans rfl))
   try go_wp2
   replace BK := ak_ (kd_ BK.out)
   replace BS := ak_ (kd_ BS.out)
   replace HB := ak_ (bd_ HB.out)
   refine start_ (n := 11) (S := fun w' => w'.cell? ⟨g, 0, none⟩ = some (.slice A l.length c) ∧ w'.cell? ⟨g, 1, none⟩ = some (.bool v.f0) ∧ w'.cell? ⟨g, 2, none⟩ = some (.bool v.f1) ∧ w'.cell? ⟨g, 3, none⟩ = some (.int .u64 v.f2.f0) ∧ w'.cell? ⟨g, 4, none⟩ = some (.int .u64 v.f2.f1) ∧ w'.cell? ⟨g, 5, none⟩ = some (.int .u64 v.f3.f0.f0) ∧ w'.cell? ⟨g, 6, none⟩ = some (.int .u64 v.f3.f0.f1) ∧ w'.cell? ⟨g, 7, none⟩ = some (.int .u64 v.f3.f1.f0) ∧ w'.cell? ⟨g, 8, none⟩ = some (.int .u64 v.f3.f1.f1) ∧ w'.cell? ⟨g, 9, none⟩ = some (.int .i64 v.f4) ∧ w'.cell? ⟨g, 10, none⟩ = some (.int .i64 0)) (ds := []) #[false, false, false, false, false, false, false, false, false, false, false] (by kernel_rfl) rfl rfl ⟨(kc_ BK.out 0).trans rfl, (kc_ BK.out 1).trans rfl, (kc_ BK.out 2).trans rfl, (kc_ BK.out 3).trans rfl, (kc_ BK.out 4).trans rfl, (kc_ BK.out 5).trans rfl, (kc_ BK.out 6).trans rfl, (kc_ BK.out 7).trans rfl, (kc_ BK.out 8).trans rfl, (kc_ BK.out 9).trans rfl, (kc_ BK.out 10).trans rfl⟩ (fun hHeld => ?_); refine with_tabW label_end.tab3 label_end.bits3 (fun HT_ HW_ => ?_)
   generalize w1.drew = w2 at BK BS HB hHeld ⊢
   refine pu_ HT_ 0 (some 15) #[true, false, false, false, false, false, false, false, false, false, false] ?_
   refine pu_ HT_ 1 (some 16) #[true, true, false, false, false, false, false, false, false, false, false] ?_
   refine pu_ HT_ 2 (some 17) #[true, true, true, false, false, false, false, false, false, false, false] ?_
   refine tk_ HT_ HW_ hHeld 3 (some 18) #[true, true, true, true, false, false, false, false, false, false, false] rfl (by rintro w' ⟨s0, s1, s2, s3, s4, s5, s6, s7, s8, s9, s10⟩; go_simp; with_reducible rfl) ?_
   refine pu_ HT_ 4 (some 19) #[true, true, true, true, true, false, false, false, false, false, false] ?_
   refine pu_ HT_ 5 (some 20) #[true, true, true, true, true, true, false, false, false, false, false] ?_
   refine pu_ HT_ 6 (some 21) #[true, true, true, true, true, true, true, false, false, false, false] ?_
   refine tk_ HT_ HW_ hHeld 7 (some 22) #[true, true, true, true, true, true, true, true, false, false, false] rfl (by rintro w' ⟨s0, s1, s2, s3, s4, s5, s6, s7, s8, s9, s10⟩; go_simp; with_reducible rfl) ?_
   refine one_ (i := 8) (N := none) #[true, true, true, true, true, true, true, true, true, false, false] rfl rfl (one_of HT_.out (by kernel_rfl)) (by decide) (fun K hK => ?_)
   have hf0 := kf_ BS.out 0
   have hf1 := kf_ BS.out 1
   have hf2 := kf_ BS.out 2
   have hf3 := kf_ BS.out 3
   have hf4 := kf_ BS.out 4
   have hf5 := kf_ BS.out 5
   have hf6 := kf_ BS.out 6
   have hf7 := kf_ BS.out 7
   have hf8 := kf_ BS.out 8
   have hs0 : w2.cell? ⟨g2, 0, none⟩ = some (.bool false) := (kc_ BS.out 0).trans rfl
   have hs1 : w2.cell? ⟨g2, 1, none⟩ = some (.bool false) := (kc_ BS.out 1).trans rfl
   have hs2 : w2.cell? ⟨g2, 2, none⟩ = some (.int .u64 0) := (kc_ BS.out 2).trans rfl
   have hs3 : w2.cell? ⟨g2, 3, none⟩ = some (.int .u64 0) := (kc_ BS.out 3).trans rfl
   have hs4 : w2.cell? ⟨g2, 4, none⟩ = some (.int .u64 0) := (kc_ BS.out 4).trans rfl
   have hs5 : w2.cell? ⟨g2, 5, none⟩ = some (.int .u64 0) := (kc_ BS.out 5).trans rfl
   have hs6 : w2.cell? ⟨g2, 6, none⟩ = some (.int .u64 0) := (kc_ BS.out 6).trans rfl
   have hs7 : w2.cell? ⟨g2, 7, none⟩ = some (.int .u64 0) := (kc_ BS.out 7).trans rfl
   have hs8 : w2.cell? ⟨g2, 8, none⟩ = some (.int .i64 0) := (kc_ BS.out 8).trans rfl
   refine skip_ (w1 := ?_) (by rfl) rfl ?_ ?_
   rotate_left
   ·go_simp
    rfl
   clear hf0 hs0 hf1 hs1 hf2 hs2 hf3 hs3 hf4 hs4 hf5 hs5 hf6 hs6 hf7 hs7 hf8 hs8
   have n0_ : Aside0 ((((((((((w2.setCell ⟨g2, 0, none⟩ (.bool v.f0)).setCell ⟨g2, 1, none⟩ (.bool v.f1)).setCell ⟨g2, 2, none⟩ (.int .u64 v.f2.f0)).setCell ⟨g2, 3, none⟩ (.int .u64 v.f2.f1)).setCell ⟨g2, 4, none⟩ (.int .u64 v.f3.f0.f0)).setCell ⟨g2, 5, none⟩ (.int .u64 v.f3.f0.f1)).setCell ⟨g2, 6, none⟩ (.int .u64 v.f3.f1.f0)).setCell ⟨g2, 7, none⟩ (.int .u64 v.f3.f1.f1)).setCell ⟨g2, 8, none⟩ (.int .i64 v.f4)).heap[g2]? = some (.cells #[.bool v.f0, .bool v.f1, .int .u64 v.f2.f0, .int .u64 v.f2.f1, .int .u64 v.f3.f0.f0, .int .u64 v.f3.f0.f1, .int .u64 v.f3.f1.f0, .int .u64 v.f3.f1.f1, .int .i64 v.f4] 34 (0, 0))) := ⟨(blk_put (cs' := #[.bool v.f0, .bool v.f1, .int .u64 v.f2.f0, .int .u64 v.f2.f1, .int .u64 v.f3.f0.f0, .int .u64 v.f3.f0.f1, .int .u64 v.f3.f1.f0, .int .u64 v.f3.f1.f1, .int .i64 v.f4]) (blk_put (cs' := #[.bool v.f0, .bool v.f1, .int .u64 v.f2.f0, .int .u64 v.f2.f1, .int .u64 v.f3.f0.f0, .int .u64 v.f3.f0.f1, .int .u64 v.f3.f1.f0, .int .u64 v.f3.f1.f1, .int .i64 0]) (blk_put (cs' := #[.bool v.f0, .bool v.f1, .int .u64 v.f2.f0, .int .u64 v.f2.f1, .int .u64 v.f3.f0.f0, .int .u64 v.f3.f0.f1, .int .u64 v.f3.f1.f0, .int .u64 0, .int .i64 0]) (blk_put (cs' := #[.bool v.f0, .bool v.f1, .int .u64 v.f2.f0, .int .u64 v.f2.f1, .int .u64 v.f3.f0.f0, .int .u64 v.f3.f0.f1, .int .u64 0, .int .u64 0, .int .i64 0]) (blk_put (cs' := #[.bool v.f0, .bool v.f1, .int .u64 v.f2.f0, .int .u64 v.f2.f1, .int .u64 v.f3.f0.f0, .int .u64 0, .int .u64 0, .int .u64 0, .int .i64 0]) (blk_put (cs' := #[.bool v.f0, .bool v.f1, .int .u64 v.f2.f0, .int .u64 v.f2.f1, .int .u64 0, .int .u64 0, .int .u64 0, .int .u64 0, .int .i64 0]) (blk_put (cs' := #[.bool v.f0, .bool v.f1, .int .u64 v.f2.f0, .int .u64 0, .int .u64 0, .int .u64 0, .int .u64 0, .int .u64 0, .int .i64 0]) (blk_put (cs' := #[.bool v.f0, .bool v.f1, .int .u64 0, .int .u64 0, .int .u64 0, .int .u64 0, .int .u64 0, .int .u64 0, .int .i64 0]) (blk_put (cs' := #[.bool v.f0, .bool false, .int .u64 0, .int .u64 0, .int .u64 0, .int .u64 0, .int .u64 0, .int .u64 0, .int .i64 0]) BS.out 0 (.bool v.f0) rfl) 1 (.bool v.f1) rfl) 2 (.int .u64 v.f2.f0) rfl) 3 (.int .u64 v.f2.f1) rfl) 4 (.int .u64 v.f3.f0.f0) rfl) 5 (.int .u64 v.f3.f0.f1) rfl) 6 (.int .u64 v.f3.f1.f0) rfl) 7 (.int .u64 v.f3.f1.f1) rfl) 8 (.int .i64 v.f4) rfl)⟩
   have n1_ : Aside0 (Below w.heap.size w (((((((((w2.setCell ⟨g2, 0, none⟩ (.bool v.f0)).setCell ⟨g2, 1, none⟩ (.bool v.f1)).setCell ⟨g2, 2, none⟩ (.int .u64 v.f2.f0)).setCell ⟨g2, 3, none⟩ (.int .u64 v.f2.f1)).setCell ⟨g2, 4, none⟩ (.int .u64 v.f3.f0.f0)).setCell ⟨g2, 5, none⟩ (.int .u64 v.f3.f0.f1)).setCell ⟨g2, 6, none⟩ (.int .u64 v.f3.f1.f0)).setCell ⟨g2, 7, none⟩ (.int .u64 v.f3.f1.f1)).setCell ⟨g2, 8, none⟩ (.int .i64 v.f4))) := ⟨(below_set (below_set (below_set (below_set (below_set (below_set (below_set (below_set (below_set HB.out GE.out) GE.out) GE.out) GE.out) GE.out) GE.out) GE.out) GE.out) GE.out)⟩
   have n2_ := ak_ ((blk_far (p := ⟨g2, 8, none⟩) (blk_far (p := ⟨g2, 7, none⟩) (blk_far (p := ⟨g2, 6, none⟩) (blk_far (p := ⟨g2, 5, none⟩) (blk_far (p := ⟨g2, 4, none⟩) (blk_far (p := ⟨g2, 3, none⟩) (blk_far (p := ⟨g2, 2, none⟩) (blk_far (p := ⟨g2, 1, none⟩) (blk_far (p := ⟨g2, 0, none⟩) BK.out NG.out (.bool v.f0)) NG.out (.bool v.f1)) NG.out (.int .u64 v.f2.f0)) NG.out (.int .u64 v.f2.f1)) NG.out (.int .u64 v.f3.f0.f0)) NG.out (.int .u64 v.f3.f0.f1)) NG.out (.int .u64 v.f3.f1.f0)) NG.out (.int .u64 v.f3.f1.f1)) NG.out (.int .i64 v.f4)))
   clear BK BS HB hHeld
   generalize (((((((((w2.setCell ⟨g2, 0, none⟩ (.bool v.f0)).setCell ⟨g2, 1, none⟩ (.bool v.f1)).setCell ⟨g2, 2, none⟩ (.int .u64 v.f2.f0)).setCell ⟨g2, 3, none⟩ (.int .u64 v.f2.f1)).setCell ⟨g2, 4, none⟩ (.int .u64 v.f3.f0.f0)).setCell ⟨g2, 5, none⟩ (.int .u64 v.f3.f0.f1)).setCell ⟨g2, 6, none⟩ (.int .u64 v.f3.f1.f0)).setCell ⟨g2, 7, none⟩ (.int .u64 v.f3.f1.f1)).setCell ⟨g2, 8, none⟩ (.int .i64 v.f4)) = w3 at n0_ n1_ n2_ ⊢
   have BS := n0_
   have HB := n1_
   have BK := n2_
   clear n0_ n1_ n2_
   refine hK.out _ _ ⟨(kc_ BK.out 0).trans rfl, (kc_ BK.out 1).trans rfl, (kc_ BK.out 2).trans rfl, (kc_ BK.out 3).trans rfl, (kc_ BK.out 4).trans rfl, (kc_ BK.out 5).trans rfl, (kc_ BK.out 6).trans rfl, (kc_ BK.out 7).trans rfl, (kc_ BK.out 8).trans rfl, (kc_ BK.out 9).trans rfl, (kc_ BK.out 10).trans rfl⟩ (fun hHeld => ?_)
   clear hK K
   refine pu_ HT_ 9 (some 3) #[true, true, true, true, true, true, true, true, true, true, false] ?_
   refine pu_ HT_ 10 (some 4) #[true, true, true, true, true, true, true, true, true, true, true] ?_
   refine done_ (done_of HT_.out (by kernel_rfl)) ?_
   go_wp2
   refine bodyPost_ret (results_ctt rfl _ _ g2 34 #[.bool v.f0, .bool v.f1, .int .u64 v.f2.f0, .int .u64 v.f2.f1, .int .u64 v.f3.f0.f0, .int .u64 v.f3.f0.f1, .int .u64 v.f3.f1.f0, .int .u64 v.f3.f1.f1, .int .i64 v.f4] (0, 0) _ rfl BS.out underlying34 rfl (by kernel_rfl)) rfl ?_
   exact ⟨rfl, HB.out⟩
  ·rw [if_neg ce]
   have cb : (e != 0) = true := by simpa using ce
   go_enter func48, ntmps48
   go_wp2_with (first | ((with_reducible refine gate_dst (N := 2) rfl ?_); refine bx_ 2 #[.bool false, .bool false, .int .u64 0, .int .u64 0, .int .u64 0, .int .u64 0, .int .u64 0, .int .u64 0, .int .i64 0] 34 ?_; intro g2 hgs w1 hbox hb; have GE := ak_ (show w.heap.size ≤ g2 by rw [hgs]; exact Nat.le_refl _); have n0_ := ak_ (kb_ BK.out hb); have n1_ := ak_ hb; have NG := ak_ (show g ≠ g2 by rw [hgs]; exact Nat.ne_of_lt (blk_lt BK.out)); have BS := ak_ hbox; clear BK HB hb hbox hgs; have BK := n0_; have HB := n1_; clear n0_ n1_; have hz10 : w1.cell? ⟨g, 10, none⟩ = some (.int .i64 e) := (kc_ BK.out 10).trans rfl))
   try go_wp2
   replace BK := ak_ (kd_ BK.out)
   replace BS := ak_ (kd_ BS.out)
   replace HB := ak_ (bd_ HB.out)
   refine start_ (n := 8) (S := fun w' => w'.cell? ⟨g, 0, none⟩ = some (.slice A l.length c) ∧ w'.cell? ⟨g, 1, none⟩ = some (.bool v.f0) ∧ w'.cell? ⟨g, 2, none⟩ = some (.bool v.f1) ∧ w'.cell? ⟨g, 3, none⟩ = some (.int .u64 v.f2.f0) ∧ w'.cell? ⟨g, 4, none⟩ = some (.int .u64 v.f2.f1) ∧ w'.cell? ⟨g, 5, none⟩ = some (.int .u64 v.f3.f0.f0) ∧ w'.cell? ⟨g, 6, none⟩ = some (.int .u64 v.f3.f0.f1) ∧ w'.cell? ⟨g, 7, none⟩ = some (.int .u64 v.f3.f1.f0) ∧ w'.cell? ⟨g, 8, none⟩ = some (.int .u64 v.f3.f1.f1) ∧ w'.cell? ⟨g, 9, none⟩ = some (.int .i64 v.f4) ∧ w'.cell? ⟨g, 10, none⟩ = some (.int .i64 e)) (ds := []) #[false, false, false, false, false, false, false, false] (by kernel_rfl) rfl rfl ⟨(kc_ BK.out 0).trans rfl, (kc_ BK.out 1).trans rfl, (kc_ BK.out 2).trans rfl, (kc_ BK.out 3).trans rfl, (kc_ BK.out 4).trans rfl, (kc_ BK.out 5).trans rfl, (kc_ BK.out 6).trans rfl, (kc_ BK.out 7).trans rfl, (kc_ BK.out 8).trans rfl, (kc_ BK.out 9).trans rfl, (kc_ BK.out 10).trans rfl⟩ (fun hHeld => ?_); refine with_tabW label_end.tab2 label_end.bits2 (fun HT_ HW_ => ?_)
   generalize w1.drew = w2 at BK BS HB hHeld ⊢
   refine pu_ HT_ 0 (some 10) #[true, false, false, false, false, false, false, false] ?_
   refine pu_ HT_ 1 (some 11) #[true, true, false, false, false, false, false, false] ?_
   refine pu_ HT_ 2 (some 12) #[true, true, true, false, false, false, false, false] ?_
   refine pu_ HT_ 3 (some 13) #[true, true, true, true, false, false, false, false] ?_
   refine tk_ HT_ HW_ hHeld 4 (some 14) #[true, true, true, true, true, false, false, false] rfl (by rintro w' ⟨s0, s1, s2, s3, s4, s5, s6, s7, s8, s9, s10⟩; go_simp; with_reducible rfl) ?_
   refine one_ (i := 5) (N := none) #[true, true, true, true, true, true, false, false] rfl rfl (one_of HT_.out (by kernel_rfl)) (by decide) (fun K hK => ?_)
   have hf0 := kf_ BS.out 0
   have hf1 := kf_ BS.out 1
   have hf2 := kf_ BS.out 2
   have hf3 := kf_ BS.out 3
   have hf4 := kf_ BS.out 4
   have hf5 := kf_ BS.out 5
   have hf6 := kf_ BS.out 6
   have hf7 := kf_ BS.out 7
   have hf8 := kf_ BS.out 8
   have hs0 : w2.cell? ⟨g2, 0, none⟩ = some (.bool false) := (kc_ BS.out 0).trans rfl
   have hs1 : w2.cell? ⟨g2, 1, none⟩ = some (.bool false) := (kc_ BS.out 1).trans rfl
   have hs2 : w2.cell? ⟨g2, 2, none⟩ = some (.int .u64 0) := (kc_ BS.out 2).trans rfl
   have hs3 : w2.cell? ⟨g2, 3, none⟩ = some (.int .u64 0) := (kc_ BS.out 3).trans rfl
   have hs4 : w2.cell? ⟨g2, 4, none⟩ = some (.int .u64 0) := (kc_ BS.out 4).trans rfl
   have hs5 : w2.cell? ⟨g2, 5, none⟩ = some (.int .u64 0) := (kc_ BS.out 5).trans rfl
   have hs6 : w2.cell? ⟨g2, 6, none⟩ = some (.int .u64 0) := (kc_ BS.out 6).trans rfl
   have hs7 : w2.cell? ⟨g2, 7, none⟩ = some (.int .u64 0) := (kc_ BS.out 7).trans rfl
   have hs8 : w2.cell? ⟨g2, 8, none⟩ = some (.int .i64 0) := (kc_ BS.out 8).trans rfl
   refine skip_ (w1 := ?_) (by rfl) rfl ?_ ?_
   rotate_left
   ·go_simp
    rfl
   clear hf0 hs0 hf1 hs1 hf2 hs2 hf3 hs3 hf4 hs4 hf5 hs5 hf6 hs6 hf7 hs7 hf8 hs8
   have n0_ : Aside0 ((((((((((w2.setCell ⟨g2, 0, none⟩ (.bool false)).setCell ⟨g2, 1, none⟩ (.bool false)).setCell ⟨g2, 2, none⟩ (.int .u64 0)).setCell ⟨g2, 3, none⟩ (.int .u64 0)).setCell ⟨g2, 4, none⟩ (.int .u64 0)).setCell ⟨g2, 5, none⟩ (.int .u64 0)).setCell ⟨g2, 6, none⟩ (.int .u64 0)).setCell ⟨g2, 7, none⟩ (.int .u64 0)).setCell ⟨g2, 8, none⟩ (.int .i64 0)).heap[g2]? = some (.cells #[.bool false, .bool false, .int .u64 0, .int .u64 0, .int .u64 0, .int .u64 0, .int .u64 0, .int .u64 0, .int .i64 0] 34 (0, 0))) := ⟨(blk_put (cs' := #[.bool false, .bool false, .int .u64 0, .int .u64 0, .int .u64 0, .int .u64 0, .int .u64 0, .int .u64 0, .int .i64 0]) (blk_put (cs' := #[.bool false, .bool false, .int .u64 0, .int .u64 0, .int .u64 0, .int .u64 0, .int .u64 0, .int .u64 0, .int .i64 0]) (blk_put (cs' := #[.bool false, .bool false, .int .u64 0, .int .u64 0, .int .u64 0, .int .u64 0, .int .u64 0, .int .u64 0, .int .i64 0]) (blk_put (cs' := #[.bool false, .bool false, .int .u64 0, .int .u64 0, .int .u64 0, .int .u64 0, .int .u64 0, .int .u64 0, .int .i64 0]) (blk_put (cs' := #[.bool false, .bool false, .int .u64 0, .int .u64 0, .int .u64 0, .int .u64 0, .int .u64 0, .int .u64 0, .int .i64 0]) (blk_put (cs' := #[.bool false, .bool false, .int .u64 0, .int .u64 0, .int .u64 0, .int .u64 0, .int .u64 0, .int .u64 0, .int .i64 0]) (blk_put (cs' := #[.bool false, .bool false, .int .u64 0, .int .u64 0, .int .u64 0, .int .u64 0, .int .u64 0, .int .u64 0, .int .i64 0]) (blk_put (cs' := #[.bool false, .bool false, .int .u64 0, .int .u64 0, .int .u64 0, .int .u64 0, .int .u64 0, .int .u64 0, .int .i64 0]) (blk_put (cs' := #[.bool false, .bool false, .int .u64 0, .int .u64 0, .int .u64 0, .int .u64 0, .int .u64 0, .int .u64 0, .int .i64 0]) BS.out 0 (.bool false) rfl) 1 (.bool false) rfl) 2 (.int .u64 0) rfl) 3 (.int .u64 0) rfl) 4 (.int .u64 0) rfl) 5 (.int .u64 0) rfl) 6 (.int .u64 0) rfl) 7 (.int .u64 0) rfl) 8 (.int .i64 0) rfl)⟩
   have n1_ : Aside0 (Below w.heap.size w (((((((((w2.setCell ⟨g2, 0, none⟩ (.bool false)).setCell ⟨g2, 1, none⟩ (.bool false)).setCell ⟨g2, 2, none⟩ (.int .u64 0)).setCell ⟨g2, 3, none⟩ (.int .u64 0)).setCell ⟨g2, 4, none⟩ (.int .u64 0)).setCell ⟨g2, 5, none⟩ (.int .u64 0)).setCell ⟨g2, 6, none⟩ (.int .u64 0)).setCell ⟨g2, 7, none⟩ (.int .u64 0)).setCell ⟨g2, 8, none⟩ (.int .i64 0))) := ⟨(below_set (below_set (below_set (below_set (below_set (below_set (below_set (below_set (below_set HB.out GE.out) GE.out) GE.out) GE.out) GE.out) GE.out) GE.out) GE.out) GE.out)⟩
   have n2_ := ak_ ((blk_far (p := ⟨g2, 8, none⟩) (blk_far (p := ⟨g2, 7, none⟩) (blk_far (p := ⟨g2, 6, none⟩) (blk_far (p := ⟨g2, 5, none⟩) (blk_far (p := ⟨g2, 4, none⟩) (blk_far (p := ⟨g2, 3, none⟩) (blk_far (p := ⟨g2, 2, none⟩) (blk_far (p := ⟨g2, 1, none⟩) (blk_far (p := ⟨g2, 0, none⟩) BK.out NG.out (.bool false)) NG.out (.bool false)) NG.out (.int .u64 0)) NG.out (.int .u64 0)) NG.out (.int .u64 0)) NG.out (.int .u64 0)) NG.out (.int .u64 0)) NG.out (.int .u64 0)) NG.out (.int .i64 0)))
   clear BK BS HB hHeld
   generalize (((((((((w2.setCell ⟨g2, 0, none⟩ (.bool false)).setCell ⟨g2, 1, none⟩ (.bool false)).setCell ⟨g2, 2, none⟩ (.int .u64 0)).setCell ⟨g2, 3, none⟩ (.int .u64 0)).setCell ⟨g2, 4, none⟩ (.int .u64 0)).setCell ⟨g2, 5, none⟩ (.int .u64 0)).setCell ⟨g2, 6, none⟩ (.int .u64 0)).setCell ⟨g2, 7, none⟩ (.int .u64 0)).setCell ⟨g2, 8, none⟩ (.int .i64 0)) = w3 at n0_ n1_ n2_ ⊢
   have BS := n0_
   have HB := n1_
   have BK := n2_
   clear n0_ n1_ n2_
   refine hK.out _ _ ⟨(kc_ BK.out 0).trans rfl, (kc_ BK.out 1).trans rfl, (kc_ BK.out 2).trans rfl, (kc_ BK.out 3).trans rfl, (kc_ BK.out 4).trans rfl, (kc_ BK.out 5).trans rfl, (kc_ BK.out 6).trans rfl, (kc_ BK.out 7).trans rfl, (kc_ BK.out 8).trans rfl, (kc_ BK.out 9).trans rfl, (kc_ BK.out 10).trans rfl⟩ (fun hHeld => ?_)
   clear hK K
   refine pu_ HT_ 6 (some 3) #[true, true, true, true, true, true, true, false] ?_
   refine pu_ HT_ 7 (some 4) #[true, true, true, true, true, true, true, true] ?_
   refine done_ (done_of HT_.out (by kernel_rfl)) ?_
   go_wp2
   refine bodyPost_ret (results_ctt rfl _ _ g2 34 #[.bool false, .bool false, .int .u64 0, .int .u64 0, .int .u64 0, .int .u64 0, .int .u64 0, .int .u64 0, .int .i64 0] (0, 0) _ rfl BS.out underlying34 rfl (by kernel_rfl)) rfl ?_
   exact ⟨rfl, HB.out⟩
def label_Walk.g (k : Nat) (l : List S45) (v : S34) : Option (S34 × List S45 × Int) := (label_start.f k l v).bind fun e => if e = 0 then some (v, l, 0) else some (z34, [], 1)
set_option maxHeartbeats 8000000 in
set_option maxRecDepth 100000 in
theorem lb_index (A : Option Addr) (c : Nat) (u : Value) (w : World) : Calls Try.prog 77 #[.slice A 0 c, u] w fun e w' => e = .returned (.int .i64 (-1)) ∧ Below w.heap.size w w' := by
  go_enter func77, ntmps77
  go_wp2
  go_loopg [8] 1 (fun kq v8 w' => v8 = .int .i64 0 ∧ Aside0 (kq ≤ 1) ∧ Aside0 (Below w.heap.size w w'))
  case atStart => exact ⟨rfl, ⟨Nat.le_refl _⟩, ⟨by repeat (first | exact Below.refl _ _ | apply ba_ | apply bn_ | apply bd_)⟩⟩
  case round =>
   obtain ⟨rfl, HK1, HB⟩ := hrel
   go_wp2
   go_ret
   exact ⟨rfl, HB.out⟩
set_option maxHeartbeats 8000000 in
set_option maxRecDepth 100000 in
theorem lb_contains (A : Option Addr) (c : Nat) (u : Value) (w : World) : Calls Try.prog 46 #[.slice A 0 c, u] w fun e w' => e = .returned (.bool false) ∧ Below w.heap.size w w' := by
  have HB := ak_ (Below.refl w.heap.size w)
  go_enter func46, ntmps46
  go_wp2_with (first | (go_at_call 77; with_reducible refine (lb_index _ _ _ _).mono ?_; rintro e w1 ⟨rfl, hb⟩; have m_ := ak_ (bt_ HB.out hb); clear HB; have HB := m_; clear m_ hb))
  go_ret
  exact ⟨rfl, HB.out⟩
set_option maxHeartbeats 8000000 in
set_option maxRecDepth 100000 in
theorem label_Walk.go (k : Nat) (l l' : List S45) (v v' : S34) (e' : Int) (A A2 : Option Addr) (c c2 : Nat) (w : World) (hr : Kd.C k45 w A l.length l) (hc : l.length ≤ c) (hh : label_Walk.g k l v = some (v', l', e')) :
   Calls Try.prog 20 #[.slice A l.length c, .agg #[.bool v.f0, .bool v.f1, .int .u64 v.f2.f0, .int .u64 v.f2.f1, .int .u64 v.f3.f0.f0, .int .u64 v.f3.f0.f1, .int .u64 v.f3.f1.f0, .int .u64 v.f3.f1.f1, .int .i64 v.f4], .slice A2 0 c2] w fun r w' => ∃ vl, r = .returned (.tuple #[.agg #[.bool v'.f0, .bool v'.f1, .int .u64 v'.f2.f0, .int .u64 v'.f2.f1, .int .u64 v'.f3.f0.f0, .int .u64 v'.f3.f0.f1, .int .u64 v'.f3.f1.f0, .int .u64 v'.f3.f1.f1, .int .i64 v'.f4], vl, .int .i64 e']) ∧ Kd.R k45 45 w' w.heap.size (fun _ => True) vl l' ∧ Below w.heap.size w w' := by
  have hu_v := underlying34
  have HC := ak_ hr
  have HL := ak_ hc
  have HB := ak_ (Below.refl w.heap.size w)
  clear hr hc
  unfold label_Walk.g at hh
  obtain ⟨e0, h0, h3⟩ := bind_eq_some_iff.mp hh
  have H0 := ak_ h0
  clear hh h0
  by_cases ce : e0 = 0
  ·subst ce
   rw [if_pos rfl] at h3
   obtain ⟨rfl, rfl, rfl⟩ : v = v' ∧ l = l' ∧ 0 = e' := by simpa using h3
   clear h3
   go_enter func20, ntmps20
   go_wp2_with (first | ((with_reducible refine gate_dst (N := 4) rfl ?_); refine bx_ 4 #[.bool v.f0, .bool v.f1, .int .u64 v.f2.f0, .int .u64 v.f2.f1, .int .u64 v.f3.f0.f0, .int .u64 v.f3.f0.f1, .int .u64 v.f3.f1.f0, .int .u64 v.f3.f1.f1, .int .i64 v.f4] 34 ?_; intro g1 hgs w1 hbox hb; have GEg1 := ak_ (show w.heap.size ≤ g1 by rw [hgs]; exact bz_ HB.out); replace HB := ak_ (bt_ HB.out hb); clear hb hgs; have Bg1 := ak_ hbox; clear hbox) | ((with_reducible refine gate_dst (N := 6) rfl ?_); refine bx_ 6 #[.bool false, .bool false, .int .u64 0, .int .u64 0, .int .u64 0, .int .u64 0, .int .u64 0, .int .u64 0, .int .i64 0] 34 ?_; intro g3 hgs w3 hbox hb; have GEg3 := ak_ (show w.heap.size ≤ g3 by rw [hgs]; exact bz_ HB.out); replace HB := ak_ (bt_ HB.out hb); replace Bg1 := ak_ (kb_ Bg1.out hb); clear hb hgs; have Bg3 := ak_ hbox; clear hbox; have hv0 : w3.cell? ⟨g1, 0, none⟩ = some (.bool v.f0) := (kc_ Bg1.out 0).trans rfl; have hv1 : w3.cell? ⟨g1, 1, none⟩ = some (.bool v.f1) := (kc_ Bg1.out 1).trans rfl; have hv2 : w3.cell? ⟨g1, 2, none⟩ = some (.int .u64 v.f2.f0) := (kc_ Bg1.out 2).trans rfl; have hv3 : w3.cell? ⟨g1, 3, none⟩ = some (.int .u64 v.f2.f1) := (kc_ Bg1.out 3).trans rfl; have hv4 : w3.cell? ⟨g1, 4, none⟩ = some (.int .u64 v.f3.f0.f0) := (kc_ Bg1.out 4).trans rfl; have hv5 : w3.cell? ⟨g1, 5, none⟩ = some (.int .u64 v.f3.f0.f1) := (kc_ Bg1.out 5).trans rfl; have hv6 : w3.cell? ⟨g1, 6, none⟩ = some (.int .u64 v.f3.f1.f0) := (kc_ Bg1.out 6).trans rfl; have hv7 : w3.cell? ⟨g1, 7, none⟩ = some (.int .u64 v.f3.f1.f1) := (kc_ Bg1.out 7).trans rfl; have hv8 : w3.cell? ⟨g1, 8, none⟩ = some (.int .i64 v.f4) := (kc_ Bg1.out 8).trans rfl; clear Bg1 GEg1) | (go_at_call 44; refine (label_start.calls k l v _ A c _ (Kd.C_below HC.out HB.out) HL.out H0.out).mono ?_; rintro r w4 ⟨g, rfl, hw, hb⟩; obtain ⟨B, hB_⟩ : ∃ B, B = w3.heap.size := ⟨_, rfl⟩; rw [← hB_] at hw; have GB := ak_ (show w.heap.size ≤ B by rw [hB_]; exact bz_ HB.out); have Lg3 := ak_ (show g3 < B by rw [hB_]; exact blk_lt Bg3.out); have Ng3 := ak_ (show g3 ≠ g from Nat.ne_of_lt (Nat.lt_of_lt_of_le Lg3.out hw.1)); have GG := ak_ (Nat.le_trans GB.out hw.1); replace HB := ak_ (bt_ HB.out hb); replace Bg3 := ak_ (kb_ Bg3.out hb); clear hb hB_; have BW := ak_ hw; clear hw; clear hv0 hv1 hv2 hv3 hv4 hv5 hv6 hv7 hv8; obtain ⟨_, A_, c_, hbk_, _⟩ := BW.out; have hz10 := (kc_ hbk_ 10).trans (show _ = some (Value.int .i64 _) from rfl); clear hbk_) | (go_at_call 46; with_reducible refine (lb_contains _ _ _ _).mono ?_; rintro e w5 ⟨rfl, hb⟩; replace HB := ak_ (bt_ HB.out hb); replace Bg3 := ak_ (kb_ Bg3.out hb); replace BW := ak_ (BW.out.below hb); clear hb))
   go_loopg [34] 1 (fun kq v34 w' => v34 = .int .i64 0 ∧ Aside0 (kq ≤ 1) ∧ Aside0 (Below w.heap.size w w') ∧ Aside0 (w'.heap[g3]? = some (.cells #[.bool false, .bool false, .int .u64 0, .int .u64 0, .int .u64 0, .int .u64 0, .int .u64 0, .int .u64 0, .int .i64 0] 34 (0, 0))) ∧ Aside0 (Wk B w' g l v 0))
   case atStart => exact ⟨rfl, ⟨Nat.le_refl _⟩, HB, Bg3, BW⟩
   case round =>
    clear HB Bg3 BW hz10
    obtain ⟨rfl, HK1, HB, Bg3, BW⟩ := hrel
    go_wp2_with (first | (go_at_call 48; obtain ⟨_, A7, c7, hbk_, hR_⟩ := BW.out; refine (label_end.calls v 0 l A7 c7 g _ hbk_).mono ?_; rintro r w8 ⟨er_, hb⟩; rw [if_pos rfl] at er_; subst er_; replace HB := ak_ (bt_ HB.out hb); replace Bg3 := ak_ (kb_ Bg3.out hb); have HR7 := ak_ (Kd.R_below hR_ hb); clear hb hbk_ hR_ BW; have hy0 : w8.cell? ⟨g3, 0, none⟩ = some (.bool false) := (kc_ Bg3.out 0).trans rfl; have hy1 : w8.cell? ⟨g3, 1, none⟩ = some (.bool false) := (kc_ Bg3.out 1).trans rfl; have hy2 : w8.cell? ⟨g3, 2, none⟩ = some (.int .u64 0) := (kc_ Bg3.out 2).trans rfl; have hy3 : w8.cell? ⟨g3, 3, none⟩ = some (.int .u64 0) := (kc_ Bg3.out 3).trans rfl; have hy4 : w8.cell? ⟨g3, 4, none⟩ = some (.int .u64 0) := (kc_ Bg3.out 4).trans rfl; have hy5 : w8.cell? ⟨g3, 5, none⟩ = some (.int .u64 0) := (kc_ Bg3.out 5).trans rfl; have hy6 : w8.cell? ⟨g3, 6, none⟩ = some (.int .u64 0) := (kc_ Bg3.out 6).trans rfl; have hy7 : w8.cell? ⟨g3, 7, none⟩ = some (.int .u64 0) := (kc_ Bg3.out 7).trans rfl; have hy8 : w8.cell? ⟨g3, 8, none⟩ = some (.int .i64 0) := (kc_ Bg3.out 8).trans rfl; have hf0 := kf_ Bg3.out 0; have hf1 := kf_ Bg3.out 1; have hf2 := kf_ Bg3.out 2; have hf3 := kf_ Bg3.out 3; have hf4 := kf_ Bg3.out 4; have hf5 := kf_ Bg3.out 5; have hf6 := kf_ Bg3.out 6; have hf7 := kf_ Bg3.out 7; have hf8 := kf_ Bg3.out 8))
    refine bodyPost_ret (results_ctt rfl _ _ g3 34 #[.bool v.f0, .bool v.f1, .int .u64 v.f2.f0, .int .u64 v.f2.f1, .int .u64 v.f3.f0.f0, .int .u64 v.f3.f0.f1, .int .u64 v.f3.f1.f0, .int .u64 v.f3.f1.f1, .int .i64 v.f4] (0, 0) _ rfl (lb_put9 (.bool v.f0) (.bool v.f1) (.int .u64 v.f2.f0) (.int .u64 v.f2.f1) (.int .u64 v.f3.f0.f0) (.int .u64 v.f3.f0.f1) (.int .u64 v.f3.f1.f0) (.int .u64 v.f3.f1.f1) (.int .i64 v.f4) Bg3.out) underlying34 rfl (by kernel_rfl)) rfl ?_
    exact ⟨_, rfl, lb_fin HR7.out Lg3.out (lb_but9 _ _ (.bool v.f0) (.bool v.f1) (.int .u64 v.f2.f0) (.int .u64 v.f2.f1) (.int .u64 v.f3.f0.f0) (.int .u64 v.f3.f0.f1) (.int .u64 v.f3.f1.f0) (.int .u64 v.f3.f1.f1) (.int .i64 v.f4)) GB.out, HB.out.trans ((lb_but9 _ _ (.bool v.f0) (.bool v.f1) (.int .u64 v.f2.f0) (.int .u64 v.f2.f1) (.int .u64 v.f3.f0.f0) (.int .u64 v.f3.f0.f1) (.int .u64 v.f3.f1.f0) (.int .u64 v.f3.f1.f1) (.int .i64 v.f4)).below GEg3.out (bz_ HB.out))⟩
  ·rw [if_neg ce] at h3
   have cb : (e0 != 0) = true := by simpa using ce
   obtain ⟨rfl, rfl, rfl⟩ : z34 = v' ∧ [] = l' ∧ 1 = e' := by simpa using h3
   clear h3
   go_enter func20, ntmps20
   go_wp2_with (first | ((with_reducible refine gate_dst (N := 4) rfl ?_); refine bx_ 4 #[.bool v.f0, .bool v.f1, .int .u64 v.f2.f0, .int .u64 v.f2.f1, .int .u64 v.f3.f0.f0, .int .u64 v.f3.f0.f1, .int .u64 v.f3.f1.f0, .int .u64 v.f3.f1.f1, .int .i64 v.f4] 34 ?_; intro g1 hgs w1 hbox hb; have GEg1 := ak_ (show w.heap.size ≤ g1 by rw [hgs]; exact bz_ HB.out); replace HB := ak_ (bt_ HB.out hb); clear hb hgs; have Bg1 := ak_ hbox; clear hbox) | ((with_reducible refine gate_dst (N := 6) rfl ?_); refine bx_ 6 #[.bool false, .bool false, .int .u64 0, .int .u64 0, .int .u64 0, .int .u64 0, .int .u64 0, .int .u64 0, .int .i64 0] 34 ?_; intro g3 hgs w3 hbox hb; have GEg3 := ak_ (show w.heap.size ≤ g3 by rw [hgs]; exact bz_ HB.out); replace HB := ak_ (bt_ HB.out hb); replace Bg1 := ak_ (kb_ Bg1.out hb); clear hb hgs; have Bg3 := ak_ hbox; clear hbox; have hv0 : w3.cell? ⟨g1, 0, none⟩ = some (.bool v.f0) := (kc_ Bg1.out 0).trans rfl; have hv1 : w3.cell? ⟨g1, 1, none⟩ = some (.bool v.f1) := (kc_ Bg1.out 1).trans rfl; have hv2 : w3.cell? ⟨g1, 2, none⟩ = some (.int .u64 v.f2.f0) := (kc_ Bg1.out 2).trans rfl; have hv3 : w3.cell? ⟨g1, 3, none⟩ = some (.int .u64 v.f2.f1) := (kc_ Bg1.out 3).trans rfl; have hv4 : w3.cell? ⟨g1, 4, none⟩ = some (.int .u64 v.f3.f0.f0) := (kc_ Bg1.out 4).trans rfl; have hv5 : w3.cell? ⟨g1, 5, none⟩ = some (.int .u64 v.f3.f0.f1) := (kc_ Bg1.out 5).trans rfl; have hv6 : w3.cell? ⟨g1, 6, none⟩ = some (.int .u64 v.f3.f1.f0) := (kc_ Bg1.out 6).trans rfl; have hv7 : w3.cell? ⟨g1, 7, none⟩ = some (.int .u64 v.f3.f1.f1) := (kc_ Bg1.out 7).trans rfl; have hv8 : w3.cell? ⟨g1, 8, none⟩ = some (.int .i64 v.f4) := (kc_ Bg1.out 8).trans rfl; clear Bg1 GEg1) | (go_at_call 44; refine (label_start.calls k l v _ A c _ (Kd.C_below HC.out HB.out) HL.out H0.out).mono ?_; rintro r w4 ⟨g, rfl, hw, hb⟩; obtain ⟨B, hB_⟩ : ∃ B, B = w3.heap.size := ⟨_, rfl⟩; rw [← hB_] at hw; have GB := ak_ (show w.heap.size ≤ B by rw [hB_]; exact bz_ HB.out); have Lg3 := ak_ (show g3 < B by rw [hB_]; exact blk_lt Bg3.out); have Ng3 := ak_ (show g3 ≠ g from Nat.ne_of_lt (Nat.lt_of_lt_of_le Lg3.out hw.1)); have GG := ak_ (Nat.le_trans GB.out hw.1); replace HB := ak_ (bt_ HB.out hb); replace Bg3 := ak_ (kb_ Bg3.out hb); clear hb hB_; have BW := ak_ hw; clear hw; clear hv0 hv1 hv2 hv3 hv4 hv5 hv6 hv7 hv8; obtain ⟨_, A_, c_, hbk_, _⟩ := BW.out; have hz10 := (kc_ hbk_ 10).trans (show _ = some (Value.int .i64 _) from rfl); clear hbk_; have hq0 : w4.cell? ⟨g3, 0, none⟩ = some (.bool false) := (kc_ Bg3.out 0).trans rfl; have hq1 : w4.cell? ⟨g3, 1, none⟩ = some (.bool false) := (kc_ Bg3.out 1).trans rfl; have hq2 : w4.cell? ⟨g3, 2, none⟩ = some (.int .u64 0) := (kc_ Bg3.out 2).trans rfl; have hq3 : w4.cell? ⟨g3, 3, none⟩ = some (.int .u64 0) := (kc_ Bg3.out 3).trans rfl; have hq4 : w4.cell? ⟨g3, 4, none⟩ = some (.int .u64 0) := (kc_ Bg3.out 4).trans rfl; have hq5 : w4.cell? ⟨g3, 5, none⟩ = some (.int .u64 0) := (kc_ Bg3.out 5).trans rfl; have hq6 : w4.cell? ⟨g3, 6, none⟩ = some (.int .u64 0) := (kc_ Bg3.out 6).trans rfl; have hq7 : w4.cell? ⟨g3, 7, none⟩ = some (.int .u64 0) := (kc_ Bg3.out 7).trans rfl; have hq8 : w4.cell? ⟨g3, 8, none⟩ = some (.int .i64 0) := (kc_ Bg3.out 8).trans rfl; have hf0 := kf_ Bg3.out 0; have hf1 := kf_ Bg3.out 1; have hf2 := kf_ Bg3.out 2; have hf3 := kf_ Bg3.out 3; have hf4 := kf_ Bg3.out 4; have hf5 := kf_ Bg3.out 5; have hf6 := kf_ Bg3.out 6; have hf7 := kf_ Bg3.out 7; have hf8 := kf_ Bg3.out 8))
   refine bodyPost_ret (results_ctt rfl _ _ g3 34 #[.bool false, .bool false, .int .u64 0, .int .u64 0, .int .u64 0, .int .u64 0, .int .u64 0, .int .u64 0, .int .i64 0] (0, 0) _ rfl (lb_put9 (.bool false) (.bool false) (.int .u64 0) (.int .u64 0) (.int .u64 0) (.int .u64 0) (.int .u64 0) (.int .u64 0) (.int .i64 0) Bg3.out) underlying34 rfl (by kernel_rfl)) rfl ?_
   exact ⟨_, rfl, Kd.R_nil _ _ _ _ _, HB.out.trans ((lb_but9 _ _ (.bool false) (.bool false) (.int .u64 0) (.int .u64 0) (.int .u64 0) (.int .u64 0) (.int .u64 0) (.int .u64 0) (.int .i64 0)).below GEg3.out (bz_ HB.out))⟩
def label_Walk.f (k : Nat) (l0 : List S45) (a1_0 : Bool) (a1_1 : Bool) (a1_2 : Int) (a1_3 : Int) (a1_4 : Int) (a1_5 : Int) (a1_6 : Int) (a1_7 : Int) (a1_8 : Int) (l2 : List Int) : Option (Bool × Bool × Int × Int × Int × Int × Int × Int × Int × (List S45) × Int) := (if l2 = [] then (label_Walk.g k l0 (⟨a1_0, a1_1, ⟨a1_2, a1_3⟩, ⟨⟨a1_4, a1_5⟩, ⟨a1_6, a1_7⟩⟩, a1_8⟩ : S34)) else none).bind fun r => some (r.1.f0, r.1.f1, r.1.f2.f0, r.1.f2.f1, r.1.f3.f0.f0, r.1.f3.f0.f1, r.1.f3.f1.f0, r.1.f3.f1.f1, r.1.f4, r.2.1, r.2.2)
theorem label_Walk.mono : ∀ l0 a1_0 a1_1 a1_2 a1_3 a1_4 a1_5 a1_6 a1_7 a1_8 l2 k, LeO (label_Walk.f k l0 a1_0 a1_1 a1_2 a1_3 a1_4 a1_5 a1_6 a1_7 a1_8 l2) (label_Walk.f (k + 1) l0 a1_0 a1_1 a1_2 a1_3 a1_4 a1_5 a1_6 a1_7 a1_8 l2) := by
  intro l0 a1_0 a1_1 a1_2 a1_3 a1_4 a1_5 a1_6 a1_7 a1_8 l2 k
  unfold label_Walk.f label_Walk.g
  repeat' first | (with_reducible first | exact label_start.mono .. | exact LeO.refl _ | exact LeO.none _ | refine LeO.ite ?_ ?_ | refine LeO.bind ?_ (fun _ => ?_))
theorem label_Walk.calls (k : Nat) (A0 : Option Addr) (c0 : Nat) (l0 : List S45) (a1_0 : Bool) (a1_1 : Bool) (a1_2 : Int) (a1_3 : Int) (a1_4 : Int) (a1_5 : Int) (a1_6 : Int) (a1_7 : Int) (a1_8 : Int) (A2 : Option Addr) (c2 : Nat) (l2 : List Int) (r1 r2 : Bool) (r3 r4 r5 r6 r7 r8 r9 : Int) (r10 : List S45) (r11 : Int) (w : World) (hr0 : Kd.C k45 w A0 l0.length l0) (hc0 : l0.length ≤ c0) (hr2 : Kd.C (Kd.int .i64) w A2 l2.length l2) (hc2 : l2.length ≤ c2) (h : label_Walk.f k l0 a1_0 a1_1 a1_2 a1_3 a1_4 a1_5 a1_6 a1_7 a1_8 l2 = some (r1, r2, r3, r4, r5, r6, r7, r8, r9, r10, r11)) :
   Calls Try.prog 20 #[.slice A0 l0.length c0, .agg #[.bool a1_0, .bool a1_1, .int .u64 a1_2, .int .u64 a1_3, .int .u64 a1_4, .int .u64 a1_5, .int .u64 a1_6, .int .u64 a1_7, .int .i64 a1_8], .slice A2 l2.length c2] w fun e w' => ∃ v9_ : Value, e = .returned (.tuple #[.agg #[.bool r1, .bool r2, .int .u64 r3, .int .u64 r4, .int .u64 r5, .int .u64 r6, .int .u64 r7, .int .u64 r8, .int .i64 r9], v9_, .int .i64 r11]) ∧ Kd.R k45 45 w' w.heap.size (fun _ => True) v9_ r10 ∧ Below w.heap.size w w' := by
  obtain ⟨⟨x, y, z⟩, hg, he⟩ := bind_eq_some_iff.mp h
  by_cases c2 : l2 = []
  case neg => rw [if_neg c2] at hg; cases hg
  rw [if_pos c2] at hg
  subst c2
  simp only [some.injEq, Prod.mk.injEq] at he
  obtain ⟨rfl, rfl, rfl, rfl, rfl, rfl, rfl, rfl, rfl, rfl, rfl⟩ := he
  exact label_Walk.go k l0 y (⟨a1_0, a1_1, ⟨a1_2, a1_3⟩, ⟨⟨a1_4, a1_5⟩, ⟨a1_6, a1_7⟩⟩, a1_8⟩ : S34) x z A0 A2 c0 c2 w hr0 hc0 hg
def layer_check.f (k : Nat) (a0 : Int) (a1 : Int) : Option (Int) := if a1 < 1 then (some 1) else (if a1 > 3 then (some 1) else ((node_Check.f k a0 1).bind fun t241 => (some t241)))
theorem layer_check.mono : ∀ a0 a1 k, LeO (layer_check.f k a0 a1) (layer_check.f (k + 1) a0 a1) := by
  intro a0 a1 k
  unfold layer_check.f
  repeat' first | (with_reducible first | exact node_Check.mono .. | exact LeO.refl _ | exact LeO.none _ | refine LeO.ite ?_ ?_ | refine LeO.bind ?_ (fun _ => ?_)) | exact node_Check.mono .. | refine LeO.ite ?_ ?_ | refine LeO.bind ?_ (fun _ => ?_)
set_option maxHeartbeats 8000000 in
set_option maxRecDepth 100000 in
theorem layer_check.calls (k : Nat) (a0 : Int) (a1 : Int) (r : Int) (w : World) (h : layer_check.f k a0 a1 = some r) :
   Calls Try.prog 79 #[.int .i64 a0, .int .i64 a1] w fun e w' => e = .returned (.int .i64 r) ∧ Drawn0 w w' := by
  have H : (if a1 < 1 then (some 1) else (if a1 > 3 then (some 1) else ((node_Check.f k a0 1).bind fun t241 => (some t241)))) = some r := h
  clear h
  by_cases c3 : a1 < 1
  ·rw [if_pos c3] at H
   have c3b0 := decide_eq_true c3
   clear c3
   obtain rfl := Option.some.inj H
   go_enter func79, ntmps79
   go_wp2
   go_ret
   exact ⟨by first | rfl | (simp; done) | (simp [*]; done), by repeat (first | exact Drawn0.refl _ | apply Drawn0.step)⟩
  ·rw [if_neg c3] at H
   have c3b0 := decide_eq_false c3
   clear c3
   by_cases c4 : a1 > 3
   ·rw [if_pos c4] at H
    have c4b0 : decide (3 < a1) = true := decide_eq_true c4
    clear c4
    obtain rfl := Option.some.inj H
    go_enter func79, ntmps79
    go_wp2
    go_ret
    exact ⟨by first | rfl | (simp; done) | (simp [*]; done), by repeat (first | exact Drawn0.refl _ | apply Drawn0.step)⟩
   ·rw [if_neg c4] at H
    have c4b0 : decide (3 < a1) = false := decide_eq_false c4
    clear c4
    replace H := bind_eq_some_iff.mp H
    obtain ⟨t241, A50, H⟩ := H
    replace H : (some t241) = some r := H
    have A5 := ak_ A50
    clear A50
    obtain rfl := Option.some.inj H
    go_enter func79, ntmps79
    go_wp2_with (first | ((with_reducible refine gate_callee (f := 72) rfl ?_); refine gl_ (some 12) func72 #[.int .i64 a0, .int .u64 1] ?_; (with_reducible refine (node_Check.calls k a0 1 t241 _ A5.out).mono ?_); rintro e w' ⟨rfl, ⟨nd, rfl⟩⟩; refine ⟨_, rfl, ?_⟩))
    go_ret
    exact ⟨by first | rfl | (simp; done) | (simp [*]; done), by repeat (first | exact Drawn0.refl _ | apply Drawn0.step)⟩
def layer_May.j0 : Nat → Int → Int → Bool → Int → Int → Option (Bool × Int)
  | 0, _, _, _, _, _ => none
  | k + 1, x0, x1, x17, x243000, x243001 => if x17 = true then (some (false, 1)) else (if x1 = 1 then (some ((x243001 == 0), 0)) else (if x1 = 2 then (if x243001 = 0 then (some ((x243000 == 1), 0)) else (some (true, 0))) else ((sub_Useful.f k x0 x243000 x243001).bind fun bt245 => (some (bt245.1, bt245.2)))))
def layer_May.f (k : Nat) (a0 : Int) (a1 : Int) (a2_0 : Int) (a2_1 : Int) : Option (Bool × Int) := (layer_check.f k a0 a1).bind fun t243 => (if t243 = 0 then ((sub_Check.f k a0 a2_0 a2_1).bind fun t244 => (layer_May.j0 k a0 a1 (t244 != 0) a2_0 a2_1)) else (layer_May.j0 k a0 a1 true a2_0 a2_1))
theorem layer_May.mono_l : ∀ k, (∀ y0 y1 y2 y3 y4, LeO (layer_May.j0 k y0 y1 y2 y3 y4) (layer_May.j0 (k + 1) y0 y1 y2 y3 y4))
  | 0 => fun _ _ _ _ _ r h => by simp [layer_May.j0] at h
  | k + 1 => by
   have ih0 := layer_May.mono_l k
   ·intro y0 y1 y2 y3 y4
    unfold layer_May.j0
    repeat' first | (with_reducible first | exact ih0 .. | exact layer_check.mono .. | exact sub_Check.mono .. | exact sub_Useful.mono .. | exact LeO.refl _ | exact LeO.none _ | refine LeO.ite ?_ ?_ | refine LeO.bind ?_ (fun _ => ?_)) | exact ih0 .. | exact layer_check.mono .. | exact sub_Check.mono .. | exact sub_Useful.mono .. | refine LeO.ite ?_ ?_ | refine LeO.bind ?_ (fun _ => ?_)
theorem layer_May.mono : ∀ a0 a1 a2 a3 k, LeO (layer_May.f k a0 a1 a2 a3) (layer_May.f (k + 1) a0 a1 a2 a3) := by
  intro a0 a1 a2 a3 k
  have ih0 := layer_May.mono_l k
  unfold layer_May.f
  repeat' first | (with_reducible first | exact ih0 .. | exact layer_check.mono .. | exact sub_Check.mono .. | exact sub_Useful.mono .. | exact LeO.refl _ | exact LeO.none _ | refine LeO.ite ?_ ?_ | refine LeO.bind ?_ (fun _ => ?_)) | exact ih0 .. | exact layer_check.mono .. | exact sub_Check.mono .. | exact sub_Useful.mono .. | refine LeO.ite ?_ ?_ | refine LeO.bind ?_ (fun _ => ?_)
set_option maxHeartbeats 8000000 in
set_option maxRecDepth 100000 in
theorem layer_May.calls (k : Nat) (a0 : Int) (a1 : Int) (a2_0 : Int) (a2_1 : Int) (r1 : Bool) (r2 : Int) (w : World) (h : layer_May.f k a0 a1 a2_0 a2_1 = some (r1, r2)) :
   Calls Try.prog 49 #[.int .i64 a0, .int .i64 a1, .agg #[.int .u64 a2_0, .int .u64 a2_1]] w fun e w' => e = .returned (.tuple #[.bool r1, .int .i64 r2]) ∧ Below w.heap.size w w' := by
  have hu48 := underlying48
  have HB := ak_ (Below.refl w.heap.size w)
  have H : ((layer_check.f k a0 a1).bind fun t243 => (if t243 = 0 then ((sub_Check.f k a0 a2_0 a2_1).bind fun t244 => (layer_May.j0 k a0 a1 (t244 != 0) a2_0 a2_1)) else (layer_May.j0 k a0 a1 true a2_0 a2_1))) = some (r1, r2) := h
  clear h
  have HC4 := ak_ H
  clear H
  go_enter func49, ntmps49
  go_upto_region 1 with (first | ((with_reducible refine gate_dst (N := 5) rfl ?_); refine bx_ 5 #[.int .u64 a2_0, .int .u64 a2_1] 48 ?_; intro gb242 hg w5 hbox hb; have BK242 := ak_ hbox; have GW242 := ak_ (gs_ hg HB); have GE242 := ak_ (gs_ hg HB); replace HB := ak_ (bt_ (bl_ HB) hb); clear hb hbox hg))
  (try simp only [Act.put, setIfInBounds_toArray, set_cons_zero, set_cons_succ])
  go_cut [17] (fun v17 wc => ∃ (kq : Nat) (x17_3 : Bool), v17 = .bool x17_3 ∧ Aside0 (layer_May.j0 kq a0 a1 x17_3 a2_0 a2_1 = some (r1, r2)) ∧ Aside0 (kq ≤ k) ∧ Aside0 (wc.heap[gb242]? = some (.cells #[.int .u64 a2_0, .int .u64 a2_1] 48 (0, 0))) ∧ Aside0 (Below w.heap.size w wc))
  case first =>
   have H := HC4.out
   clear HC4
   replace H := bind_eq_some_iff.mp H
   obtain ⟨t243, A60, H⟩ := H
   replace H : (if t243 = 0 then ((sub_Check.f k a0 a2_0 a2_1).bind fun t244 => (layer_May.j0 k a0 a1 (t244 != 0) a2_0 a2_1)) else (layer_May.j0 k a0 a1 true a2_0 a2_1)) = some (r1, r2) := H
   have A6 := ak_ A60
   clear A60
   by_cases c7 : t243 = 0
   ·rw [if_pos c7] at H
    have c7b0 : (t243 == 0) = true := beq_iff_eq.mpr c7
    have c7b1 : (t243 != 0) = false := bne_eq_false_iff_eq.mpr c7
    clear c7
    (first | rw [c7b0] | (simp only [i64_w, i32_w]; rw [c7b0]) | skip)
    replace H := bind_eq_some_iff.mp H
    obtain ⟨t244, A80, H⟩ := H
    replace H : (layer_May.j0 k a0 a1 (t244 != 0) a2_0 a2_1) = some (r1, r2) := H
    have A8 := ak_ A80
    clear A80
    have H' := ak_ H
    clear H
    go_wp2_with (first | ((with_reducible refine gate_callee (f := 79) rfl ?_); refine gl_ (some 10) func79 #[.int .i64 a0, .int .i64 a1] ?_; (with_reducible refine (layer_check.calls k a0 a1 t243 _ A6.out).mono ?_); rintro e w' ⟨rfl, ⟨nd, rfl⟩⟩; refine ⟨_, rfl, ?_⟩; obtain ⟨hcz9_0, hcz9_1, hfz9_0, hfz9_1⟩ := kc2_ BK242.out) | (go_at_call 51; (with_reducible refine (sub_Check.calls k a0 a2_0 a2_1 t244 _ A8.out).mono ?_); rintro e w10 ⟨rfl, hb⟩; replace BK242 := ak_ (kb_ (kl_ BK242) hb); replace HB := ak_ (bt_ (bw1_ HB GE242) hb); (try clear hb); (try clear hk)))
    go_meet
    case rel => exact ⟨_, ((t244 != 0)), rf_, H', ⟨by first | omega | exact Nat.le_refl _⟩, ⟨kl_ BK242⟩, ⟨bw1_ HB GE242⟩⟩
   ·rw [if_neg c7] at H
    have c7b0 : (t243 == 0) = false := beq_eq_false_iff_ne.mpr c7
    have c7b1 : (t243 != 0) = true := bne_iff_ne.mpr c7
    (first | rw [c7b0] | (simp only [i64_w, i32_w]; rw [c7b0]) | skip)
    have H' := ak_ H
    clear H
    go_wp2_with (first | ((with_reducible refine gate_callee (f := 79) rfl ?_); refine gl_ (some 10) func79 #[.int .i64 a0, .int .i64 a1] ?_; (with_reducible refine (layer_check.calls k a0 a1 t243 _ A6.out).mono ?_); rintro e w' ⟨rfl, ⟨nd, rfl⟩⟩; refine ⟨_, rfl, ?_⟩))
    go_meet
    case rel => exact ⟨_, (true), rf_, H', ⟨by first | omega | exact Nat.le_refl _⟩, ⟨kl_ BK242⟩, ⟨bw1_ HB GE242⟩⟩
  case rest =>
   clear HC4
   try clear p2
   try clear c4
   try clear c7
   try clear c7b0
   try clear c7b1
   try clear hcz9_0 hcz9_1
   try clear hfz9_0 hfz9_1
   obtain ⟨kq, x17_3, rfl, HA, HJ3, BK242, HB⟩ := hcut
   cases kq with
   | zero => exact absurd HA.out (by simp [layer_May.j0])
   | succ kj3 =>
    have H := HA.out
    clear HA
    simp only [layer_May.j0] at H
    by_cases c11 : x17_3 = true
    ·subst c11
     have H1 : (some (false, 1)) = some (r1, r2) := by rw [if_pos rfl] at H; exact H
     clear H
     have H := H1
     clear H1
     simp only [some.injEq, Prod.mk.injEq] at H
     obtain ⟨rfl, rfl⟩ := H
     go_wp2
     go_ret2
     exact ea_ (bw1_ HB GE242)
    ·replace c11 := Bool.eq_false_iff.mpr c11
     subst c11
     have H1 : (if a1 = 1 then (some ((a2_1 == 0), 0)) else (if a1 = 2 then (if a2_1 = 0 then (some ((a2_0 == 1), 0)) else (some (true, 0))) else ((sub_Useful.f kj3 a0 a2_0 a2_1).bind fun bt245 => (some (bt245.1, bt245.2))))) = some (r1, r2) := by rw [if_neg (show ¬ (false = true) by decide)] at H; exact H
     clear H
     have H := H1
     clear H1
     by_cases c12 : a1 = 1
     ·rw [if_pos c12] at H
      have c12b0 : (a1 == 1) = true := beq_iff_eq.mpr c12
      have c12b1 : (a1 != 1) = false := bne_eq_false_iff_eq.mpr c12
      clear c12
      simp only [some.injEq, Prod.mk.injEq] at H
      obtain ⟨rfl, rfl⟩ := H
      obtain ⟨hcz13_0, hcz13_1, hfz13_0, hfz13_1⟩ := kc2_ BK242.out
      go_wp2
      go_wp2
      go_ret2
      exact ea_ (bw1_ HB GE242)
     ·rw [if_neg c12] at H
      have c12b0 : (a1 == 1) = false := beq_eq_false_iff_ne.mpr c12
      have c12b1 : (a1 != 1) = true := bne_iff_ne.mpr c12
      by_cases c14 : a1 = 2
      ·rw [if_pos c14] at H
       have c14b0 : (a1 == 2) = true := beq_iff_eq.mpr c14
       have c14b1 : (a1 != 2) = false := bne_eq_false_iff_eq.mpr c14
       clear c14
       by_cases c15 : a2_1 = 0
       ·rw [if_pos c15] at H
        have c15b0 : (a2_1 == 0) = true := beq_iff_eq.mpr c15
        have c15b1 : (a2_1 != 0) = false := bne_eq_false_iff_eq.mpr c15
        clear c15
        simp only [some.injEq, Prod.mk.injEq] at H
        obtain ⟨rfl, rfl⟩ := H
        obtain ⟨hcz16_0, hcz16_1, hfz16_0, hfz16_1⟩ := kc2_ BK242.out
        go_wp2
        go_wp2
        go_ret2
        exact ea_ (bw1_ HB GE242)
       ·rw [if_neg c15] at H
        have c15b0 : (a2_1 == 0) = false := beq_eq_false_iff_ne.mpr c15
        have c15b1 : (a2_1 != 0) = true := bne_iff_ne.mpr c15
        simp only [some.injEq, Prod.mk.injEq] at H
        obtain ⟨rfl, rfl⟩ := H
        obtain ⟨hcz17_0, hcz17_1, hfz17_0, hfz17_1⟩ := kc2_ BK242.out
        go_wp2
        go_wp2
        go_ret2
        exact ea_ (bw1_ HB GE242)
      ·rw [if_neg c14] at H
       have c14b0 : (a1 == 2) = false := beq_eq_false_iff_ne.mpr c14
       have c14b1 : (a1 != 2) = true := bne_iff_ne.mpr c14
       replace H := bind_eq_some_iff.mp H
       obtain ⟨⟨t245, t246⟩, A180, H⟩ := H
       replace H : (some (t245, t246)) = some (r1, r2) := H
       have A18 := ak_ A180
       clear A180
       simp only [some.injEq, Prod.mk.injEq] at H
       obtain ⟨rfl, rfl⟩ := H
       obtain ⟨hcz19_0, hcz19_1, hfz19_0, hfz19_1⟩ := kc2_ BK242.out
       go_wp2_with (first | ((with_reducible refine gate_callee (f := 43) rfl ?_); refine gl_ (some 36) func43 #[.int .i64 a0, .agg #[.int .u64 a2_0, .int .u64 a2_1]] ?_; (with_reducible refine (sub_Useful.calls kj3 a0 a2_0 a2_1 t245 t246 _ A18.out).mono ?_); rintro e w20 ⟨rfl, hb⟩; refine ⟨_, rfl, ?_⟩; replace BK242 := ak_ (kb_ (kl_ BK242) hb); replace HB := ak_ (bt_ (bw1_ HB GE242) hb); (try clear hb); (try clear hk)))
       go_wp2_with (first | ((with_reducible refine gate_callee (f := 43) rfl ?_); refine gl_ (some 36) func43 #[.int .i64 a0, .agg #[.int .u64 a2_0, .int .u64 a2_1]] ?_; (with_reducible refine (sub_Useful.calls kj3 a0 a2_0 a2_1 t245 t246 _ A18.out).mono ?_); rintro e w20 ⟨rfl, hb⟩; refine ⟨_, rfl, ?_⟩; replace BK242 := ak_ (kb_ (kl_ BK242) hb); replace HB := ak_ (bt_ (bw1_ HB GE242) hb); (try clear hb); (try clear hk)))
       go_ret2
       exact ea_ (bw1_ HB GE242)
def node_Path.l0 : Nat → Int → Int → List Int → Int → Int → Option (List Int × Int)
  | 0, _, _, _, _, _ => none
  | k + 1, x2, x8, x9, x29, x30 => if x30 < x29 then (if 0 ≤ x30 then (if 0 ≤ (wrap64 ((wrap64 (x8 - 1)) - x30)) then (if (wrap64 ((wrap64 (x8 - 1)) - x30)) < (x9.length : Int) then (node_Path.l0 k x2 x8 (x9.set ((wrap64 ((wrap64 (x8 - 1)) - x30)) : Int).toNat (wrap64 (Go.bits .and .u64 (shr .u64 x2 x30) 1))) x29 (wrap64 (x30 + 1))) else (none)) else (none)) else (none)) else (some (x9, 0))
def node_Path.f (k : Nat) (a0 : Int) (a1 : Int) (a2 : Int) : Option (List Int × Int) := (node_both.f k a0 a1 a2).bind fun t247 => (if t247 = 0 then ((node_above.f k a1 a2).bind fun t248 => (if t248 = true then ((node_depth.f k a2).bind fun t249 => ((node_depth.f k a1).bind fun t250 => (if 0 ≤ (wrap64 (t249 - t250)) then (if (wrap64 (t249 - t250) : Int).toNat ≤ 35184372088832 then (node_Path.l0 k a2 (wrap64 (t249 - t250)) (List.replicate (wrap64 (t249 - t250) : Int).toNat 0) (wrap64 (t249 - t250)) 0) else (none)) else (none)))) else (some (([] : List Int), 4)))) else (some (([] : List Int), 1)))
theorem node_Path.mono_l : ∀ k, (∀ y0 y1 y2 y3 y4, LeO (node_Path.l0 k y0 y1 y2 y3 y4) (node_Path.l0 (k + 1) y0 y1 y2 y3 y4))
  | 0 => fun _ _ _ _ _ r h => by simp [node_Path.l0] at h
  | k + 1 => by
   have ih0 := node_Path.mono_l k
   ·intro y0 y1 y2 y3 y4
    unfold node_Path.l0
    repeat' first | (with_reducible first | exact ih0 .. | exact node_above.mono .. | exact node_both.mono .. | exact node_depth.mono .. | exact LeO.refl _ | exact LeO.none _ | refine LeO.ite ?_ ?_ | refine LeO.bind ?_ (fun _ => ?_)) | exact ih0 .. | exact node_above.mono .. | exact node_both.mono .. | exact node_depth.mono .. | refine LeO.ite ?_ ?_ | refine LeO.bind ?_ (fun _ => ?_)
theorem node_Path.mono : ∀ a0 a1 a2 k, LeO (node_Path.f k a0 a1 a2) (node_Path.f (k + 1) a0 a1 a2) := by
  intro a0 a1 a2 k
  have ih0 := node_Path.mono_l k
  unfold node_Path.f
  repeat' first | (with_reducible first | exact ih0 .. | exact node_above.mono .. | exact node_both.mono .. | exact node_depth.mono .. | exact LeO.refl _ | exact LeO.none _ | refine LeO.ite ?_ ?_ | refine LeO.bind ?_ (fun _ => ?_)) | exact ih0 .. | exact node_above.mono .. | exact node_both.mono .. | exact node_depth.mono .. | refine LeO.ite ?_ ?_ | refine LeO.bind ?_ (fun _ => ?_)
set_option maxHeartbeats 8000000 in
set_option maxRecDepth 100000 in
theorem node_Path.calls (k : Nat) (a0 : Int) (a1 : Int) (a2 : Int) (r1 : List Int) (r2 : Int) (w : World) (h : node_Path.f k a0 a1 a2 = some (r1, r2)) :
   Calls Try.prog 100 #[.int .i64 a0, .int .u64 a1, .int .u64 a2] w fun e w' => ∃ v0_ : Value, e = .returned (.tuple #[v0_, .int .i64 r2]) ∧ Kd.R (Kd.int .i64) 3 w' w.heap.size (fun _ => True) v0_ r1 ∧ Below w.heap.size w w' := by
  have HB := ak_ (Below.refl w.heap.size w)
  have H : ((node_both.f k a0 a1 a2).bind fun t247 => (if t247 = 0 then ((node_above.f k a1 a2).bind fun t248 => (if t248 = true then ((node_depth.f k a2).bind fun t249 => ((node_depth.f k a1).bind fun t250 => (if 0 ≤ (wrap64 (t249 - t250)) then (if (wrap64 (t249 - t250) : Int).toNat ≤ 35184372088832 then (node_Path.l0 k a2 (wrap64 (t249 - t250)) (List.replicate (wrap64 (t249 - t250) : Int).toNat 0) (wrap64 (t249 - t250)) 0) else (none)) else (none)))) else (some (([] : List Int), 4)))) else (some (([] : List Int), 1)))) = some (r1, r2) := h
  clear h
  replace H := bind_eq_some_iff.mp H
  obtain ⟨t247, A40, H⟩ := H
  replace H : (if t247 = 0 then ((node_above.f k a1 a2).bind fun t248 => (if t248 = true then ((node_depth.f k a2).bind fun t249 => ((node_depth.f k a1).bind fun t250 => (if 0 ≤ (wrap64 (t249 - t250)) then (if (wrap64 (t249 - t250) : Int).toNat ≤ 35184372088832 then (node_Path.l0 k a2 (wrap64 (t249 - t250)) (List.replicate (wrap64 (t249 - t250) : Int).toNat 0) (wrap64 (t249 - t250)) 0) else (none)) else (none)))) else (some (([] : List Int), 4)))) else (some (([] : List Int), 1))) = some (r1, r2) := H
  have A4 := ak_ A40
  clear A40
  by_cases c5 : t247 = 0
  ·rw [if_pos c5] at H
   have c5b0 : (t247 == 0) = true := beq_iff_eq.mpr c5
   have c5b1 : (t247 != 0) = false := bne_eq_false_iff_eq.mpr c5
   clear c5
   replace H := bind_eq_some_iff.mp H
   obtain ⟨t248, A60, H⟩ := H
   replace H : (if t248 = true then ((node_depth.f k a2).bind fun t249 => ((node_depth.f k a1).bind fun t250 => (if 0 ≤ (wrap64 (t249 - t250)) then (if (wrap64 (t249 - t250) : Int).toNat ≤ 35184372088832 then (node_Path.l0 k a2 (wrap64 (t249 - t250)) (List.replicate (wrap64 (t249 - t250) : Int).toNat 0) (wrap64 (t249 - t250)) 0) else (none)) else (none)))) else (some (([] : List Int), 4))) = some (r1, r2) := H
   have A6 := ak_ A60
   clear A60
   by_cases c7 : t248 = true
   ·subst c7
    have H1 : ((node_depth.f k a2).bind fun t249 => ((node_depth.f k a1).bind fun t250 => (if 0 ≤ (wrap64 (t249 - t250)) then (if (wrap64 (t249 - t250) : Int).toNat ≤ 35184372088832 then (node_Path.l0 k a2 (wrap64 (t249 - t250)) (List.replicate (wrap64 (t249 - t250) : Int).toNat 0) (wrap64 (t249 - t250)) 0) else (none)) else (none)))) = some (r1, r2) := by rw [if_pos rfl] at H; exact H
    clear H
    have H := H1
    clear H1
    replace H := bind_eq_some_iff.mp H
    obtain ⟨t249, A80, H⟩ := H
    replace H : ((node_depth.f k a1).bind fun t250 => (if 0 ≤ (wrap64 (t249 - t250)) then (if (wrap64 (t249 - t250) : Int).toNat ≤ 35184372088832 then (node_Path.l0 k a2 (wrap64 (t249 - t250)) (List.replicate (wrap64 (t249 - t250) : Int).toNat 0) (wrap64 (t249 - t250)) 0) else (none)) else (none))) = some (r1, r2) := H
    have A8 := ak_ A80
    clear A80
    replace H := bind_eq_some_iff.mp H
    obtain ⟨t250, A90, H⟩ := H
    replace H : (if 0 ≤ (wrap64 (t249 - t250)) then (if (wrap64 (t249 - t250) : Int).toNat ≤ 35184372088832 then (node_Path.l0 k a2 (wrap64 (t249 - t250)) (List.replicate (wrap64 (t249 - t250) : Int).toNat 0) (wrap64 (t249 - t250)) 0) else (none)) else (none)) = some (r1, r2) := H
    have A9 := ak_ A90
    clear A90
    obtain ⟨ji10, hji10⟩ : ∃ j_ : Int, (wrap64 (t249 - t250)) = j_ := ⟨_, rfl⟩
    replace H : (if 0 ≤ (ji10) then (if (ji10 : Int).toNat ≤ 35184372088832 then (node_Path.l0 k a2 ji10 (List.replicate (ji10 : Int).toNat 0) ji10 0) else (none)) else (none)) = some (r1, r2) := by first | (rw [hji10] at H; exact H) | (simp only [hji10] at H ⊢; exact H)
    (try rw [hji10] at A4)
    (try rw [hji10] at A6)
    (try rw [hji10] at A8)
    (try rw [hji10] at A9)
    have hji10w : (IntKind.i64.wrap (t249 - t250)) = ji10 := (i64_w _).trans hji10
    by_cases c11 : 0 ≤ (ji10)
    ·rw [if_pos c11] at H
     have c11b0 := eq_true c11
     have c11b1 := decide_eq_true c11
     clear c11
     by_cases c12 : (ji10 : Int).toNat ≤ 35184372088832
     ·rw [if_pos c12] at H
      have c12b0 := eq_true c12
      have c12b1 := decide_eq_true c12
      clear c12
      obtain ⟨y251, hy251⟩ : ∃ y_ : List Int, y_ = (List.replicate (ji10 : Int).toNat 0) := ⟨_, rfl⟩
      replace H : (node_Path.l0 k a2 ji10 y251 ji10 0) = some (r1, r2) := by first | (rw [hy251]; with_reducible exact H) | (have H2_ := (Option.bind_some _ _).symm.trans H; rw [hy251]; with_reducible exact H2_) | (have H2_ := (Option.bind_some _ _).symm.trans H; with_reducible exact H2_) | with_reducible exact H | (rw [hy251]; exact H) | exact H
      have Ny251 := ak_ hy251
      clear hy251
      have H' := ak_ H
      clear H
      go_enter func100, ntmps100
      go_wp2_with (first | ((with_reducible refine gate_callee (f := 101) rfl ?_); refine gl_ (some 15) func101 #[.int .i64 a0, .int .u64 a1, .int .u64 a2] ?_; (with_reducible refine (node_both.calls k a0 a1 a2 t247 _ A4.out).mono ?_); rintro e w' ⟨rfl, ⟨nd, rfl⟩⟩; refine ⟨_, rfl, ?_⟩) | ((with_reducible refine gate_callee (f := 102) rfl ?_); refine gl_ (some 20) func102 #[.int .u64 a1, .int .u64 a2] ?_; (with_reducible refine (node_above.calls k a1 a2 true _ A6.out).mono ?_); rintro e w' ⟨rfl, ⟨nd, rfl⟩⟩; refine ⟨_, rfl, ?_⟩) | ((with_reducible refine gate_callee (f := 95) rfl ?_); refine gl_ (some 23) func95 #[.int .u64 a2] ?_; (with_reducible refine (node_depth.calls k a2 t249 _ A8.out).mono ?_); rintro e w' ⟨rfl, ⟨nd, rfl⟩⟩; refine ⟨_, rfl, ?_⟩) | ((with_reducible refine gate_callee (f := 95) rfl ?_); refine gl_ (some 25) func95 #[.int .u64 a1] ?_; (with_reducible refine (node_depth.calls k a1 t250 _ A9.out).mono ?_); rintro e w' ⟨rfl, ⟨nd, rfl⟩⟩; refine ⟨_, rfl, ?_⟩) | ((with_reducible refine gate_dst (N := 28) rfl ?_); refine Kd.R_make (Kd.int .i64) _ 3 rfl (N := 28) rfl 83 _ _ rfl ji10 rfl rfl underlying83 (.int .i64 0) 8 info3 rfl (by decide) (by omega) 0 (ok := fun _ => True) (okp := fun _ => True) rfl (fun _ hk => hk) trivial (od_ (by first | (with_reducible assumption) | assumption)) (Nat.le_trans (Nat.mul_le_mul_right _ (od_ (by first | (with_reducible assumption) | assumption) : ji10.toNat ≤ 35184372088832)) (by omega)) (Below.refl _ _) (Nat.le_refl _) ?_; intro v252 w13 ho14 hb hg_ hnew_; clear hg_ hnew_; (first | rw [← Ny251.out] at ho14 | (simp only [Int.reduceToNat] at ho14; rw [← Ny251.out] at ho14)); have HO253 := ak_ (Kd.R_lower ho14 (bz_ (bl_ HB))); replace HB := ak_ (bt_ (bl_ HB) hb); clear hb ho14))
      go_loopg [30] k (fun kq v30 w' => ∃ (x9_1 : List Int) (x30_1 : Int), v30 = .int .i64 x30_1 ∧ Aside0 (node_Path.l0 kq a2 ji10 x9_1 ji10 x30_1 = some (r1, r2)) ∧ Aside0 (kq ≤ k) ∧ Aside0 (Kd.R (Kd.int .i64) 3 w' w.heap.size (fun _ => True) v252 x9_1) ∧ Aside0 (Below w.heap.size w w'))
      case atStart => exact ⟨(y251), (0), rf_, H', ⟨Nat.le_refl _⟩, ⟨rl_ HO253⟩, ⟨bl_ HB⟩⟩
      case round =>
       clear H'
       try clear c1
       try clear p2
       try clear c5
       try clear c5b0
       try clear c5b1
       try clear p6
       try clear c7
       try clear c9
       try clear c10
       try clear c11
       try clear c11b0
       try clear c11b1
       try clear c12
       try clear c12b0
       try clear c12b1
       obtain ⟨x9_1, x30_1, rfl, HA, HK1, HO_9, HB⟩ := hrel
       cases gk with
       | zero => exact absurd HA.out (by simp [node_Path.l0])
       | succ k1 =>
        have H := HA.out
        clear HA
        simp only [node_Path.l0] at H
        by_cases c15 : x30_1 < ji10
        ·rw [if_pos c15] at H
         have c15b0 := decide_eq_true c15
         clear c15
         by_cases c16 : 0 ≤ x30_1
         ·rw [if_pos c16] at H
          have c16b0 := eq_true c16
          have c16b1 := decide_eq_true c16
          clear c16
          obtain ⟨ji17, hji17⟩ : ∃ j_ : Int, (shr .u64 a2 x30_1) = j_ := ⟨_, rfl⟩
          replace H : (if 0 ≤ (wrap64 ((wrap64 (ji10 - 1)) - x30_1)) then (if (wrap64 ((wrap64 (ji10 - 1)) - x30_1)) < (x9_1.length : Int) then (node_Path.l0 k1 a2 ji10 (x9_1.set ((wrap64 ((wrap64 (ji10 - 1)) - x30_1)) : Int).toNat (wrap64 (Go.bits .and .u64 (ji17) 1))) ji10 (wrap64 (x30_1 + 1))) else (none)) else (none)) = some (r1, r2) := by first | (rw [hji17] at H; exact H) | (simp only [hji17] at H ⊢; exact H)
          have hji17_ : (a2 / 2 ^ min x30_1.toNat 64) = ji17 := hji17
          have hji17z : x30_1 ≤ 64 → (a2 / 2 ^ x30_1.toNat) = ji17 := shr_small hji17
          obtain ⟨ji18, hji18⟩ : ∃ j_ : Int, (wrap64 ((wrap64 (ji10 - 1)) - x30_1)) = j_ := ⟨_, rfl⟩
          replace H : (if 0 ≤ (ji18) then (if (ji18) < (x9_1.length : Int) then (node_Path.l0 k1 a2 ji10 (x9_1.set ((ji18) : Int).toNat (wrap64 (Go.bits .and .u64 (ji17) 1))) ji10 (wrap64 (x30_1 + 1))) else (none)) else (none)) = some (r1, r2) := by first | (rw [hji18] at H; exact H) | (simp only [hji18] at H ⊢; exact H)
          have hji18w : (IntKind.i64.wrap ((wrap64 (ji10 - 1)) - x30_1)) = ji18 := (i64_w _).trans hji18
          by_cases c19 : 0 ≤ (ji18)
          ·rw [if_pos c19] at H
           have c19b0 := decide_eq_true c19
           clear c19
           by_cases c20 : (ji18) < (x9_1.length : Int)
           ·rw [if_pos c20] at H
            have c20b0 := decide_eq_true c20
            clear c20
            obtain ⟨y254, hy254⟩ : ∃ y_ : List Int, y_ = (x9_1.set ((ji18) : Int).toNat (wrap64 (Go.bits .and .u64 (ji17) 1))) := ⟨_, rfl⟩
            replace H : (node_Path.l0 k1 a2 ji10 y254 ji10 (wrap64 (x30_1 + 1))) = some (r1, r2) := by first | (rw [hy254]; with_reducible exact H) | (have H2_ := (Option.bind_some _ _).symm.trans H; rw [hy254]; with_reducible exact H2_) | (have H2_ := (Option.bind_some _ _).symm.trans H; with_reducible exact H2_) | with_reducible exact H | (rw [hy254]; exact H) | exact H
            have Ny254 := ak_ hy254
            clear hy254
            have H' := ak_ H
            clear H
            have p21 : 0 ≤ ((ji18) : Int) := od_ (by first | (with_reducible assumption) | assumption)
            have q21 : ((ji18) : Int) < ((x9_1.length : Int) : Int) := od_ (by first | (with_reducible assumption) | assumption)
            obtain ⟨go21, co21, eo21, gb21, gl21, cl21, HG21⟩ := Kd.R_form HO_9.out (by omega)
            (first | cases eo21 | (injection eo21 with ea_ en_ ec_; (first | subst ea_ | (injection ea_ with ea_; subst ea_)); subst ec_; clear en_))
            have GB21 := ak_ gb21
            have GG21 := ak_ HG21
            clear gb21 gl21 HG21
            obtain ⟨hx21_0, hf21_0⟩ := Kd.R_celln 0 HO_9.out ((ji18) : Int) p21 q21
            replace p21 := eq_true p21
            replace q21 := eq_true q21
            have HP22 := Kd.R_putg HO_9.out ((ji18) : Int) (wrap64 (Go.bits .and .u64 (ji17) 1))
            go_wp2_with (first | ((with_reducible refine gate_store (t := 3) (p := 43) rfl ?_); refine store_event (t := 3) (p := 43) (v := ?vo_w23) (w1 := (wr.setCell ⟨go21, ((ji18) : Int).toNat, none⟩ (.int .i64 (wrap64 (Go.bits .and .u64 (ji17) 1))))) ?hg ?ho ?hn ?hr ?_; (case ho => rfl); (case hg => rfl); (case hn => rfl); (case hr => first | (go_simp; done) | (go_simp; rfl)); intro w23 hw; have hg : wr.grownBy w23 (some go21) := (by rw [hw]; exact HP22.2); have hp_ : Kd.R (Kd.int .i64) 3 w23 w.heap.size (fun _ => True) (.slice (some ⟨go21, 0, none⟩) x9_1.length co21) y254 := (by rw [hw, Ny254.out]; exact HP22.1); clear HP22; replace HO_9 := ak_ hp_; replace HB := ak_ (by rw [hw]; exact below_set (HB.out) GB21.out : Below w.heap.size w w23); clear hg hw hp_))
            go_roundg k1
            case measure => have := HK1.out; omega
            case rel => exact ⟨(y254), (wrap64 (x30_1 + 1)), rf_, H', ⟨by have := HK1.out; omega⟩, ⟨rl_ HO_9⟩, ⟨bl_ HB⟩⟩
           ·rw [if_neg c20] at H
            exact absurd H (by simp)
          ·rw [if_neg c19] at H
           exact absurd H (by simp)
         ·rw [if_neg c16] at H
          exact absurd H (by simp)
        ·rw [if_neg c15] at H
         have c15b0 := decide_eq_false c15
         clear c15
         simp only [some.injEq, Prod.mk.injEq] at H
         obtain ⟨rfl, rfl⟩ := H
         go_wp2
         go_ret2
         exact ⟨_, by first | rfl | (simp <;> rfl) | (simp only [← hji10]; first | rfl | (simp <;> rfl)) | (simp [*] <;> rfl), by (with_reducible repeat (first | apply Kd.R_alloc | apply Kd.R_drewN | apply Kd.R_drew)); exact HO_9.out, bl_ HB⟩
     ·rw [if_neg c12] at H
      exact absurd H (by simp)
    ·rw [if_neg c11] at H
     exact absurd H (by simp)
   ·replace c7 := Bool.eq_false_iff.mpr c7
    subst c7
    have H1 : (some (([] : List Int), 4)) = some (r1, r2) := by rw [if_neg (show ¬ (false = true) by decide)] at H; exact H
    clear H
    have H := H1
    clear H1
    simp only [some.injEq, Prod.mk.injEq] at H
    obtain ⟨rfl, rfl⟩ := H
    go_enter func100, ntmps100
    go_wp2_with (first | ((with_reducible refine gate_callee (f := 101) rfl ?_); refine gl_ (some 15) func101 #[.int .i64 a0, .int .u64 a1, .int .u64 a2] ?_; (with_reducible refine (node_both.calls k a0 a1 a2 t247 _ A4.out).mono ?_); rintro e w' ⟨rfl, ⟨nd, rfl⟩⟩; refine ⟨_, rfl, ?_⟩) | ((with_reducible refine gate_callee (f := 102) rfl ?_); refine gl_ (some 20) func102 #[.int .u64 a1, .int .u64 a2] ?_; (with_reducible refine (node_above.calls k a1 a2 false _ A6.out).mono ?_); rintro e w' ⟨rfl, ⟨nd, rfl⟩⟩; refine ⟨_, rfl, ?_⟩))
    go_ret2
    exact ⟨_, by first | rfl | (simp <;> rfl) | (simp [*] <;> rfl), by first | exact Kd.R_nil _ _ _ _ _ | exact Kd.N_nil _ _ _ _ _ | exact Kd.V_nil _ _ _ _ _ | exact Kd.Q_nil _ _ _ _ _ | exact Kd.S_nil _ _ _ _ _, bl_ HB⟩
  ·rw [if_neg c5] at H
   have c5b0 : (t247 == 0) = false := beq_eq_false_iff_ne.mpr c5
   have c5b1 : (t247 != 0) = true := bne_iff_ne.mpr c5
   simp only [some.injEq, Prod.mk.injEq] at H
   obtain ⟨rfl, rfl⟩ := H
   go_enter func100, ntmps100
   go_wp2_with (first | ((with_reducible refine gate_callee (f := 101) rfl ?_); refine gl_ (some 15) func101 #[.int .i64 a0, .int .u64 a1, .int .u64 a2] ?_; (with_reducible refine (node_both.calls k a0 a1 a2 t247 _ A4.out).mono ?_); rintro e w' ⟨rfl, ⟨nd, rfl⟩⟩; refine ⟨_, rfl, ?_⟩))
   go_ret2
   exact ⟨_, by first | rfl | (simp <;> rfl) | (simp [*] <;> rfl), by first | exact Kd.R_nil _ _ _ _ _ | exact Kd.N_nil _ _ _ _ _ | exact Kd.V_nil _ _ _ _ _ | exact Kd.Q_nil _ _ _ _ _ | exact Kd.S_nil _ _ _ _ _, bl_ HB⟩
def label_path.l0 : Nat → List S45 → S34 → Int → List Int → Int → Option (List S45 × S34 × Int)
  | 0, _, _, _, _, _ => none
  | k + 1, l, v, e, s, j => if j < (s.length : Int) then (if 0 ≤ j then ((label_part.f k l v e (rd s j)).bind fun r => label_path.l0 k r.1 r.2.1 r.2.2 s (wrap64 (j + 1))) else none) else some (l, v, e)
def label_path.f (k : Nat) (l : List S45) (v : S34) (e : Int) (h a b : Int) : Option (List S45 × S34 × Int) := (node_Path.f k h a b).bind fun r => label_path.l0 k l v (if e = 0 then r.2 else e) r.1 0
theorem label_path.mono_l (k : Nat) : ∀ l v e s j, LeO (label_path.l0 k l v e s j) (label_path.l0 (k + 1) l v e s j) := by
  induction k with
  | zero => intro l v e s j; exact LeO.none _
  | succ k ih => intro l v e s j; unfold label_path.l0; repeat' first | (with_reducible first | exact ih .. | exact label_part.mono .. | exact LeO.refl _ | exact LeO.none _ | refine LeO.ite ?_ ?_ | refine LeO.bind ?_ (fun _ => ?_))
theorem label_path.mono : ∀ l v e h a b k, LeO (label_path.f k l v e h a b) (label_path.f (k + 1) l v e h a b) := by
  intro l v e h a b k
  unfold label_path.f
  repeat' first | (with_reducible first | exact node_Path.mono .. | exact label_path.mono_l .. | exact LeO.refl _ | exact LeO.none _ | refine LeO.ite ?_ ?_ | refine LeO.bind ?_ (fun _ => ?_))
set_option maxHeartbeats 8000000 in
set_option maxRecDepth 100000 in
theorem label_path.calls (k : Nat) (l l' : List S45) (v v' : S34) (e e' h a b : Int) (B g : Nat) (w : World) (hw : Wk B w g l v e) (hh : label_path.f k l v e h a b = some (l', v', e')) :
   Calls Try.prog 80 #[.pointer (some ⟨g, 0, none⟩), .int .i64 h, .int .u64 a, .int .u64 b] w fun r w' => ∃ u, r = .returned u ∧ Wk B w' g l' v' e' ∧ LbBut g w w' := by
  obtain ⟨hB, A, c, hg, hr⟩ := hw
  have GB := ak_ hB
  have GL := ak_ (blk_lt hg)
  have BK := ak_ hg
  have HC := ak_ hr
  clear hB hg hr
  unfold label_path.f at hh
  obtain ⟨⟨sd, pe⟩, hp, hl⟩ := bind_eq_some_iff.mp hh
  dsimp only at hl
  have HP := ak_ hp
  have HLL := ak_ hl
  clear hh hp hl
  by_cases ce : e = 0
  ·subst ce
   rw [if_pos rfl] at HLL
   go_enter func80, ntmps80
   go_wp2_with (first | (go_at_call 100; refine (node_Path.calls k h a b sd pe _ HP.out).mono ?_; rintro r w1 ⟨vs, rfl, ho, hb⟩; obtain ⟨As, cs, es⟩ := Kd.R_slice ho; subst es; have HS := ak_ (Kd.R_mono (ok' := fun k => k ≠ g) (Kd.R_bound ho) (fun k hk => by have := hk.2.1; have := GL.out; omega)); have n0_ := ak_ (kb_ BK.out hb); have n1_ := ak_ (Kd.R_below HC.out hb); have HB := ak_ (LbBut.of (g := g) hb); clear BK HC ho hb; have BK := n0_; have HC := n1_; clear n0_ n1_; have hc10 : w1.cell? ⟨g, 10, none⟩ = some (.int .i64 0) := (kc_ BK.out 10).trans rfl; have hf10 := kf_ BK.out 10))
   go_loopg [30] k (fun kq v30 w' => ∃ (j q : Int) (m : List S45) (x : S34), v30 = .int .i64 j ∧ Aside0 (label_path.l0 kq m x q sd j = some (l', v', e')) ∧ Aside0 (kq ≤ k) ∧ Aside0 (Wk B w' g m x q) ∧ Aside0 (LbBut g w w') ∧ Aside0 (Kd.R (Kd.int .i64) 3 w' w.heap.size (fun k => k ≠ g) (.slice As sd.length cs) sd))
   case atStart => exact ⟨0, pe, l, v, rfl, HLL, ⟨Nat.le_refl _⟩, ⟨⟨GB.out, A, c, blk_put BK.out 10 _ rfl, Kd.R_far HC.out (p := ⟨g, 10, none⟩) (fun _ hk => hk) _⟩⟩, ⟨HB.out.trans (LbBut.set _ _ _ _)⟩, ⟨Kd.R_far HS.out (p := ⟨g, 10, none⟩) (fun _ hk => hk) _⟩⟩
   case round =>
    clear BK HB HS HC HLL hc10 hf10
    obtain ⟨j, q, m, x, rfl, HA, HK, BK, HB, HS⟩ := hrel
    cases gk with
    | zero => exact absurd HA.out (by simp [label_path.l0])
    | succ k1 =>
     have H := HA.out
     clear HA
     simp only [label_path.l0] at H
     by_cases c1_ : j < (sd.length : Int)
     ·rw [if_pos c1_] at H
      by_cases c0_ : 0 ≤ j
      ·rw [if_pos c0_] at H
       obtain ⟨⟨m', x', q'⟩, hpt, H⟩ := bind_eq_some_iff.mp H
       dsimp only at H
       have HPT := ak_ hpt
       have H' := ak_ H
       clear hpt H
       obtain ⟨ad, e_, hx⟩ := Kd.at_int (Kd.R_reads' HS.out).2.2 j c0_ c1_
       subst e_
       have c1b : decide (j < (sd.length : Int)) = true := decide_eq_true c1_
       have c0b := eq_true c0_
       have c1c := eq_true c1_
       clear c0_ c1_
       go_wp2_with (first | (go_at_call 47; refine (label_part.calls k1 m m' x x' q q' (rd sd j) B g _ BK.out HPT.out).mono ?_; rintro r w2 ⟨u, rfl, hbk, hlb⟩; replace BK := ak_ hbk; replace HB := ak_ (HB.out.trans hlb); replace HS := ak_ (Kd.R_step HS.out (fun k ho hk => hlb.block k hk ho)); clear hbk hlb))
       go_roundg k1
       case measure => have := HK.out; omega
       case rel => exact ⟨_, q', m', x', rfl, H', ⟨by have := HK.out; omega⟩, BK, HB, HS⟩
      ·rw [if_neg c0_] at H
       exact absurd H (by simp)
     ·rw [if_neg c1_] at H
      simp only [some.injEq, Prod.mk.injEq] at H
      obtain ⟨rfl, rfl, rfl⟩ := H
      have c1b : decide (j < (sd.length : Int)) = false := decide_eq_false c1_
      clear c1_
      go_wp2
      go_end0
      exact ⟨_, rfl, BK.out, HB.out⟩
  ·rw [if_neg ce] at HLL
   have cb : (e == 0) = false := by simpa using ce
   go_enter func80, ntmps80
   go_wp2_with (first | (go_at_call 100; refine (node_Path.calls k h a b sd pe _ HP.out).mono ?_; rintro r w1 ⟨vs, rfl, ho, hb⟩; obtain ⟨As, cs, es⟩ := Kd.R_slice ho; subst es; have HS := ak_ (Kd.R_mono (ok' := fun k => k ≠ g) (Kd.R_bound ho) (fun k hk => by have := hk.2.1; have := GL.out; omega)); have n0_ := ak_ (kb_ BK.out hb); have n1_ := ak_ (Kd.R_below HC.out hb); have HB := ak_ (LbBut.of (g := g) hb); clear BK HC ho hb; have BK := n0_; have HC := n1_; clear n0_ n1_; have hc10 : w1.cell? ⟨g, 10, none⟩ = some (.int .i64 e) := (kc_ BK.out 10).trans rfl; have hf10 := kf_ BK.out 10))
   go_loopg [30] k (fun kq v30 w' => ∃ (j q : Int) (m : List S45) (x : S34), v30 = .int .i64 j ∧ Aside0 (label_path.l0 kq m x q sd j = some (l', v', e')) ∧ Aside0 (kq ≤ k) ∧ Aside0 (Wk B w' g m x q) ∧ Aside0 (LbBut g w w') ∧ Aside0 (Kd.R (Kd.int .i64) 3 w' w.heap.size (fun k => k ≠ g) (.slice As sd.length cs) sd))
   case atStart => exact ⟨0, e, l, v, rfl, HLL, ⟨Nat.le_refl _⟩, ⟨⟨GB.out, A, c, BK.out, HC.out⟩⟩, HB, HS⟩
   case round =>
    clear BK HB HS HC HLL hc10 hf10
    obtain ⟨j, q, m, x, rfl, HA, HK, BK, HB, HS⟩ := hrel
    cases gk with
    | zero => exact absurd HA.out (by simp [label_path.l0])
    | succ k1 =>
     have H := HA.out
     clear HA
     simp only [label_path.l0] at H
     by_cases c1_ : j < (sd.length : Int)
     ·rw [if_pos c1_] at H
      by_cases c0_ : 0 ≤ j
      ·rw [if_pos c0_] at H
       obtain ⟨⟨m', x', q'⟩, hpt, H⟩ := bind_eq_some_iff.mp H
       dsimp only at H
       have HPT := ak_ hpt
       have H' := ak_ H
       clear hpt H
       obtain ⟨ad, e_, hx⟩ := Kd.at_int (Kd.R_reads' HS.out).2.2 j c0_ c1_
       subst e_
       have c1b : decide (j < (sd.length : Int)) = true := decide_eq_true c1_
       have c0b := eq_true c0_
       have c1c := eq_true c1_
       clear c0_ c1_
       go_wp2_with (first | (go_at_call 47; refine (label_part.calls k1 m m' x x' q q' (rd sd j) B g _ BK.out HPT.out).mono ?_; rintro r w2 ⟨u, rfl, hbk, hlb⟩; replace BK := ak_ hbk; replace HB := ak_ (HB.out.trans hlb); replace HS := ak_ (Kd.R_step HS.out (fun k ho hk => hlb.block k hk ho)); clear hbk hlb))
       go_roundg k1
       case measure => have := HK.out; omega
       case rel => exact ⟨_, q', m', x', rfl, H', ⟨by have := HK.out; omega⟩, BK, HB, HS⟩
      ·rw [if_neg c0_] at H
       exact absurd H (by simp)
     ·rw [if_neg c1_] at H
      simp only [some.injEq, Prod.mk.injEq] at H
      obtain ⟨rfl, rfl, rfl⟩ := H
      have c1b : decide (j < (sd.length : Int)) = false := decide_eq_false c1_
      clear c1_
      go_wp2
      go_end0
      exact ⟨_, rfl, BK.out, HB.out⟩
def label_label.f (k : Nat) (l : List S45) (v : S34) (e : Int) (h i j : Int) : Option (List S45 × S34 × Int) := (label_path.f k l v e h 1 i).bind fun r => (label_part.f k r.1 r.2.1 r.2.2 2).bind fun q => if j = 0 then some q else label_path.f k q.1 q.2.1 q.2.2 h i j
theorem label_label.mono : ∀ l v e h i j k, LeO (label_label.f k l v e h i j) (label_label.f (k + 1) l v e h i j) := by
  intro l v e h i j k
  unfold label_label.f
  repeat' first | (with_reducible first | exact label_path.mono .. | exact label_part.mono .. | exact LeO.refl _ | exact LeO.none _ | refine LeO.ite ?_ ?_ | refine LeO.bind ?_ (fun _ => ?_))
set_option maxHeartbeats 8000000 in
set_option maxRecDepth 100000 in
theorem label_label.calls (k : Nat) (l l' : List S45) (v v' : S34) (e e' h i j : Int) (B g : Nat) (w : World) (hw : Wk B w g l v e) (hh : label_label.f k l v e h i j = some (l', v', e')) :
   Calls Try.prog 50 #[.pointer (some ⟨g, 0, none⟩), .int .i64 h, .agg #[.int .u64 i, .int .u64 j]] w fun r w' => ∃ u, r = .returned u ∧ Wk B w' g l' v' e' ∧ LbBut g w w' := by
  have hu_s := underlying48
  have GL := ak_ hw.lt
  have BK := ak_ hw
  clear hw
  unfold label_label.f at hh
  obtain ⟨⟨l1, v1, e1⟩, h1, hh⟩ := bind_eq_some_iff.mp hh
  dsimp only at hh
  obtain ⟨⟨l2, v2, e2⟩, h2, hh⟩ := bind_eq_some_iff.mp hh
  dsimp only at hh
  have H1 := ak_ h1
  have H2 := ak_ h2
  clear h1 h2
  by_cases cj : j = 0
  ·rw [if_pos cj] at hh
   obtain ⟨rfl, rfl, rfl⟩ : l2 = l' ∧ v2 = v' ∧ e2 = e' := by simpa using hh
   have cb : (j != 0) = false := by simpa using cj
   clear hh cj
   go_enter func50, ntmps50
   go_wp2_with (first | ((with_reducible refine gate_dst (N := 5) rfl ?_); refine bx_ 5 #[.int .u64 i, .int .u64 j] 48 ?_; intro gs hgs w1 hbox hb; have NG := ak_ (show gs ≠ g by rw [hgs]; have := GL.out; omega); have n0_ := ak_ (BK.out.below hb); have HB := ak_ (LbBut.of (g := g) hb); have BS := ak_ hbox; clear BK hb hbox hgs; have BK := n0_; clear n0_; have hz0 : w1.cell? ⟨gs, 0, none⟩ = some (.int .u64 i) := (kc_ BS.out 0).trans rfl; have hz1 : w1.cell? ⟨gs, 1, none⟩ = some (.int .u64 j) := (kc_ BS.out 1).trans rfl) | (go_at_call_of 80 (Value.int .u64 1); refine (label_path.calls k l l1 v v1 e e1 h 1 i B g _ BK.out H1.out).mono ?_; rintro r w2 ⟨uw2, rfl, hbk, hlb⟩; replace BK := ak_ hbk; replace HB := ak_ (HB.out.trans hlb); replace BS := ak_ ((hlb.block gs (blk_lt BS.out) NG.out).trans BS.out); clear hbk hlb hz0 hz1; have hz0 : w2.cell? ⟨gs, 0, none⟩ = some (.int .u64 i) := (kc_ BS.out 0).trans rfl; have hz1 : w2.cell? ⟨gs, 1, none⟩ = some (.int .u64 j) := (kc_ BS.out 1).trans rfl) | (go_at_call 47; refine (label_part.calls k l1 l2 v1 v2 e1 e2 2 B g _ BK.out H2.out).mono ?_; rintro r w3 ⟨uw3, rfl, hbk, hlb⟩; replace BK := ak_ hbk; replace HB := ak_ (HB.out.trans hlb); replace BS := ak_ ((hlb.block gs (blk_lt BS.out) NG.out).trans BS.out); clear hbk hlb hz0 hz1; have hz0 : w3.cell? ⟨gs, 0, none⟩ = some (.int .u64 i) := (kc_ BS.out 0).trans rfl; have hz1 : w3.cell? ⟨gs, 1, none⟩ = some (.int .u64 j) := (kc_ BS.out 1).trans rfl))
   go_end0
   exact ⟨_, rfl, BK.out, HB.out⟩
  ·rw [if_neg cj] at hh
   have H3 := ak_ hh
   have cb : (j != 0) = true := by simpa using cj
   clear hh cj
   go_enter func50, ntmps50
   go_wp2_with (first | ((with_reducible refine gate_dst (N := 5) rfl ?_); refine bx_ 5 #[.int .u64 i, .int .u64 j] 48 ?_; intro gs hgs w1 hbox hb; have NG := ak_ (show gs ≠ g by rw [hgs]; have := GL.out; omega); have n0_ := ak_ (BK.out.below hb); have HB := ak_ (LbBut.of (g := g) hb); have BS := ak_ hbox; clear BK hb hbox hgs; have BK := n0_; clear n0_; have hz0 : w1.cell? ⟨gs, 0, none⟩ = some (.int .u64 i) := (kc_ BS.out 0).trans rfl; have hz1 : w1.cell? ⟨gs, 1, none⟩ = some (.int .u64 j) := (kc_ BS.out 1).trans rfl) | (go_at_call_of 80 (Value.int .u64 1); refine (label_path.calls k l l1 v v1 e e1 h 1 i B g _ BK.out H1.out).mono ?_; rintro r w2 ⟨uw2, rfl, hbk, hlb⟩; replace BK := ak_ hbk; replace HB := ak_ (HB.out.trans hlb); replace BS := ak_ ((hlb.block gs (blk_lt BS.out) NG.out).trans BS.out); clear hbk hlb hz0 hz1; have hz0 : w2.cell? ⟨gs, 0, none⟩ = some (.int .u64 i) := (kc_ BS.out 0).trans rfl; have hz1 : w2.cell? ⟨gs, 1, none⟩ = some (.int .u64 j) := (kc_ BS.out 1).trans rfl) | (go_at_call_of 80 (Value.int .u64 j); refine (label_path.calls k l2 l' v2 v' e2 e' h i j B g _ BK.out H3.out).mono ?_; rintro r w4 ⟨uw4, rfl, hbk, hlb⟩; replace BK := ak_ hbk; replace HB := ak_ (HB.out.trans hlb); replace BS := ak_ ((hlb.block gs (blk_lt BS.out) NG.out).trans BS.out); clear hbk hlb hz0 hz1; have hz0 : w4.cell? ⟨gs, 0, none⟩ = some (.int .u64 i) := (kc_ BS.out 0).trans rfl; have hz1 : w4.cell? ⟨gs, 1, none⟩ = some (.int .u64 j) := (kc_ BS.out 1).trans rfl) | (go_at_call 47; refine (label_part.calls k l1 l2 v1 v2 e1 e2 2 B g _ BK.out H2.out).mono ?_; rintro r w3 ⟨uw3, rfl, hbk, hlb⟩; replace BK := ak_ hbk; replace HB := ak_ (HB.out.trans hlb); replace BS := ak_ ((hlb.block gs (blk_lt BS.out) NG.out).trans BS.out); clear hbk hlb hz0 hz1; have hz0 : w3.cell? ⟨gs, 0, none⟩ = some (.int .u64 i) := (kc_ BS.out 0).trans rfl; have hz1 : w3.cell? ⟨gs, 1, none⟩ = some (.int .u64 j) := (kc_ BS.out 1).trans rfl))
   go_end0
   exact ⟨_, rfl, BK.out, HB.out⟩
def label_Key.g (k : Nat) (l : List S45) (h s : Int) (v : S34) (i j : Int) : Option (S34 × List S45 × Int) := (label_start.f k l v).bind fun e => (layer_May.f k h s i j).bind fun m => if e ≠ 0 ∨ m.2 ≠ 0 ∨ m.1 = false then some (z34, [], 1) else (label_label.f k l v 0 h i j).bind fun r => (if s ≠ 1 then label_part.f k r.1 r.2.1 r.2.2 2 else some r).bind fun q => some (if q.2.2 = 0 then (q.2.1, q.1, 0) else (z34, [], q.2.2))
set_option maxHeartbeats 8000000 in
set_option maxRecDepth 100000 in
theorem label_Key.go (k : Nat) (l l' : List S45) (v v' : S34) (h s i j e' : Int) (A : Option Addr) (c : Nat) (w : World) (hr : Kd.C k45 w A l.length l) (hc : l.length ≤ c) (hh : label_Key.g k l h s v i j = some (v', l', e')) :
   Calls Try.prog 21 #[.slice A l.length c, .int .i64 h, .int .i64 s, .agg #[.bool v.f0, .bool v.f1, .int .u64 v.f2.f0, .int .u64 v.f2.f1, .int .u64 v.f3.f0.f0, .int .u64 v.f3.f0.f1, .int .u64 v.f3.f1.f0, .int .u64 v.f3.f1.f1, .int .i64 v.f4], .agg #[.int .u64 i, .int .u64 j]] w fun r w' => ∃ vl, r = .returned (.tuple #[.agg #[.bool v'.f0, .bool v'.f1, .int .u64 v'.f2.f0, .int .u64 v'.f2.f1, .int .u64 v'.f3.f0.f0, .int .u64 v'.f3.f0.f1, .int .u64 v'.f3.f1.f0, .int .u64 v'.f3.f1.f1, .int .i64 v'.f4], vl, .int .i64 e']) ∧ Kd.R k45 45 w' w.heap.size (fun _ => True) vl l' ∧ Below w.heap.size w w' := by
  have hu_v := underlying34
  have HC := ak_ hr
  have HL := ak_ hc
  have HB := ak_ (Below.refl w.heap.size w)
  clear hr hc
  unfold label_Key.g at hh
  obtain ⟨e0, h0, h1⟩ := bind_eq_some_iff.mp hh
  have H0 := ak_ h0
  obtain ⟨⟨may, em⟩, h2, h3⟩ := bind_eq_some_iff.mp h1
  have H2 := ak_ h2
  have H3 := ak_ h3
  clear hh h0 h1 h2 h3
  have hu_s := underlying48
  have h3 := H3.out
  clear H3
  dsimp only at h3
  by_cases ce : e0 = 0
  ·subst ce
   by_cases cm : em = 0
   ·subst cm
    cases may with
    | false =>
     rw [if_pos (by simp)] at h3
     obtain ⟨rfl, rfl, rfl⟩ : z34 = v' ∧ [] = l' ∧ 1 = e' := by simpa using h3
     clear h3
     go_enter func21, ntmps21
     go_wp2_with (first | ((with_reducible refine gate_dst (N := 8) rfl ?_); refine bx_ 8 #[.bool v.f0, .bool v.f1, .int .u64 v.f2.f0, .int .u64 v.f2.f1, .int .u64 v.f3.f0.f0, .int .u64 v.f3.f0.f1, .int .u64 v.f3.f1.f0, .int .u64 v.f3.f1.f1, .int .i64 v.f4] 34 ?_; intro g1 hgs w1 hbox hb; have GEg1 := ak_ (show w.heap.size ≤ g1 by rw [hgs]; exact bz_ HB.out); replace HB := ak_ (bt_ HB.out hb); clear hb hgs; have Bg1 := ak_ hbox; clear hbox) | ((with_reducible refine gate_dst (N := 9) rfl ?_); refine bx_ 9 #[.int .u64 i, .int .u64 j] 48 ?_; intro g2 hgs w2 hbox hb; have GEg2 := ak_ (show w.heap.size ≤ g2 by rw [hgs]; exact bz_ HB.out); replace HB := ak_ (bt_ HB.out hb); replace Bg1 := ak_ (kb_ Bg1.out hb); clear hb hgs; have Bg2 := ak_ hbox; clear hbox) | ((with_reducible refine gate_dst (N := 10) rfl ?_); refine bx_ 10 #[.bool false, .bool false, .int .u64 0, .int .u64 0, .int .u64 0, .int .u64 0, .int .u64 0, .int .u64 0, .int .i64 0] 34 ?_; intro g3 hgs w3 hbox hb; have GEg3 := ak_ (show w.heap.size ≤ g3 by rw [hgs]; exact bz_ HB.out); replace HB := ak_ (bt_ HB.out hb); replace Bg1 := ak_ (kb_ Bg1.out hb); replace Bg2 := ak_ (kb_ Bg2.out hb); clear hb hgs; have Bg3 := ak_ hbox; clear hbox; have hv0 : w3.cell? ⟨g1, 0, none⟩ = some (.bool v.f0) := (kc_ Bg1.out 0).trans rfl; have hv1 : w3.cell? ⟨g1, 1, none⟩ = some (.bool v.f1) := (kc_ Bg1.out 1).trans rfl; have hv2 : w3.cell? ⟨g1, 2, none⟩ = some (.int .u64 v.f2.f0) := (kc_ Bg1.out 2).trans rfl; have hv3 : w3.cell? ⟨g1, 3, none⟩ = some (.int .u64 v.f2.f1) := (kc_ Bg1.out 3).trans rfl; have hv4 : w3.cell? ⟨g1, 4, none⟩ = some (.int .u64 v.f3.f0.f0) := (kc_ Bg1.out 4).trans rfl; have hv5 : w3.cell? ⟨g1, 5, none⟩ = some (.int .u64 v.f3.f0.f1) := (kc_ Bg1.out 5).trans rfl; have hv6 : w3.cell? ⟨g1, 6, none⟩ = some (.int .u64 v.f3.f1.f0) := (kc_ Bg1.out 6).trans rfl; have hv7 : w3.cell? ⟨g1, 7, none⟩ = some (.int .u64 v.f3.f1.f1) := (kc_ Bg1.out 7).trans rfl; have hv8 : w3.cell? ⟨g1, 8, none⟩ = some (.int .i64 v.f4) := (kc_ Bg1.out 8).trans rfl; clear Bg1 GEg1) | (go_at_call 44; refine (label_start.calls k l v _ A c _ (Kd.C_below HC.out HB.out) HL.out H0.out).mono ?_; rintro r w4 ⟨g, rfl, hw, hb⟩; obtain ⟨B, hB_⟩ : ∃ B, B = w3.heap.size := ⟨_, rfl⟩; rw [← hB_] at hw; have GB := ak_ (show w.heap.size ≤ B by rw [hB_]; exact bz_ HB.out); have Lg2 := ak_ (show g2 < B by rw [hB_]; exact blk_lt Bg2.out); have Ng2 := ak_ (show g2 ≠ g from Nat.ne_of_lt (Nat.lt_of_lt_of_le Lg2.out hw.1)); have Lg3 := ak_ (show g3 < B by rw [hB_]; exact blk_lt Bg3.out); have Ng3 := ak_ (show g3 ≠ g from Nat.ne_of_lt (Nat.lt_of_lt_of_le Lg3.out hw.1)); have GG := ak_ (Nat.le_trans GB.out hw.1); replace HB := ak_ (bt_ HB.out hb); replace Bg2 := ak_ (kb_ Bg2.out hb); replace Bg3 := ak_ (kb_ Bg3.out hb); clear hb hB_; have BW := ak_ hw; clear hw; clear hv0 hv1 hv2 hv3 hv4 hv5 hv6 hv7 hv8; have hs0 : w4.cell? ⟨g2, 0, none⟩ = some (.int .u64 i) := (kc_ Bg2.out 0).trans rfl; have hs1 : w4.cell? ⟨g2, 1, none⟩ = some (.int .u64 j) := (kc_ Bg2.out 1).trans rfl; obtain ⟨_, A_, c_, hbk_, _⟩ := BW.out; have hz10 := (kc_ hbk_ 10).trans (show _ = some (Value.int .i64 _) from rfl); clear hbk_) | (go_at_call 49; refine (layer_May.calls k h _ i j _ _ _ H2.out).mono ?_; rintro r w5 ⟨rfl, hb⟩; replace HB := ak_ (bt_ HB.out hb); replace Bg2 := ak_ (kb_ Bg2.out hb); replace Bg3 := ak_ (kb_ Bg3.out hb); replace BW := ak_ (BW.out.below hb); clear hb; clear hs0 hs1 hz10; have hs0 : w5.cell? ⟨g2, 0, none⟩ = some (.int .u64 i) := (kc_ Bg2.out 0).trans rfl; have hs1 : w5.cell? ⟨g2, 1, none⟩ = some (.int .u64 j) := (kc_ Bg2.out 1).trans rfl; obtain ⟨_, A_, c_, hbk_, _⟩ := BW.out; have hz10 := (kc_ hbk_ 10).trans (show _ = some (Value.int .i64 _) from rfl); clear hbk_; have hq0 : w5.cell? ⟨g3, 0, none⟩ = some (.bool false) := (kc_ Bg3.out 0).trans rfl; have hq1 : w5.cell? ⟨g3, 1, none⟩ = some (.bool false) := (kc_ Bg3.out 1).trans rfl; have hq2 : w5.cell? ⟨g3, 2, none⟩ = some (.int .u64 0) := (kc_ Bg3.out 2).trans rfl; have hq3 : w5.cell? ⟨g3, 3, none⟩ = some (.int .u64 0) := (kc_ Bg3.out 3).trans rfl; have hq4 : w5.cell? ⟨g3, 4, none⟩ = some (.int .u64 0) := (kc_ Bg3.out 4).trans rfl; have hq5 : w5.cell? ⟨g3, 5, none⟩ = some (.int .u64 0) := (kc_ Bg3.out 5).trans rfl; have hq6 : w5.cell? ⟨g3, 6, none⟩ = some (.int .u64 0) := (kc_ Bg3.out 6).trans rfl; have hq7 : w5.cell? ⟨g3, 7, none⟩ = some (.int .u64 0) := (kc_ Bg3.out 7).trans rfl; have hq8 : w5.cell? ⟨g3, 8, none⟩ = some (.int .i64 0) := (kc_ Bg3.out 8).trans rfl; have hf0 := kf_ Bg3.out 0; have hf1 := kf_ Bg3.out 1; have hf2 := kf_ Bg3.out 2; have hf3 := kf_ Bg3.out 3; have hf4 := kf_ Bg3.out 4; have hf5 := kf_ Bg3.out 5; have hf6 := kf_ Bg3.out 6; have hf7 := kf_ Bg3.out 7; have hf8 := kf_ Bg3.out 8))
     refine bodyPost_ret (results_ctt rfl _ _ g3 34 #[.bool false, .bool false, .int .u64 0, .int .u64 0, .int .u64 0, .int .u64 0, .int .u64 0, .int .u64 0, .int .i64 0] (0, 0) _ rfl (lb_put9 (.bool false) (.bool false) (.int .u64 0) (.int .u64 0) (.int .u64 0) (.int .u64 0) (.int .u64 0) (.int .u64 0) (.int .i64 0) Bg3.out) underlying34 rfl (by kernel_rfl)) rfl ?_
     exact ⟨_, rfl, Kd.R_nil _ _ _ _ _, HB.out.trans ((lb_but9 _ _ (.bool false) (.bool false) (.int .u64 0) (.int .u64 0) (.int .u64 0) (.int .u64 0) (.int .u64 0) (.int .u64 0) (.int .i64 0)).below GEg3.out (bz_ HB.out))⟩
    | true =>
     rw [if_neg (by simp)] at h3
     obtain ⟨⟨lr, vr, er⟩, h4, h5⟩ := bind_eq_some_iff.mp h3
     have H4 := ak_ h4
     clear h3 h4
     dsimp only at h5
     by_cases c1 : s = 1
     ·subst c1
      rw [if_neg (by simp)] at h5
      have h6 := h5
      clear h5
      simp only [Option.bind_some, some.injEq] at h6
      by_cases cE : er = 0
      ·subst cE
       rw [if_pos rfl] at h6
       obtain ⟨rfl, rfl, rfl⟩ : vr = v' ∧ lr = l' ∧ 0 = e' := by simpa using h6
       clear h6
       go_enter func21, ntmps21
       go_wp2_with (first | ((with_reducible refine gate_dst (N := 8) rfl ?_); refine bx_ 8 #[.bool v.f0, .bool v.f1, .int .u64 v.f2.f0, .int .u64 v.f2.f1, .int .u64 v.f3.f0.f0, .int .u64 v.f3.f0.f1, .int .u64 v.f3.f1.f0, .int .u64 v.f3.f1.f1, .int .i64 v.f4] 34 ?_; intro g1 hgs w1 hbox hb; have GEg1 := ak_ (show w.heap.size ≤ g1 by rw [hgs]; exact bz_ HB.out); replace HB := ak_ (bt_ HB.out hb); clear hb hgs; have Bg1 := ak_ hbox; clear hbox) | ((with_reducible refine gate_dst (N := 9) rfl ?_); refine bx_ 9 #[.int .u64 i, .int .u64 j] 48 ?_; intro g2 hgs w2 hbox hb; have GEg2 := ak_ (show w.heap.size ≤ g2 by rw [hgs]; exact bz_ HB.out); replace HB := ak_ (bt_ HB.out hb); replace Bg1 := ak_ (kb_ Bg1.out hb); clear hb hgs; have Bg2 := ak_ hbox; clear hbox) | ((with_reducible refine gate_dst (N := 10) rfl ?_); refine bx_ 10 #[.bool false, .bool false, .int .u64 0, .int .u64 0, .int .u64 0, .int .u64 0, .int .u64 0, .int .u64 0, .int .i64 0] 34 ?_; intro g3 hgs w3 hbox hb; have GEg3 := ak_ (show w.heap.size ≤ g3 by rw [hgs]; exact bz_ HB.out); replace HB := ak_ (bt_ HB.out hb); replace Bg1 := ak_ (kb_ Bg1.out hb); replace Bg2 := ak_ (kb_ Bg2.out hb); clear hb hgs; have Bg3 := ak_ hbox; clear hbox; have hv0 : w3.cell? ⟨g1, 0, none⟩ = some (.bool v.f0) := (kc_ Bg1.out 0).trans rfl; have hv1 : w3.cell? ⟨g1, 1, none⟩ = some (.bool v.f1) := (kc_ Bg1.out 1).trans rfl; have hv2 : w3.cell? ⟨g1, 2, none⟩ = some (.int .u64 v.f2.f0) := (kc_ Bg1.out 2).trans rfl; have hv3 : w3.cell? ⟨g1, 3, none⟩ = some (.int .u64 v.f2.f1) := (kc_ Bg1.out 3).trans rfl; have hv4 : w3.cell? ⟨g1, 4, none⟩ = some (.int .u64 v.f3.f0.f0) := (kc_ Bg1.out 4).trans rfl; have hv5 : w3.cell? ⟨g1, 5, none⟩ = some (.int .u64 v.f3.f0.f1) := (kc_ Bg1.out 5).trans rfl; have hv6 : w3.cell? ⟨g1, 6, none⟩ = some (.int .u64 v.f3.f1.f0) := (kc_ Bg1.out 6).trans rfl; have hv7 : w3.cell? ⟨g1, 7, none⟩ = some (.int .u64 v.f3.f1.f1) := (kc_ Bg1.out 7).trans rfl; have hv8 : w3.cell? ⟨g1, 8, none⟩ = some (.int .i64 v.f4) := (kc_ Bg1.out 8).trans rfl; clear Bg1 GEg1) | (go_at_call 44; refine (label_start.calls k l v _ A c _ (Kd.C_below HC.out HB.out) HL.out H0.out).mono ?_; rintro r w4 ⟨g, rfl, hw, hb⟩; obtain ⟨B, hB_⟩ : ∃ B, B = w3.heap.size := ⟨_, rfl⟩; rw [← hB_] at hw; have GB := ak_ (show w.heap.size ≤ B by rw [hB_]; exact bz_ HB.out); have Lg2 := ak_ (show g2 < B by rw [hB_]; exact blk_lt Bg2.out); have Ng2 := ak_ (show g2 ≠ g from Nat.ne_of_lt (Nat.lt_of_lt_of_le Lg2.out hw.1)); have Lg3 := ak_ (show g3 < B by rw [hB_]; exact blk_lt Bg3.out); have Ng3 := ak_ (show g3 ≠ g from Nat.ne_of_lt (Nat.lt_of_lt_of_le Lg3.out hw.1)); have GG := ak_ (Nat.le_trans GB.out hw.1); replace HB := ak_ (bt_ HB.out hb); replace Bg2 := ak_ (kb_ Bg2.out hb); replace Bg3 := ak_ (kb_ Bg3.out hb); clear hb hB_; have BW := ak_ hw; clear hw; clear hv0 hv1 hv2 hv3 hv4 hv5 hv6 hv7 hv8; have hs0 : w4.cell? ⟨g2, 0, none⟩ = some (.int .u64 i) := (kc_ Bg2.out 0).trans rfl; have hs1 : w4.cell? ⟨g2, 1, none⟩ = some (.int .u64 j) := (kc_ Bg2.out 1).trans rfl; obtain ⟨_, A_, c_, hbk_, _⟩ := BW.out; have hz10 := (kc_ hbk_ 10).trans (show _ = some (Value.int .i64 _) from rfl); clear hbk_) | (go_at_call 49; refine (layer_May.calls k h _ i j _ _ _ H2.out).mono ?_; rintro r w5 ⟨rfl, hb⟩; replace HB := ak_ (bt_ HB.out hb); replace Bg2 := ak_ (kb_ Bg2.out hb); replace Bg3 := ak_ (kb_ Bg3.out hb); replace BW := ak_ (BW.out.below hb); clear hb; clear hs0 hs1 hz10; have hs0 : w5.cell? ⟨g2, 0, none⟩ = some (.int .u64 i) := (kc_ Bg2.out 0).trans rfl; have hs1 : w5.cell? ⟨g2, 1, none⟩ = some (.int .u64 j) := (kc_ Bg2.out 1).trans rfl; obtain ⟨_, A_, c_, hbk_, _⟩ := BW.out; have hz10 := (kc_ hbk_ 10).trans (show _ = some (Value.int .i64 _) from rfl); clear hbk_; have hq0 : w5.cell? ⟨g3, 0, none⟩ = some (.bool false) := (kc_ Bg3.out 0).trans rfl; have hq1 : w5.cell? ⟨g3, 1, none⟩ = some (.bool false) := (kc_ Bg3.out 1).trans rfl; have hq2 : w5.cell? ⟨g3, 2, none⟩ = some (.int .u64 0) := (kc_ Bg3.out 2).trans rfl; have hq3 : w5.cell? ⟨g3, 3, none⟩ = some (.int .u64 0) := (kc_ Bg3.out 3).trans rfl; have hq4 : w5.cell? ⟨g3, 4, none⟩ = some (.int .u64 0) := (kc_ Bg3.out 4).trans rfl; have hq5 : w5.cell? ⟨g3, 5, none⟩ = some (.int .u64 0) := (kc_ Bg3.out 5).trans rfl; have hq6 : w5.cell? ⟨g3, 6, none⟩ = some (.int .u64 0) := (kc_ Bg3.out 6).trans rfl; have hq7 : w5.cell? ⟨g3, 7, none⟩ = some (.int .u64 0) := (kc_ Bg3.out 7).trans rfl; have hq8 : w5.cell? ⟨g3, 8, none⟩ = some (.int .i64 0) := (kc_ Bg3.out 8).trans rfl; have hf0 := kf_ Bg3.out 0; have hf1 := kf_ Bg3.out 1; have hf2 := kf_ Bg3.out 2; have hf3 := kf_ Bg3.out 3; have hf4 := kf_ Bg3.out 4; have hf5 := kf_ Bg3.out 5; have hf6 := kf_ Bg3.out 6; have hf7 := kf_ Bg3.out 7; have hf8 := kf_ Bg3.out 8) | (go_at_call 50; refine (label_label.calls k l lr v vr 0 0 h i j B g _ BW.out H4.out).mono ?_; rintro r w6 ⟨uw6, rfl, hw, hlb⟩; have m_ := ak_ (HB.out.trans (hlb.below GG.out (bz_ HB.out))); clear HB BW; have HB := m_; clear m_; replace Bg3 := ak_ ((hlb.block g3 (blk_lt Bg3.out) Ng3.out).trans Bg3.out); have BW := ak_ hw; clear hw hlb; clear hs0 hs1 hz10 Bg2; clear hq0 hf0 hq1 hf1 hq2 hf2 hq3 hf3 hq4 hf4 hq5 hf5 hq6 hf6 hq7 hf7 hq8 hf8) | (go_at_call 48; obtain ⟨_, A7, c7, hbk_, hR_⟩ := BW.out; refine (label_end.calls vr 0 lr A7 c7 g _ hbk_).mono ?_; rintro r w8 ⟨er_, hb⟩; rw [if_pos rfl] at er_; subst er_; replace HB := ak_ (bt_ HB.out hb); replace Bg3 := ak_ (kb_ Bg3.out hb); have HR7 := ak_ (Kd.R_below hR_ hb); clear hb hbk_ hR_ BW; have hy0 : w8.cell? ⟨g3, 0, none⟩ = some (.bool false) := (kc_ Bg3.out 0).trans rfl; have hy1 : w8.cell? ⟨g3, 1, none⟩ = some (.bool false) := (kc_ Bg3.out 1).trans rfl; have hy2 : w8.cell? ⟨g3, 2, none⟩ = some (.int .u64 0) := (kc_ Bg3.out 2).trans rfl; have hy3 : w8.cell? ⟨g3, 3, none⟩ = some (.int .u64 0) := (kc_ Bg3.out 3).trans rfl; have hy4 : w8.cell? ⟨g3, 4, none⟩ = some (.int .u64 0) := (kc_ Bg3.out 4).trans rfl; have hy5 : w8.cell? ⟨g3, 5, none⟩ = some (.int .u64 0) := (kc_ Bg3.out 5).trans rfl; have hy6 : w8.cell? ⟨g3, 6, none⟩ = some (.int .u64 0) := (kc_ Bg3.out 6).trans rfl; have hy7 : w8.cell? ⟨g3, 7, none⟩ = some (.int .u64 0) := (kc_ Bg3.out 7).trans rfl; have hy8 : w8.cell? ⟨g3, 8, none⟩ = some (.int .i64 0) := (kc_ Bg3.out 8).trans rfl; have hf0 := kf_ Bg3.out 0; have hf1 := kf_ Bg3.out 1; have hf2 := kf_ Bg3.out 2; have hf3 := kf_ Bg3.out 3; have hf4 := kf_ Bg3.out 4; have hf5 := kf_ Bg3.out 5; have hf6 := kf_ Bg3.out 6; have hf7 := kf_ Bg3.out 7; have hf8 := kf_ Bg3.out 8))
       refine bodyPost_ret (results_ctt rfl _ _ g3 34 #[.bool vr.f0, .bool vr.f1, .int .u64 vr.f2.f0, .int .u64 vr.f2.f1, .int .u64 vr.f3.f0.f0, .int .u64 vr.f3.f0.f1, .int .u64 vr.f3.f1.f0, .int .u64 vr.f3.f1.f1, .int .i64 vr.f4] (0, 0) _ rfl (lb_put9 (.bool vr.f0) (.bool vr.f1) (.int .u64 vr.f2.f0) (.int .u64 vr.f2.f1) (.int .u64 vr.f3.f0.f0) (.int .u64 vr.f3.f0.f1) (.int .u64 vr.f3.f1.f0) (.int .u64 vr.f3.f1.f1) (.int .i64 vr.f4) Bg3.out) underlying34 rfl (by kernel_rfl)) rfl ?_
       exact ⟨_, rfl, lb_fin HR7.out Lg3.out (lb_but9 _ _ (.bool vr.f0) (.bool vr.f1) (.int .u64 vr.f2.f0) (.int .u64 vr.f2.f1) (.int .u64 vr.f3.f0.f0) (.int .u64 vr.f3.f0.f1) (.int .u64 vr.f3.f1.f0) (.int .u64 vr.f3.f1.f1) (.int .i64 vr.f4)) GB.out, HB.out.trans ((lb_but9 _ _ (.bool vr.f0) (.bool vr.f1) (.int .u64 vr.f2.f0) (.int .u64 vr.f2.f1) (.int .u64 vr.f3.f0.f0) (.int .u64 vr.f3.f0.f1) (.int .u64 vr.f3.f1.f0) (.int .u64 vr.f3.f1.f1) (.int .i64 vr.f4)).below GEg3.out (bz_ HB.out))⟩
      ·rw [if_neg cE] at h6
       obtain ⟨rfl, rfl, rfl⟩ : z34 = v' ∧ [] = l' ∧ er = e' := by simpa using h6
       clear h6
       go_enter func21, ntmps21
       go_wp2_with (first | ((with_reducible refine gate_dst (N := 8) rfl ?_); refine bx_ 8 #[.bool v.f0, .bool v.f1, .int .u64 v.f2.f0, .int .u64 v.f2.f1, .int .u64 v.f3.f0.f0, .int .u64 v.f3.f0.f1, .int .u64 v.f3.f1.f0, .int .u64 v.f3.f1.f1, .int .i64 v.f4] 34 ?_; intro g1 hgs w1 hbox hb; have GEg1 := ak_ (show w.heap.size ≤ g1 by rw [hgs]; exact bz_ HB.out); replace HB := ak_ (bt_ HB.out hb); clear hb hgs; have Bg1 := ak_ hbox; clear hbox) | ((with_reducible refine gate_dst (N := 9) rfl ?_); refine bx_ 9 #[.int .u64 i, .int .u64 j] 48 ?_; intro g2 hgs w2 hbox hb; have GEg2 := ak_ (show w.heap.size ≤ g2 by rw [hgs]; exact bz_ HB.out); replace HB := ak_ (bt_ HB.out hb); replace Bg1 := ak_ (kb_ Bg1.out hb); clear hb hgs; have Bg2 := ak_ hbox; clear hbox) | ((with_reducible refine gate_dst (N := 10) rfl ?_); refine bx_ 10 #[.bool false, .bool false, .int .u64 0, .int .u64 0, .int .u64 0, .int .u64 0, .int .u64 0, .int .u64 0, .int .i64 0] 34 ?_; intro g3 hgs w3 hbox hb; have GEg3 := ak_ (show w.heap.size ≤ g3 by rw [hgs]; exact bz_ HB.out); replace HB := ak_ (bt_ HB.out hb); replace Bg1 := ak_ (kb_ Bg1.out hb); replace Bg2 := ak_ (kb_ Bg2.out hb); clear hb hgs; have Bg3 := ak_ hbox; clear hbox; have hv0 : w3.cell? ⟨g1, 0, none⟩ = some (.bool v.f0) := (kc_ Bg1.out 0).trans rfl; have hv1 : w3.cell? ⟨g1, 1, none⟩ = some (.bool v.f1) := (kc_ Bg1.out 1).trans rfl; have hv2 : w3.cell? ⟨g1, 2, none⟩ = some (.int .u64 v.f2.f0) := (kc_ Bg1.out 2).trans rfl; have hv3 : w3.cell? ⟨g1, 3, none⟩ = some (.int .u64 v.f2.f1) := (kc_ Bg1.out 3).trans rfl; have hv4 : w3.cell? ⟨g1, 4, none⟩ = some (.int .u64 v.f3.f0.f0) := (kc_ Bg1.out 4).trans rfl; have hv5 : w3.cell? ⟨g1, 5, none⟩ = some (.int .u64 v.f3.f0.f1) := (kc_ Bg1.out 5).trans rfl; have hv6 : w3.cell? ⟨g1, 6, none⟩ = some (.int .u64 v.f3.f1.f0) := (kc_ Bg1.out 6).trans rfl; have hv7 : w3.cell? ⟨g1, 7, none⟩ = some (.int .u64 v.f3.f1.f1) := (kc_ Bg1.out 7).trans rfl; have hv8 : w3.cell? ⟨g1, 8, none⟩ = some (.int .i64 v.f4) := (kc_ Bg1.out 8).trans rfl; clear Bg1 GEg1) | (go_at_call 44; refine (label_start.calls k l v _ A c _ (Kd.C_below HC.out HB.out) HL.out H0.out).mono ?_; rintro r w4 ⟨g, rfl, hw, hb⟩; obtain ⟨B, hB_⟩ : ∃ B, B = w3.heap.size := ⟨_, rfl⟩; rw [← hB_] at hw; have GB := ak_ (show w.heap.size ≤ B by rw [hB_]; exact bz_ HB.out); have Lg2 := ak_ (show g2 < B by rw [hB_]; exact blk_lt Bg2.out); have Ng2 := ak_ (show g2 ≠ g from Nat.ne_of_lt (Nat.lt_of_lt_of_le Lg2.out hw.1)); have Lg3 := ak_ (show g3 < B by rw [hB_]; exact blk_lt Bg3.out); have Ng3 := ak_ (show g3 ≠ g from Nat.ne_of_lt (Nat.lt_of_lt_of_le Lg3.out hw.1)); have GG := ak_ (Nat.le_trans GB.out hw.1); replace HB := ak_ (bt_ HB.out hb); replace Bg2 := ak_ (kb_ Bg2.out hb); replace Bg3 := ak_ (kb_ Bg3.out hb); clear hb hB_; have BW := ak_ hw; clear hw; clear hv0 hv1 hv2 hv3 hv4 hv5 hv6 hv7 hv8; have hs0 : w4.cell? ⟨g2, 0, none⟩ = some (.int .u64 i) := (kc_ Bg2.out 0).trans rfl; have hs1 : w4.cell? ⟨g2, 1, none⟩ = some (.int .u64 j) := (kc_ Bg2.out 1).trans rfl; obtain ⟨_, A_, c_, hbk_, _⟩ := BW.out; have hz10 := (kc_ hbk_ 10).trans (show _ = some (Value.int .i64 _) from rfl); clear hbk_) | (go_at_call 49; refine (layer_May.calls k h _ i j _ _ _ H2.out).mono ?_; rintro r w5 ⟨rfl, hb⟩; replace HB := ak_ (bt_ HB.out hb); replace Bg2 := ak_ (kb_ Bg2.out hb); replace Bg3 := ak_ (kb_ Bg3.out hb); replace BW := ak_ (BW.out.below hb); clear hb; clear hs0 hs1 hz10; have hs0 : w5.cell? ⟨g2, 0, none⟩ = some (.int .u64 i) := (kc_ Bg2.out 0).trans rfl; have hs1 : w5.cell? ⟨g2, 1, none⟩ = some (.int .u64 j) := (kc_ Bg2.out 1).trans rfl; obtain ⟨_, A_, c_, hbk_, _⟩ := BW.out; have hz10 := (kc_ hbk_ 10).trans (show _ = some (Value.int .i64 _) from rfl); clear hbk_; have hq0 : w5.cell? ⟨g3, 0, none⟩ = some (.bool false) := (kc_ Bg3.out 0).trans rfl; have hq1 : w5.cell? ⟨g3, 1, none⟩ = some (.bool false) := (kc_ Bg3.out 1).trans rfl; have hq2 : w5.cell? ⟨g3, 2, none⟩ = some (.int .u64 0) := (kc_ Bg3.out 2).trans rfl; have hq3 : w5.cell? ⟨g3, 3, none⟩ = some (.int .u64 0) := (kc_ Bg3.out 3).trans rfl; have hq4 : w5.cell? ⟨g3, 4, none⟩ = some (.int .u64 0) := (kc_ Bg3.out 4).trans rfl; have hq5 : w5.cell? ⟨g3, 5, none⟩ = some (.int .u64 0) := (kc_ Bg3.out 5).trans rfl; have hq6 : w5.cell? ⟨g3, 6, none⟩ = some (.int .u64 0) := (kc_ Bg3.out 6).trans rfl; have hq7 : w5.cell? ⟨g3, 7, none⟩ = some (.int .u64 0) := (kc_ Bg3.out 7).trans rfl; have hq8 : w5.cell? ⟨g3, 8, none⟩ = some (.int .i64 0) := (kc_ Bg3.out 8).trans rfl; have hf0 := kf_ Bg3.out 0; have hf1 := kf_ Bg3.out 1; have hf2 := kf_ Bg3.out 2; have hf3 := kf_ Bg3.out 3; have hf4 := kf_ Bg3.out 4; have hf5 := kf_ Bg3.out 5; have hf6 := kf_ Bg3.out 6; have hf7 := kf_ Bg3.out 7; have hf8 := kf_ Bg3.out 8) | (go_at_call 50; refine (label_label.calls k l lr v vr 0 er h i j B g _ BW.out H4.out).mono ?_; rintro r w6 ⟨uw6, rfl, hw, hlb⟩; have m_ := ak_ (HB.out.trans (hlb.below GG.out (bz_ HB.out))); clear HB BW; have HB := m_; clear m_; replace Bg3 := ak_ ((hlb.block g3 (blk_lt Bg3.out) Ng3.out).trans Bg3.out); have BW := ak_ hw; clear hw hlb; clear hs0 hs1 hz10 Bg2; clear hq0 hf0 hq1 hf1 hq2 hf2 hq3 hf3 hq4 hf4 hq5 hf5 hq6 hf6 hq7 hf7 hq8 hf8) | (go_at_call 48; obtain ⟨_, A7, c7, hbk_, hR_⟩ := BW.out; refine (label_end.calls vr er lr A7 c7 g _ hbk_).mono ?_; rintro r w8 ⟨er_, hb⟩; rw [if_neg cE] at er_; subst er_; replace HB := ak_ (bt_ HB.out hb); replace Bg3 := ak_ (kb_ Bg3.out hb); have HR7 := ak_ (Kd.R_below hR_ hb); clear hb hbk_ hR_ BW; have hy0 : w8.cell? ⟨g3, 0, none⟩ = some (.bool false) := (kc_ Bg3.out 0).trans rfl; have hy1 : w8.cell? ⟨g3, 1, none⟩ = some (.bool false) := (kc_ Bg3.out 1).trans rfl; have hy2 : w8.cell? ⟨g3, 2, none⟩ = some (.int .u64 0) := (kc_ Bg3.out 2).trans rfl; have hy3 : w8.cell? ⟨g3, 3, none⟩ = some (.int .u64 0) := (kc_ Bg3.out 3).trans rfl; have hy4 : w8.cell? ⟨g3, 4, none⟩ = some (.int .u64 0) := (kc_ Bg3.out 4).trans rfl; have hy5 : w8.cell? ⟨g3, 5, none⟩ = some (.int .u64 0) := (kc_ Bg3.out 5).trans rfl; have hy6 : w8.cell? ⟨g3, 6, none⟩ = some (.int .u64 0) := (kc_ Bg3.out 6).trans rfl; have hy7 : w8.cell? ⟨g3, 7, none⟩ = some (.int .u64 0) := (kc_ Bg3.out 7).trans rfl; have hy8 : w8.cell? ⟨g3, 8, none⟩ = some (.int .i64 0) := (kc_ Bg3.out 8).trans rfl; have hf0 := kf_ Bg3.out 0; have hf1 := kf_ Bg3.out 1; have hf2 := kf_ Bg3.out 2; have hf3 := kf_ Bg3.out 3; have hf4 := kf_ Bg3.out 4; have hf5 := kf_ Bg3.out 5; have hf6 := kf_ Bg3.out 6; have hf7 := kf_ Bg3.out 7; have hf8 := kf_ Bg3.out 8))
       refine bodyPost_ret (results_ctt rfl _ _ g3 34 #[.bool false, .bool false, .int .u64 0, .int .u64 0, .int .u64 0, .int .u64 0, .int .u64 0, .int .u64 0, .int .i64 0] (0, 0) _ rfl (lb_put9 (.bool false) (.bool false) (.int .u64 0) (.int .u64 0) (.int .u64 0) (.int .u64 0) (.int .u64 0) (.int .u64 0) (.int .i64 0) Bg3.out) underlying34 rfl (by kernel_rfl)) rfl ?_
       exact ⟨_, rfl, Kd.R_nil _ _ _ _ _, HB.out.trans ((lb_but9 _ _ (.bool false) (.bool false) (.int .u64 0) (.int .u64 0) (.int .u64 0) (.int .u64 0) (.int .u64 0) (.int .u64 0) (.int .i64 0)).below GEg3.out (bz_ HB.out))⟩
     ·rw [if_pos c1] at h5
      have c1b : (s != 1) = true := by simpa using c1
      obtain ⟨⟨lq, vq, eq⟩, h7, h6⟩ := bind_eq_some_iff.mp h5
      have H6 := ak_ h7
      clear h5 h7 c1
      simp only [some.injEq] at h6
      by_cases cE : eq = 0
      ·subst cE
       rw [if_pos rfl] at h6
       obtain ⟨rfl, rfl, rfl⟩ : vq = v' ∧ lq = l' ∧ 0 = e' := by simpa using h6
       clear h6
       go_enter func21, ntmps21
       go_wp2_with (first | ((with_reducible refine gate_dst (N := 8) rfl ?_); refine bx_ 8 #[.bool v.f0, .bool v.f1, .int .u64 v.f2.f0, .int .u64 v.f2.f1, .int .u64 v.f3.f0.f0, .int .u64 v.f3.f0.f1, .int .u64 v.f3.f1.f0, .int .u64 v.f3.f1.f1, .int .i64 v.f4] 34 ?_; intro g1 hgs w1 hbox hb; have GEg1 := ak_ (show w.heap.size ≤ g1 by rw [hgs]; exact bz_ HB.out); replace HB := ak_ (bt_ HB.out hb); clear hb hgs; have Bg1 := ak_ hbox; clear hbox) | ((with_reducible refine gate_dst (N := 9) rfl ?_); refine bx_ 9 #[.int .u64 i, .int .u64 j] 48 ?_; intro g2 hgs w2 hbox hb; have GEg2 := ak_ (show w.heap.size ≤ g2 by rw [hgs]; exact bz_ HB.out); replace HB := ak_ (bt_ HB.out hb); replace Bg1 := ak_ (kb_ Bg1.out hb); clear hb hgs; have Bg2 := ak_ hbox; clear hbox) | ((with_reducible refine gate_dst (N := 10) rfl ?_); refine bx_ 10 #[.bool false, .bool false, .int .u64 0, .int .u64 0, .int .u64 0, .int .u64 0, .int .u64 0, .int .u64 0, .int .i64 0] 34 ?_; intro g3 hgs w3 hbox hb; have GEg3 := ak_ (show w.heap.size ≤ g3 by rw [hgs]; exact bz_ HB.out); replace HB := ak_ (bt_ HB.out hb); replace Bg1 := ak_ (kb_ Bg1.out hb); replace Bg2 := ak_ (kb_ Bg2.out hb); clear hb hgs; have Bg3 := ak_ hbox; clear hbox; have hv0 : w3.cell? ⟨g1, 0, none⟩ = some (.bool v.f0) := (kc_ Bg1.out 0).trans rfl; have hv1 : w3.cell? ⟨g1, 1, none⟩ = some (.bool v.f1) := (kc_ Bg1.out 1).trans rfl; have hv2 : w3.cell? ⟨g1, 2, none⟩ = some (.int .u64 v.f2.f0) := (kc_ Bg1.out 2).trans rfl; have hv3 : w3.cell? ⟨g1, 3, none⟩ = some (.int .u64 v.f2.f1) := (kc_ Bg1.out 3).trans rfl; have hv4 : w3.cell? ⟨g1, 4, none⟩ = some (.int .u64 v.f3.f0.f0) := (kc_ Bg1.out 4).trans rfl; have hv5 : w3.cell? ⟨g1, 5, none⟩ = some (.int .u64 v.f3.f0.f1) := (kc_ Bg1.out 5).trans rfl; have hv6 : w3.cell? ⟨g1, 6, none⟩ = some (.int .u64 v.f3.f1.f0) := (kc_ Bg1.out 6).trans rfl; have hv7 : w3.cell? ⟨g1, 7, none⟩ = some (.int .u64 v.f3.f1.f1) := (kc_ Bg1.out 7).trans rfl; have hv8 : w3.cell? ⟨g1, 8, none⟩ = some (.int .i64 v.f4) := (kc_ Bg1.out 8).trans rfl; clear Bg1 GEg1) | (go_at_call 44; refine (label_start.calls k l v _ A c _ (Kd.C_below HC.out HB.out) HL.out H0.out).mono ?_; rintro r w4 ⟨g, rfl, hw, hb⟩; obtain ⟨B, hB_⟩ : ∃ B, B = w3.heap.size := ⟨_, rfl⟩; rw [← hB_] at hw; have GB := ak_ (show w.heap.size ≤ B by rw [hB_]; exact bz_ HB.out); have Lg2 := ak_ (show g2 < B by rw [hB_]; exact blk_lt Bg2.out); have Ng2 := ak_ (show g2 ≠ g from Nat.ne_of_lt (Nat.lt_of_lt_of_le Lg2.out hw.1)); have Lg3 := ak_ (show g3 < B by rw [hB_]; exact blk_lt Bg3.out); have Ng3 := ak_ (show g3 ≠ g from Nat.ne_of_lt (Nat.lt_of_lt_of_le Lg3.out hw.1)); have GG := ak_ (Nat.le_trans GB.out hw.1); replace HB := ak_ (bt_ HB.out hb); replace Bg2 := ak_ (kb_ Bg2.out hb); replace Bg3 := ak_ (kb_ Bg3.out hb); clear hb hB_; have BW := ak_ hw; clear hw; clear hv0 hv1 hv2 hv3 hv4 hv5 hv6 hv7 hv8; have hs0 : w4.cell? ⟨g2, 0, none⟩ = some (.int .u64 i) := (kc_ Bg2.out 0).trans rfl; have hs1 : w4.cell? ⟨g2, 1, none⟩ = some (.int .u64 j) := (kc_ Bg2.out 1).trans rfl; obtain ⟨_, A_, c_, hbk_, _⟩ := BW.out; have hz10 := (kc_ hbk_ 10).trans (show _ = some (Value.int .i64 _) from rfl); clear hbk_) | (go_at_call 49; refine (layer_May.calls k h _ i j _ _ _ H2.out).mono ?_; rintro r w5 ⟨rfl, hb⟩; replace HB := ak_ (bt_ HB.out hb); replace Bg2 := ak_ (kb_ Bg2.out hb); replace Bg3 := ak_ (kb_ Bg3.out hb); replace BW := ak_ (BW.out.below hb); clear hb; clear hs0 hs1 hz10; have hs0 : w5.cell? ⟨g2, 0, none⟩ = some (.int .u64 i) := (kc_ Bg2.out 0).trans rfl; have hs1 : w5.cell? ⟨g2, 1, none⟩ = some (.int .u64 j) := (kc_ Bg2.out 1).trans rfl; obtain ⟨_, A_, c_, hbk_, _⟩ := BW.out; have hz10 := (kc_ hbk_ 10).trans (show _ = some (Value.int .i64 _) from rfl); clear hbk_; have hq0 : w5.cell? ⟨g3, 0, none⟩ = some (.bool false) := (kc_ Bg3.out 0).trans rfl; have hq1 : w5.cell? ⟨g3, 1, none⟩ = some (.bool false) := (kc_ Bg3.out 1).trans rfl; have hq2 : w5.cell? ⟨g3, 2, none⟩ = some (.int .u64 0) := (kc_ Bg3.out 2).trans rfl; have hq3 : w5.cell? ⟨g3, 3, none⟩ = some (.int .u64 0) := (kc_ Bg3.out 3).trans rfl; have hq4 : w5.cell? ⟨g3, 4, none⟩ = some (.int .u64 0) := (kc_ Bg3.out 4).trans rfl; have hq5 : w5.cell? ⟨g3, 5, none⟩ = some (.int .u64 0) := (kc_ Bg3.out 5).trans rfl; have hq6 : w5.cell? ⟨g3, 6, none⟩ = some (.int .u64 0) := (kc_ Bg3.out 6).trans rfl; have hq7 : w5.cell? ⟨g3, 7, none⟩ = some (.int .u64 0) := (kc_ Bg3.out 7).trans rfl; have hq8 : w5.cell? ⟨g3, 8, none⟩ = some (.int .i64 0) := (kc_ Bg3.out 8).trans rfl; have hf0 := kf_ Bg3.out 0; have hf1 := kf_ Bg3.out 1; have hf2 := kf_ Bg3.out 2; have hf3 := kf_ Bg3.out 3; have hf4 := kf_ Bg3.out 4; have hf5 := kf_ Bg3.out 5; have hf6 := kf_ Bg3.out 6; have hf7 := kf_ Bg3.out 7; have hf8 := kf_ Bg3.out 8) | (go_at_call 50; refine (label_label.calls k l lr v vr 0 er h i j B g _ BW.out H4.out).mono ?_; rintro r w6 ⟨uw6, rfl, hw, hlb⟩; have m_ := ak_ (HB.out.trans (hlb.below GG.out (bz_ HB.out))); clear HB BW; have HB := m_; clear m_; replace Bg3 := ak_ ((hlb.block g3 (blk_lt Bg3.out) Ng3.out).trans Bg3.out); have BW := ak_ hw; clear hw hlb; clear hs0 hs1 hz10 Bg2; clear hq0 hf0 hq1 hf1 hq2 hf2 hq3 hf3 hq4 hf4 hq5 hf5 hq6 hf6 hq7 hf7 hq8 hf8) | (go_at_call 47; refine (label_part.calls k lr lq vr vq er 0 2 B g _ BW.out H6.out).mono ?_; rintro r w7 ⟨uw7, rfl, hw, hlb⟩; have m_ := ak_ (HB.out.trans (hlb.below GG.out (bz_ HB.out))); clear HB BW; have HB := m_; clear m_; replace Bg3 := ak_ ((hlb.block g3 (blk_lt Bg3.out) Ng3.out).trans Bg3.out); have BW := ak_ hw; clear hw hlb) | (go_at_call 48; obtain ⟨_, A7, c7, hbk_, hR_⟩ := BW.out; refine (label_end.calls vq 0 lq A7 c7 g _ hbk_).mono ?_; rintro r w8 ⟨er_, hb⟩; rw [if_pos rfl] at er_; subst er_; replace HB := ak_ (bt_ HB.out hb); replace Bg3 := ak_ (kb_ Bg3.out hb); have HR7 := ak_ (Kd.R_below hR_ hb); clear hb hbk_ hR_ BW; have hy0 : w8.cell? ⟨g3, 0, none⟩ = some (.bool false) := (kc_ Bg3.out 0).trans rfl; have hy1 : w8.cell? ⟨g3, 1, none⟩ = some (.bool false) := (kc_ Bg3.out 1).trans rfl; have hy2 : w8.cell? ⟨g3, 2, none⟩ = some (.int .u64 0) := (kc_ Bg3.out 2).trans rfl; have hy3 : w8.cell? ⟨g3, 3, none⟩ = some (.int .u64 0) := (kc_ Bg3.out 3).trans rfl; have hy4 : w8.cell? ⟨g3, 4, none⟩ = some (.int .u64 0) := (kc_ Bg3.out 4).trans rfl; have hy5 : w8.cell? ⟨g3, 5, none⟩ = some (.int .u64 0) := (kc_ Bg3.out 5).trans rfl; have hy6 : w8.cell? ⟨g3, 6, none⟩ = some (.int .u64 0) := (kc_ Bg3.out 6).trans rfl; have hy7 : w8.cell? ⟨g3, 7, none⟩ = some (.int .u64 0) := (kc_ Bg3.out 7).trans rfl; have hy8 : w8.cell? ⟨g3, 8, none⟩ = some (.int .i64 0) := (kc_ Bg3.out 8).trans rfl; have hf0 := kf_ Bg3.out 0; have hf1 := kf_ Bg3.out 1; have hf2 := kf_ Bg3.out 2; have hf3 := kf_ Bg3.out 3; have hf4 := kf_ Bg3.out 4; have hf5 := kf_ Bg3.out 5; have hf6 := kf_ Bg3.out 6; have hf7 := kf_ Bg3.out 7; have hf8 := kf_ Bg3.out 8))
       refine bodyPost_ret (results_ctt rfl _ _ g3 34 #[.bool vq.f0, .bool vq.f1, .int .u64 vq.f2.f0, .int .u64 vq.f2.f1, .int .u64 vq.f3.f0.f0, .int .u64 vq.f3.f0.f1, .int .u64 vq.f3.f1.f0, .int .u64 vq.f3.f1.f1, .int .i64 vq.f4] (0, 0) _ rfl (lb_put9 (.bool vq.f0) (.bool vq.f1) (.int .u64 vq.f2.f0) (.int .u64 vq.f2.f1) (.int .u64 vq.f3.f0.f0) (.int .u64 vq.f3.f0.f1) (.int .u64 vq.f3.f1.f0) (.int .u64 vq.f3.f1.f1) (.int .i64 vq.f4) Bg3.out) underlying34 rfl (by kernel_rfl)) rfl ?_
       exact ⟨_, rfl, lb_fin HR7.out Lg3.out (lb_but9 _ _ (.bool vq.f0) (.bool vq.f1) (.int .u64 vq.f2.f0) (.int .u64 vq.f2.f1) (.int .u64 vq.f3.f0.f0) (.int .u64 vq.f3.f0.f1) (.int .u64 vq.f3.f1.f0) (.int .u64 vq.f3.f1.f1) (.int .i64 vq.f4)) GB.out, HB.out.trans ((lb_but9 _ _ (.bool vq.f0) (.bool vq.f1) (.int .u64 vq.f2.f0) (.int .u64 vq.f2.f1) (.int .u64 vq.f3.f0.f0) (.int .u64 vq.f3.f0.f1) (.int .u64 vq.f3.f1.f0) (.int .u64 vq.f3.f1.f1) (.int .i64 vq.f4)).below GEg3.out (bz_ HB.out))⟩
      ·rw [if_neg cE] at h6
       obtain ⟨rfl, rfl, rfl⟩ : z34 = v' ∧ [] = l' ∧ eq = e' := by simpa using h6
       clear h6
       go_enter func21, ntmps21
       go_wp2_with (first | ((with_reducible refine gate_dst (N := 8) rfl ?_); refine bx_ 8 #[.bool v.f0, .bool v.f1, .int .u64 v.f2.f0, .int .u64 v.f2.f1, .int .u64 v.f3.f0.f0, .int .u64 v.f3.f0.f1, .int .u64 v.f3.f1.f0, .int .u64 v.f3.f1.f1, .int .i64 v.f4] 34 ?_; intro g1 hgs w1 hbox hb; have GEg1 := ak_ (show w.heap.size ≤ g1 by rw [hgs]; exact bz_ HB.out); replace HB := ak_ (bt_ HB.out hb); clear hb hgs; have Bg1 := ak_ hbox; clear hbox) | ((with_reducible refine gate_dst (N := 9) rfl ?_); refine bx_ 9 #[.int .u64 i, .int .u64 j] 48 ?_; intro g2 hgs w2 hbox hb; have GEg2 := ak_ (show w.heap.size ≤ g2 by rw [hgs]; exact bz_ HB.out); replace HB := ak_ (bt_ HB.out hb); replace Bg1 := ak_ (kb_ Bg1.out hb); clear hb hgs; have Bg2 := ak_ hbox; clear hbox) | ((with_reducible refine gate_dst (N := 10) rfl ?_); refine bx_ 10 #[.bool false, .bool false, .int .u64 0, .int .u64 0, .int .u64 0, .int .u64 0, .int .u64 0, .int .u64 0, .int .i64 0] 34 ?_; intro g3 hgs w3 hbox hb; have GEg3 := ak_ (show w.heap.size ≤ g3 by rw [hgs]; exact bz_ HB.out); replace HB := ak_ (bt_ HB.out hb); replace Bg1 := ak_ (kb_ Bg1.out hb); replace Bg2 := ak_ (kb_ Bg2.out hb); clear hb hgs; have Bg3 := ak_ hbox; clear hbox; have hv0 : w3.cell? ⟨g1, 0, none⟩ = some (.bool v.f0) := (kc_ Bg1.out 0).trans rfl; have hv1 : w3.cell? ⟨g1, 1, none⟩ = some (.bool v.f1) := (kc_ Bg1.out 1).trans rfl; have hv2 : w3.cell? ⟨g1, 2, none⟩ = some (.int .u64 v.f2.f0) := (kc_ Bg1.out 2).trans rfl; have hv3 : w3.cell? ⟨g1, 3, none⟩ = some (.int .u64 v.f2.f1) := (kc_ Bg1.out 3).trans rfl; have hv4 : w3.cell? ⟨g1, 4, none⟩ = some (.int .u64 v.f3.f0.f0) := (kc_ Bg1.out 4).trans rfl; have hv5 : w3.cell? ⟨g1, 5, none⟩ = some (.int .u64 v.f3.f0.f1) := (kc_ Bg1.out 5).trans rfl; have hv6 : w3.cell? ⟨g1, 6, none⟩ = some (.int .u64 v.f3.f1.f0) := (kc_ Bg1.out 6).trans rfl; have hv7 : w3.cell? ⟨g1, 7, none⟩ = some (.int .u64 v.f3.f1.f1) := (kc_ Bg1.out 7).trans rfl; have hv8 : w3.cell? ⟨g1, 8, none⟩ = some (.int .i64 v.f4) := (kc_ Bg1.out 8).trans rfl; clear Bg1 GEg1) | (go_at_call 44; refine (label_start.calls k l v _ A c _ (Kd.C_below HC.out HB.out) HL.out H0.out).mono ?_; rintro r w4 ⟨g, rfl, hw, hb⟩; obtain ⟨B, hB_⟩ : ∃ B, B = w3.heap.size := ⟨_, rfl⟩; rw [← hB_] at hw; have GB := ak_ (show w.heap.size ≤ B by rw [hB_]; exact bz_ HB.out); have Lg2 := ak_ (show g2 < B by rw [hB_]; exact blk_lt Bg2.out); have Ng2 := ak_ (show g2 ≠ g from Nat.ne_of_lt (Nat.lt_of_lt_of_le Lg2.out hw.1)); have Lg3 := ak_ (show g3 < B by rw [hB_]; exact blk_lt Bg3.out); have Ng3 := ak_ (show g3 ≠ g from Nat.ne_of_lt (Nat.lt_of_lt_of_le Lg3.out hw.1)); have GG := ak_ (Nat.le_trans GB.out hw.1); replace HB := ak_ (bt_ HB.out hb); replace Bg2 := ak_ (kb_ Bg2.out hb); replace Bg3 := ak_ (kb_ Bg3.out hb); clear hb hB_; have BW := ak_ hw; clear hw; clear hv0 hv1 hv2 hv3 hv4 hv5 hv6 hv7 hv8; have hs0 : w4.cell? ⟨g2, 0, none⟩ = some (.int .u64 i) := (kc_ Bg2.out 0).trans rfl; have hs1 : w4.cell? ⟨g2, 1, none⟩ = some (.int .u64 j) := (kc_ Bg2.out 1).trans rfl; obtain ⟨_, A_, c_, hbk_, _⟩ := BW.out; have hz10 := (kc_ hbk_ 10).trans (show _ = some (Value.int .i64 _) from rfl); clear hbk_) | (go_at_call 49; refine (layer_May.calls k h _ i j _ _ _ H2.out).mono ?_; rintro r w5 ⟨rfl, hb⟩; replace HB := ak_ (bt_ HB.out hb); replace Bg2 := ak_ (kb_ Bg2.out hb); replace Bg3 := ak_ (kb_ Bg3.out hb); replace BW := ak_ (BW.out.below hb); clear hb; clear hs0 hs1 hz10; have hs0 : w5.cell? ⟨g2, 0, none⟩ = some (.int .u64 i) := (kc_ Bg2.out 0).trans rfl; have hs1 : w5.cell? ⟨g2, 1, none⟩ = some (.int .u64 j) := (kc_ Bg2.out 1).trans rfl; obtain ⟨_, A_, c_, hbk_, _⟩ := BW.out; have hz10 := (kc_ hbk_ 10).trans (show _ = some (Value.int .i64 _) from rfl); clear hbk_; have hq0 : w5.cell? ⟨g3, 0, none⟩ = some (.bool false) := (kc_ Bg3.out 0).trans rfl; have hq1 : w5.cell? ⟨g3, 1, none⟩ = some (.bool false) := (kc_ Bg3.out 1).trans rfl; have hq2 : w5.cell? ⟨g3, 2, none⟩ = some (.int .u64 0) := (kc_ Bg3.out 2).trans rfl; have hq3 : w5.cell? ⟨g3, 3, none⟩ = some (.int .u64 0) := (kc_ Bg3.out 3).trans rfl; have hq4 : w5.cell? ⟨g3, 4, none⟩ = some (.int .u64 0) := (kc_ Bg3.out 4).trans rfl; have hq5 : w5.cell? ⟨g3, 5, none⟩ = some (.int .u64 0) := (kc_ Bg3.out 5).trans rfl; have hq6 : w5.cell? ⟨g3, 6, none⟩ = some (.int .u64 0) := (kc_ Bg3.out 6).trans rfl; have hq7 : w5.cell? ⟨g3, 7, none⟩ = some (.int .u64 0) := (kc_ Bg3.out 7).trans rfl; have hq8 : w5.cell? ⟨g3, 8, none⟩ = some (.int .i64 0) := (kc_ Bg3.out 8).trans rfl; have hf0 := kf_ Bg3.out 0; have hf1 := kf_ Bg3.out 1; have hf2 := kf_ Bg3.out 2; have hf3 := kf_ Bg3.out 3; have hf4 := kf_ Bg3.out 4; have hf5 := kf_ Bg3.out 5; have hf6 := kf_ Bg3.out 6; have hf7 := kf_ Bg3.out 7; have hf8 := kf_ Bg3.out 8) | (go_at_call 50; refine (label_label.calls k l lr v vr 0 er h i j B g _ BW.out H4.out).mono ?_; rintro r w6 ⟨uw6, rfl, hw, hlb⟩; have m_ := ak_ (HB.out.trans (hlb.below GG.out (bz_ HB.out))); clear HB BW; have HB := m_; clear m_; replace Bg3 := ak_ ((hlb.block g3 (blk_lt Bg3.out) Ng3.out).trans Bg3.out); have BW := ak_ hw; clear hw hlb; clear hs0 hs1 hz10 Bg2; clear hq0 hf0 hq1 hf1 hq2 hf2 hq3 hf3 hq4 hf4 hq5 hf5 hq6 hf6 hq7 hf7 hq8 hf8) | (go_at_call 47; refine (label_part.calls k lr lq vr vq er eq 2 B g _ BW.out H6.out).mono ?_; rintro r w7 ⟨uw7, rfl, hw, hlb⟩; have m_ := ak_ (HB.out.trans (hlb.below GG.out (bz_ HB.out))); clear HB BW; have HB := m_; clear m_; replace Bg3 := ak_ ((hlb.block g3 (blk_lt Bg3.out) Ng3.out).trans Bg3.out); have BW := ak_ hw; clear hw hlb) | (go_at_call 48; obtain ⟨_, A7, c7, hbk_, hR_⟩ := BW.out; refine (label_end.calls vq eq lq A7 c7 g _ hbk_).mono ?_; rintro r w8 ⟨er_, hb⟩; rw [if_neg cE] at er_; subst er_; replace HB := ak_ (bt_ HB.out hb); replace Bg3 := ak_ (kb_ Bg3.out hb); have HR7 := ak_ (Kd.R_below hR_ hb); clear hb hbk_ hR_ BW; have hy0 : w8.cell? ⟨g3, 0, none⟩ = some (.bool false) := (kc_ Bg3.out 0).trans rfl; have hy1 : w8.cell? ⟨g3, 1, none⟩ = some (.bool false) := (kc_ Bg3.out 1).trans rfl; have hy2 : w8.cell? ⟨g3, 2, none⟩ = some (.int .u64 0) := (kc_ Bg3.out 2).trans rfl; have hy3 : w8.cell? ⟨g3, 3, none⟩ = some (.int .u64 0) := (kc_ Bg3.out 3).trans rfl; have hy4 : w8.cell? ⟨g3, 4, none⟩ = some (.int .u64 0) := (kc_ Bg3.out 4).trans rfl; have hy5 : w8.cell? ⟨g3, 5, none⟩ = some (.int .u64 0) := (kc_ Bg3.out 5).trans rfl; have hy6 : w8.cell? ⟨g3, 6, none⟩ = some (.int .u64 0) := (kc_ Bg3.out 6).trans rfl; have hy7 : w8.cell? ⟨g3, 7, none⟩ = some (.int .u64 0) := (kc_ Bg3.out 7).trans rfl; have hy8 : w8.cell? ⟨g3, 8, none⟩ = some (.int .i64 0) := (kc_ Bg3.out 8).trans rfl; have hf0 := kf_ Bg3.out 0; have hf1 := kf_ Bg3.out 1; have hf2 := kf_ Bg3.out 2; have hf3 := kf_ Bg3.out 3; have hf4 := kf_ Bg3.out 4; have hf5 := kf_ Bg3.out 5; have hf6 := kf_ Bg3.out 6; have hf7 := kf_ Bg3.out 7; have hf8 := kf_ Bg3.out 8))
       refine bodyPost_ret (results_ctt rfl _ _ g3 34 #[.bool false, .bool false, .int .u64 0, .int .u64 0, .int .u64 0, .int .u64 0, .int .u64 0, .int .u64 0, .int .i64 0] (0, 0) _ rfl (lb_put9 (.bool false) (.bool false) (.int .u64 0) (.int .u64 0) (.int .u64 0) (.int .u64 0) (.int .u64 0) (.int .u64 0) (.int .i64 0) Bg3.out) underlying34 rfl (by kernel_rfl)) rfl ?_
       exact ⟨_, rfl, Kd.R_nil _ _ _ _ _, HB.out.trans ((lb_but9 _ _ (.bool false) (.bool false) (.int .u64 0) (.int .u64 0) (.int .u64 0) (.int .u64 0) (.int .u64 0) (.int .u64 0) (.int .i64 0)).below GEg3.out (bz_ HB.out))⟩
   ·rw [if_pos (by simp [cm])] at h3
    have cb : (em != 0) = true := by simpa using cm
    obtain ⟨rfl, rfl, rfl⟩ : z34 = v' ∧ [] = l' ∧ 1 = e' := by simpa using h3
    clear h3
    go_enter func21, ntmps21
    go_wp2_with (first | ((with_reducible refine gate_dst (N := 8) rfl ?_); refine bx_ 8 #[.bool v.f0, .bool v.f1, .int .u64 v.f2.f0, .int .u64 v.f2.f1, .int .u64 v.f3.f0.f0, .int .u64 v.f3.f0.f1, .int .u64 v.f3.f1.f0, .int .u64 v.f3.f1.f1, .int .i64 v.f4] 34 ?_; intro g1 hgs w1 hbox hb; have GEg1 := ak_ (show w.heap.size ≤ g1 by rw [hgs]; exact bz_ HB.out); replace HB := ak_ (bt_ HB.out hb); clear hb hgs; have Bg1 := ak_ hbox; clear hbox) | ((with_reducible refine gate_dst (N := 9) rfl ?_); refine bx_ 9 #[.int .u64 i, .int .u64 j] 48 ?_; intro g2 hgs w2 hbox hb; have GEg2 := ak_ (show w.heap.size ≤ g2 by rw [hgs]; exact bz_ HB.out); replace HB := ak_ (bt_ HB.out hb); replace Bg1 := ak_ (kb_ Bg1.out hb); clear hb hgs; have Bg2 := ak_ hbox; clear hbox) | ((with_reducible refine gate_dst (N := 10) rfl ?_); refine bx_ 10 #[.bool false, .bool false, .int .u64 0, .int .u64 0, .int .u64 0, .int .u64 0, .int .u64 0, .int .u64 0, .int .i64 0] 34 ?_; intro g3 hgs w3 hbox hb; have GEg3 := ak_ (show w.heap.size ≤ g3 by rw [hgs]; exact bz_ HB.out); replace HB := ak_ (bt_ HB.out hb); replace Bg1 := ak_ (kb_ Bg1.out hb); replace Bg2 := ak_ (kb_ Bg2.out hb); clear hb hgs; have Bg3 := ak_ hbox; clear hbox; have hv0 : w3.cell? ⟨g1, 0, none⟩ = some (.bool v.f0) := (kc_ Bg1.out 0).trans rfl; have hv1 : w3.cell? ⟨g1, 1, none⟩ = some (.bool v.f1) := (kc_ Bg1.out 1).trans rfl; have hv2 : w3.cell? ⟨g1, 2, none⟩ = some (.int .u64 v.f2.f0) := (kc_ Bg1.out 2).trans rfl; have hv3 : w3.cell? ⟨g1, 3, none⟩ = some (.int .u64 v.f2.f1) := (kc_ Bg1.out 3).trans rfl; have hv4 : w3.cell? ⟨g1, 4, none⟩ = some (.int .u64 v.f3.f0.f0) := (kc_ Bg1.out 4).trans rfl; have hv5 : w3.cell? ⟨g1, 5, none⟩ = some (.int .u64 v.f3.f0.f1) := (kc_ Bg1.out 5).trans rfl; have hv6 : w3.cell? ⟨g1, 6, none⟩ = some (.int .u64 v.f3.f1.f0) := (kc_ Bg1.out 6).trans rfl; have hv7 : w3.cell? ⟨g1, 7, none⟩ = some (.int .u64 v.f3.f1.f1) := (kc_ Bg1.out 7).trans rfl; have hv8 : w3.cell? ⟨g1, 8, none⟩ = some (.int .i64 v.f4) := (kc_ Bg1.out 8).trans rfl; clear Bg1 GEg1) | (go_at_call 44; refine (label_start.calls k l v _ A c _ (Kd.C_below HC.out HB.out) HL.out H0.out).mono ?_; rintro r w4 ⟨g, rfl, hw, hb⟩; obtain ⟨B, hB_⟩ : ∃ B, B = w3.heap.size := ⟨_, rfl⟩; rw [← hB_] at hw; have GB := ak_ (show w.heap.size ≤ B by rw [hB_]; exact bz_ HB.out); have Lg2 := ak_ (show g2 < B by rw [hB_]; exact blk_lt Bg2.out); have Ng2 := ak_ (show g2 ≠ g from Nat.ne_of_lt (Nat.lt_of_lt_of_le Lg2.out hw.1)); have Lg3 := ak_ (show g3 < B by rw [hB_]; exact blk_lt Bg3.out); have Ng3 := ak_ (show g3 ≠ g from Nat.ne_of_lt (Nat.lt_of_lt_of_le Lg3.out hw.1)); have GG := ak_ (Nat.le_trans GB.out hw.1); replace HB := ak_ (bt_ HB.out hb); replace Bg2 := ak_ (kb_ Bg2.out hb); replace Bg3 := ak_ (kb_ Bg3.out hb); clear hb hB_; have BW := ak_ hw; clear hw; clear hv0 hv1 hv2 hv3 hv4 hv5 hv6 hv7 hv8; have hs0 : w4.cell? ⟨g2, 0, none⟩ = some (.int .u64 i) := (kc_ Bg2.out 0).trans rfl; have hs1 : w4.cell? ⟨g2, 1, none⟩ = some (.int .u64 j) := (kc_ Bg2.out 1).trans rfl; obtain ⟨_, A_, c_, hbk_, _⟩ := BW.out; have hz10 := (kc_ hbk_ 10).trans (show _ = some (Value.int .i64 _) from rfl); clear hbk_) | (go_at_call 49; refine (layer_May.calls k h _ i j _ _ _ H2.out).mono ?_; rintro r w5 ⟨rfl, hb⟩; replace HB := ak_ (bt_ HB.out hb); replace Bg2 := ak_ (kb_ Bg2.out hb); replace Bg3 := ak_ (kb_ Bg3.out hb); replace BW := ak_ (BW.out.below hb); clear hb; clear hs0 hs1 hz10; have hs0 : w5.cell? ⟨g2, 0, none⟩ = some (.int .u64 i) := (kc_ Bg2.out 0).trans rfl; have hs1 : w5.cell? ⟨g2, 1, none⟩ = some (.int .u64 j) := (kc_ Bg2.out 1).trans rfl; obtain ⟨_, A_, c_, hbk_, _⟩ := BW.out; have hz10 := (kc_ hbk_ 10).trans (show _ = some (Value.int .i64 _) from rfl); clear hbk_; have hq0 : w5.cell? ⟨g3, 0, none⟩ = some (.bool false) := (kc_ Bg3.out 0).trans rfl; have hq1 : w5.cell? ⟨g3, 1, none⟩ = some (.bool false) := (kc_ Bg3.out 1).trans rfl; have hq2 : w5.cell? ⟨g3, 2, none⟩ = some (.int .u64 0) := (kc_ Bg3.out 2).trans rfl; have hq3 : w5.cell? ⟨g3, 3, none⟩ = some (.int .u64 0) := (kc_ Bg3.out 3).trans rfl; have hq4 : w5.cell? ⟨g3, 4, none⟩ = some (.int .u64 0) := (kc_ Bg3.out 4).trans rfl; have hq5 : w5.cell? ⟨g3, 5, none⟩ = some (.int .u64 0) := (kc_ Bg3.out 5).trans rfl; have hq6 : w5.cell? ⟨g3, 6, none⟩ = some (.int .u64 0) := (kc_ Bg3.out 6).trans rfl; have hq7 : w5.cell? ⟨g3, 7, none⟩ = some (.int .u64 0) := (kc_ Bg3.out 7).trans rfl; have hq8 : w5.cell? ⟨g3, 8, none⟩ = some (.int .i64 0) := (kc_ Bg3.out 8).trans rfl; have hf0 := kf_ Bg3.out 0; have hf1 := kf_ Bg3.out 1; have hf2 := kf_ Bg3.out 2; have hf3 := kf_ Bg3.out 3; have hf4 := kf_ Bg3.out 4; have hf5 := kf_ Bg3.out 5; have hf6 := kf_ Bg3.out 6; have hf7 := kf_ Bg3.out 7; have hf8 := kf_ Bg3.out 8))
    refine bodyPost_ret (results_ctt rfl _ _ g3 34 #[.bool false, .bool false, .int .u64 0, .int .u64 0, .int .u64 0, .int .u64 0, .int .u64 0, .int .u64 0, .int .i64 0] (0, 0) _ rfl (lb_put9 (.bool false) (.bool false) (.int .u64 0) (.int .u64 0) (.int .u64 0) (.int .u64 0) (.int .u64 0) (.int .u64 0) (.int .i64 0) Bg3.out) underlying34 rfl (by kernel_rfl)) rfl ?_
    exact ⟨_, rfl, Kd.R_nil _ _ _ _ _, HB.out.trans ((lb_but9 _ _ (.bool false) (.bool false) (.int .u64 0) (.int .u64 0) (.int .u64 0) (.int .u64 0) (.int .u64 0) (.int .u64 0) (.int .i64 0)).below GEg3.out (bz_ HB.out))⟩
  ·rw [if_pos (by simp [ce])] at h3
   have cb : (e0 != 0) = true := by simpa using ce
   obtain ⟨rfl, rfl, rfl⟩ : z34 = v' ∧ [] = l' ∧ 1 = e' := by simpa using h3
   clear h3
   go_enter func21, ntmps21
   go_wp2_with (first | ((with_reducible refine gate_dst (N := 8) rfl ?_); refine bx_ 8 #[.bool v.f0, .bool v.f1, .int .u64 v.f2.f0, .int .u64 v.f2.f1, .int .u64 v.f3.f0.f0, .int .u64 v.f3.f0.f1, .int .u64 v.f3.f1.f0, .int .u64 v.f3.f1.f1, .int .i64 v.f4] 34 ?_; intro g1 hgs w1 hbox hb; have GEg1 := ak_ (show w.heap.size ≤ g1 by rw [hgs]; exact bz_ HB.out); replace HB := ak_ (bt_ HB.out hb); clear hb hgs; have Bg1 := ak_ hbox; clear hbox) | ((with_reducible refine gate_dst (N := 9) rfl ?_); refine bx_ 9 #[.int .u64 i, .int .u64 j] 48 ?_; intro g2 hgs w2 hbox hb; have GEg2 := ak_ (show w.heap.size ≤ g2 by rw [hgs]; exact bz_ HB.out); replace HB := ak_ (bt_ HB.out hb); replace Bg1 := ak_ (kb_ Bg1.out hb); clear hb hgs; have Bg2 := ak_ hbox; clear hbox) | ((with_reducible refine gate_dst (N := 10) rfl ?_); refine bx_ 10 #[.bool false, .bool false, .int .u64 0, .int .u64 0, .int .u64 0, .int .u64 0, .int .u64 0, .int .u64 0, .int .i64 0] 34 ?_; intro g3 hgs w3 hbox hb; have GEg3 := ak_ (show w.heap.size ≤ g3 by rw [hgs]; exact bz_ HB.out); replace HB := ak_ (bt_ HB.out hb); replace Bg1 := ak_ (kb_ Bg1.out hb); replace Bg2 := ak_ (kb_ Bg2.out hb); clear hb hgs; have Bg3 := ak_ hbox; clear hbox; have hv0 : w3.cell? ⟨g1, 0, none⟩ = some (.bool v.f0) := (kc_ Bg1.out 0).trans rfl; have hv1 : w3.cell? ⟨g1, 1, none⟩ = some (.bool v.f1) := (kc_ Bg1.out 1).trans rfl; have hv2 : w3.cell? ⟨g1, 2, none⟩ = some (.int .u64 v.f2.f0) := (kc_ Bg1.out 2).trans rfl; have hv3 : w3.cell? ⟨g1, 3, none⟩ = some (.int .u64 v.f2.f1) := (kc_ Bg1.out 3).trans rfl; have hv4 : w3.cell? ⟨g1, 4, none⟩ = some (.int .u64 v.f3.f0.f0) := (kc_ Bg1.out 4).trans rfl; have hv5 : w3.cell? ⟨g1, 5, none⟩ = some (.int .u64 v.f3.f0.f1) := (kc_ Bg1.out 5).trans rfl; have hv6 : w3.cell? ⟨g1, 6, none⟩ = some (.int .u64 v.f3.f1.f0) := (kc_ Bg1.out 6).trans rfl; have hv7 : w3.cell? ⟨g1, 7, none⟩ = some (.int .u64 v.f3.f1.f1) := (kc_ Bg1.out 7).trans rfl; have hv8 : w3.cell? ⟨g1, 8, none⟩ = some (.int .i64 v.f4) := (kc_ Bg1.out 8).trans rfl; clear Bg1 GEg1) | (go_at_call 44; refine (label_start.calls k l v _ A c _ (Kd.C_below HC.out HB.out) HL.out H0.out).mono ?_; rintro r w4 ⟨g, rfl, hw, hb⟩; obtain ⟨B, hB_⟩ : ∃ B, B = w3.heap.size := ⟨_, rfl⟩; rw [← hB_] at hw; have GB := ak_ (show w.heap.size ≤ B by rw [hB_]; exact bz_ HB.out); have Lg2 := ak_ (show g2 < B by rw [hB_]; exact blk_lt Bg2.out); have Ng2 := ak_ (show g2 ≠ g from Nat.ne_of_lt (Nat.lt_of_lt_of_le Lg2.out hw.1)); have Lg3 := ak_ (show g3 < B by rw [hB_]; exact blk_lt Bg3.out); have Ng3 := ak_ (show g3 ≠ g from Nat.ne_of_lt (Nat.lt_of_lt_of_le Lg3.out hw.1)); have GG := ak_ (Nat.le_trans GB.out hw.1); replace HB := ak_ (bt_ HB.out hb); replace Bg2 := ak_ (kb_ Bg2.out hb); replace Bg3 := ak_ (kb_ Bg3.out hb); clear hb hB_; have BW := ak_ hw; clear hw; clear hv0 hv1 hv2 hv3 hv4 hv5 hv6 hv7 hv8; have hs0 : w4.cell? ⟨g2, 0, none⟩ = some (.int .u64 i) := (kc_ Bg2.out 0).trans rfl; have hs1 : w4.cell? ⟨g2, 1, none⟩ = some (.int .u64 j) := (kc_ Bg2.out 1).trans rfl; obtain ⟨_, A_, c_, hbk_, _⟩ := BW.out; have hz10 := (kc_ hbk_ 10).trans (show _ = some (Value.int .i64 _) from rfl); clear hbk_) | (go_at_call 49; refine (layer_May.calls k h _ i j _ _ _ H2.out).mono ?_; rintro r w5 ⟨rfl, hb⟩; replace HB := ak_ (bt_ HB.out hb); replace Bg2 := ak_ (kb_ Bg2.out hb); replace Bg3 := ak_ (kb_ Bg3.out hb); replace BW := ak_ (BW.out.below hb); clear hb; clear hs0 hs1 hz10; have hs0 : w5.cell? ⟨g2, 0, none⟩ = some (.int .u64 i) := (kc_ Bg2.out 0).trans rfl; have hs1 : w5.cell? ⟨g2, 1, none⟩ = some (.int .u64 j) := (kc_ Bg2.out 1).trans rfl; obtain ⟨_, A_, c_, hbk_, _⟩ := BW.out; have hz10 := (kc_ hbk_ 10).trans (show _ = some (Value.int .i64 _) from rfl); clear hbk_; have hq0 : w5.cell? ⟨g3, 0, none⟩ = some (.bool false) := (kc_ Bg3.out 0).trans rfl; have hq1 : w5.cell? ⟨g3, 1, none⟩ = some (.bool false) := (kc_ Bg3.out 1).trans rfl; have hq2 : w5.cell? ⟨g3, 2, none⟩ = some (.int .u64 0) := (kc_ Bg3.out 2).trans rfl; have hq3 : w5.cell? ⟨g3, 3, none⟩ = some (.int .u64 0) := (kc_ Bg3.out 3).trans rfl; have hq4 : w5.cell? ⟨g3, 4, none⟩ = some (.int .u64 0) := (kc_ Bg3.out 4).trans rfl; have hq5 : w5.cell? ⟨g3, 5, none⟩ = some (.int .u64 0) := (kc_ Bg3.out 5).trans rfl; have hq6 : w5.cell? ⟨g3, 6, none⟩ = some (.int .u64 0) := (kc_ Bg3.out 6).trans rfl; have hq7 : w5.cell? ⟨g3, 7, none⟩ = some (.int .u64 0) := (kc_ Bg3.out 7).trans rfl; have hq8 : w5.cell? ⟨g3, 8, none⟩ = some (.int .i64 0) := (kc_ Bg3.out 8).trans rfl; have hf0 := kf_ Bg3.out 0; have hf1 := kf_ Bg3.out 1; have hf2 := kf_ Bg3.out 2; have hf3 := kf_ Bg3.out 3; have hf4 := kf_ Bg3.out 4; have hf5 := kf_ Bg3.out 5; have hf6 := kf_ Bg3.out 6; have hf7 := kf_ Bg3.out 7; have hf8 := kf_ Bg3.out 8))
   refine bodyPost_ret (results_ctt rfl _ _ g3 34 #[.bool false, .bool false, .int .u64 0, .int .u64 0, .int .u64 0, .int .u64 0, .int .u64 0, .int .u64 0, .int .i64 0] (0, 0) _ rfl (lb_put9 (.bool false) (.bool false) (.int .u64 0) (.int .u64 0) (.int .u64 0) (.int .u64 0) (.int .u64 0) (.int .u64 0) (.int .i64 0) Bg3.out) underlying34 rfl (by kernel_rfl)) rfl ?_
   exact ⟨_, rfl, Kd.R_nil _ _ _ _ _, HB.out.trans ((lb_but9 _ _ (.bool false) (.bool false) (.int .u64 0) (.int .u64 0) (.int .u64 0) (.int .u64 0) (.int .u64 0) (.int .u64 0) (.int .i64 0)).below GEg3.out (bz_ HB.out))⟩
def label_Key.f (k : Nat) (l0 : List S45) (a1 a2 : Int) (a3_0 : Bool) (a3_1 : Bool) (a3_2 : Int) (a3_3 : Int) (a3_4 : Int) (a3_5 : Int) (a3_6 : Int) (a3_7 : Int) (a3_8 : Int) (a4_0 a4_1 : Int) : Option (Bool × Bool × Int × Int × Int × Int × Int × Int × Int × (List S45) × Int) := (label_Key.g k l0 a1 a2 (⟨a3_0, a3_1, ⟨a3_2, a3_3⟩, ⟨⟨a3_4, a3_5⟩, ⟨a3_6, a3_7⟩⟩, a3_8⟩ : S34) a4_0 a4_1).bind fun r => some (r.1.f0, r.1.f1, r.1.f2.f0, r.1.f2.f1, r.1.f3.f0.f0, r.1.f3.f0.f1, r.1.f3.f1.f0, r.1.f3.f1.f1, r.1.f4, r.2.1, r.2.2)
theorem label_Key.mono : ∀ l0 a1 a2 a3_0 a3_1 a3_2 a3_3 a3_4 a3_5 a3_6 a3_7 a3_8 a4_0 a4_1 k, LeO (label_Key.f k l0 a1 a2 a3_0 a3_1 a3_2 a3_3 a3_4 a3_5 a3_6 a3_7 a3_8 a4_0 a4_1) (label_Key.f (k + 1) l0 a1 a2 a3_0 a3_1 a3_2 a3_3 a3_4 a3_5 a3_6 a3_7 a3_8 a4_0 a4_1) := by
  intro l0 a1 a2 a3_0 a3_1 a3_2 a3_3 a3_4 a3_5 a3_6 a3_7 a3_8 a4_0 a4_1 k
  unfold label_Key.f label_Key.g
  repeat' first | (with_reducible first | exact label_start.mono .. | exact layer_May.mono .. | exact label_label.mono .. | exact label_part.mono .. | exact LeO.refl _ | exact LeO.none _ | refine LeO.ite ?_ ?_ | refine LeO.bind ?_ (fun _ => ?_))
theorem label_Key.calls (k : Nat) (A0 : Option Addr) (c0 : Nat) (l0 : List S45) (a1 a2 : Int) (a3_0 : Bool) (a3_1 : Bool) (a3_2 : Int) (a3_3 : Int) (a3_4 : Int) (a3_5 : Int) (a3_6 : Int) (a3_7 : Int) (a3_8 : Int) (a4_0 a4_1 : Int) (r1 r2 : Bool) (r3 r4 r5 r6 r7 r8 r9 : Int) (r10 : List S45) (r11 : Int) (w : World) (hr0 : Kd.C k45 w A0 l0.length l0) (hc0 : l0.length ≤ c0) (h : label_Key.f k l0 a1 a2 a3_0 a3_1 a3_2 a3_3 a3_4 a3_5 a3_6 a3_7 a3_8 a4_0 a4_1 = some (r1, r2, r3, r4, r5, r6, r7, r8, r9, r10, r11)) :
   Calls Try.prog 21 #[.slice A0 l0.length c0, .int .i64 a1, .int .i64 a2, .agg #[.bool a3_0, .bool a3_1, .int .u64 a3_2, .int .u64 a3_3, .int .u64 a3_4, .int .u64 a3_5, .int .u64 a3_6, .int .u64 a3_7, .int .i64 a3_8], .agg #[.int .u64 a4_0, .int .u64 a4_1]] w fun e w' => ∃ v9_ : Value, e = .returned (.tuple #[.agg #[.bool r1, .bool r2, .int .u64 r3, .int .u64 r4, .int .u64 r5, .int .u64 r6, .int .u64 r7, .int .u64 r8, .int .i64 r9], v9_, .int .i64 r11]) ∧ Kd.R k45 45 w' w.heap.size (fun _ => True) v9_ r10 ∧ Below w.heap.size w w' := by
  obtain ⟨⟨x, y, z⟩, hg, he⟩ := bind_eq_some_iff.mp h
  simp only [some.injEq, Prod.mk.injEq] at he
  obtain ⟨rfl, rfl, rfl, rfl, rfl, rfl, rfl, rfl, rfl, rfl, rfl⟩ := he
  exact label_Key.go k l0 y (⟨a3_0, a3_1, ⟨a3_2, a3_3⟩, ⟨⟨a3_4, a3_5⟩, ⟨a3_6, a3_7⟩⟩, a3_8⟩ : S34) x a1 a2 a4_0 a4_1 z A0 c0 w hr0 hc0 hg
end Go.Proofs.Ytkleiaeihihjnaa.MP
