-- written by a program of this session (wip/tools/mprint.sh) for this seat
import Derived.Test.YtoljdfgkkkpnbaaMPx0
import Derived.Test.YtoljdfgkkkpnbaaMPx3
import Derived.Laws.StructEq
import Derived.ChangeKeysEq
namespace Go.Proofs.Ytoljdfgkkkpnbaa.MP
open Go.RowKit Go.Proofs.YtoljdfgkkkpnbaaW.PrintWords Go.Proofs.YtoljdfgkkkpnbaaW.PrintLast Go.Proofs.YtoljdfgkkkpnbaaW.PrintMore
open Option (bind_eq_some_iff some.injEq)
open _root_.Go.Proofs.Try
open List (setIfInBounds_toArray set_cons_zero set_cons_succ map_toArray map_cons map_nil length_drop length_take)
attribute [local go_sem] max2_int min2_int max_two min_two max_three min_three max_four min_four
set_option linter.unusedVariables false
set_option linter.unusedSimpArgs false
def bA4 (k n : Nat) : Array Bool := (Array.range n).map fun i => decide (i < k)
def head_put.l0 : Nat → List Int → Int → Int → Int → Option (List Int)
  | 0, _, _, _, _ => none
  | k + 1, x0, x1, x8, x9 => if x9 < x8 then (if 0 ≤ (wrap64 (8 * x9)) then (if x0.length < 140737488355328 then (head_put.l0 k (x0 ++ [(shr .u64 x1 (wrap64 (8 * x9))) % 256]) x1 x8 (wrap64 (x9 + 1))) else (none)) else (none)) else (some x0)
def head_put.f (k : Nat) (l0 : List Int) (a1 : Int) (a2 : Int) : Option (List Int) := head_put.l0 k l0 a1 a2 0
theorem head_put.mono_l : ∀ k, (∀ y0 y1 y2 y3, LeO (head_put.l0 k y0 y1 y2 y3) (head_put.l0 (k + 1) y0 y1 y2 y3))
  | 0 => fun _ _ _ _ r h => by simp [head_put.l0] at h
  | k + 1 => by
   have ih0 := head_put.mono_l k
   ·intro y0 y1 y2 y3
    unfold head_put.l0
    repeat' first | (with_reducible first | exact ih0 .. | exact LeO.refl _ | exact LeO.none _ | refine LeO.ite ?_ ?_ | refine LeO.bind ?_ (fun _ => ?_)) | exact ih0 .. | refine LeO.ite ?_ ?_ | refine LeO.bind ?_ (fun _ => ?_)
theorem head_put.mono : ∀ a0 a1 a2 k, LeO (head_put.f k a0 a1 a2) (head_put.f (k + 1) a0 a1 a2) := by
  intro a0 a1 a2 k
  have ih0 := head_put.mono_l k
  unfold head_put.f
  repeat' first | (with_reducible first | exact ih0 .. | exact LeO.refl _ | exact LeO.none _ | refine LeO.ite ?_ ?_ | refine LeO.bind ?_ (fun _ => ?_)) | exact ih0 .. | refine LeO.ite ?_ ?_ | refine LeO.bind ?_ (fun _ => ?_)
set_option maxHeartbeats 8000000 in
set_option maxRecDepth 100000 in
theorem head_put.calls (k : Nat) (P0_ : Nat → Prop) (u9000_ : Value) (l0 : List Int) (a1 : Int) (a2 : Int) (r : List Int) (w0 w : World) (hB : Below w0.heap.size w0 w) (ho0 : Kd.R (Kd.int .u8) 5 w w0.heap.size P0_ u9000_ l0) (h : head_put.f k l0 a1 a2 = some r) :
   Calls Try.prog 50 #[u9000_, .int .u64 a1, .int .i64 a2] w fun e w' => ∃ v0_ : Value, e = .returned (v0_) ∧ Kd.R (Kd.int .u8) 5 w' w0.heap.size (fun k_ => (P0_ k_ ∨ w.heap.size ≤ k_)) v0_ r ∧ Below w0.heap.size w0 w' ∧ Kept w w' (fun k_ => P0_ k_) := by
  have HO0 := ak_ (show Kd.R (Kd.int .u8) 5 w w0.heap.size (fun k_ => (P0_ k_ ∨ w.heap.size ≤ k_)) u9000_ l0 from Kd.R_mono ho0 (fun k_ hk => (.inl hk)))
  have HK := ak_ (Kept.refl w (fun k_ => P0_ k_))
  have HW0 := ak_ hB.size
  have HB := ak_ hB
  clear hB
  have H : (head_put.l0 k l0 a1 a2 0) = some r := h
  clear h
  have H' := ak_ H
  clear H
  go_enter func50, ntmps50
  go_wp2
  go_loopg [0, 9] k (fun kq v0 v9 w' => ∃ (x0_1 : List Int) (x9_1 : Int), v9 = .int .i64 x9_1 ∧ Aside0 (head_put.l0 kq x0_1 a1 a2 x9_1 = some r) ∧ Aside0 (kq ≤ k) ∧ Aside0 (Kd.R (Kd.int .u8) 5 w' w0.heap.size (fun k_ => (P0_ k_ ∨ w.heap.size ≤ k_)) v0 x0_1) ∧ Aside0 (Kept w w' (fun k_ => P0_ k_)) ∧ Aside0 (Below w0.heap.size w0 w'))
  case atStart => exact ⟨(l0), (0), rf_, H', ⟨Nat.le_refl _⟩, ⟨rl_ HO0⟩, ⟨by repeat (first | (with_reducible first | exact HK.out | apply Kept.alloc | apply Kept.drewN | apply Kept.drew) | exact HK.out)⟩, ⟨bl_ HB⟩⟩
  case round =>
   clear H'
   try clear p2
   obtain ⟨x0_1, x9_1, rfl, HA, HK1, HO_0, HK, HB⟩ := hrel
   cases gk with
   | zero => exact absurd HA.out (by simp [head_put.l0])
   | succ k1 =>
    have H := HA.out
    clear HA
    simp only [head_put.l0] at H
    by_cases c4 : x9_1 < a2
    ·rw [if_pos c4] at H
     have c4b0 := decide_eq_true c4
     clear c4
     obtain ⟨ji5, hji5⟩ : ∃ j_ : Int, (wrap64 (8 * x9_1)) = j_ := ⟨_, rfl⟩
     replace H : (if 0 ≤ (ji5) then (if x0_1.length < 140737488355328 then (head_put.l0 k1 (x0_1 ++ [(shr .u64 a1 (ji5)) % 256]) a1 a2 (wrap64 (x9_1 + 1))) else (none)) else (none)) = some r := by first | (rw [hji5] at H; exact H) | (simp only [hji5] at H ⊢; exact H)
     have hji5w : (IntKind.i64.wrap (8 * x9_1)) = ji5 := (i64_w _).trans hji5
     by_cases c6 : 0 ≤ (ji5)
     ·rw [if_pos c6] at H
      have c6b0 := eq_true c6
      have c6b1 := decide_eq_true c6
      clear c6
      obtain ⟨ji7, hji7⟩ : ∃ j_ : Int, (shr .u64 a1 (ji5)) = j_ := ⟨_, rfl⟩
      replace H : (if x0_1.length < 140737488355328 then (head_put.l0 k1 (x0_1 ++ [(ji7) % 256]) a1 a2 (wrap64 (x9_1 + 1))) else (none)) = some r := by first | (rw [hji7] at H; exact H) | (simp only [hji7] at H ⊢; exact H)
      have hji7_ : (a1 / 2 ^ min (ji5).toNat 64) = ji7 := hji7
      have hji7z : (ji5) ≤ 64 → (a1 / 2 ^ (ji5).toNat) = ji7 := shr_small hji7
      by_cases c8 : x0_1.length < 140737488355328
      ·rw [if_pos c8] at H
       have LMc8 := ak_ c8
       clear c8
       obtain ⟨y163, hy163⟩ : ∃ y_ : List Int, y_ = (x0_1 ++ [(ji7) % 256]) := ⟨_, rfl⟩
       replace H : (head_put.l0 k1 y163 a1 a2 (wrap64 (x9_1 + 1))) = some r := by first | (rw [hy163]; with_reducible exact H) | (have H2_ := (Option.bind_some _ _).symm.trans H; rw [hy163]; with_reducible exact H2_) | (have H2_ := (Option.bind_some _ _).symm.trans H; with_reducible exact H2_) | with_reducible exact H | (rw [hy163]; exact H) | exact H
       have Ny163 := ak_ hy163
       clear hy163
       have H' := ak_ H
       clear H
       go_wp2_with (first | ((with_reducible refine gate_builtin (b := .append) (xs := #[.tmp 12, .tmp 18]) rfl ?_); at_builtin; refine Kd.R_append (Kd.int .u8) (w0 := w0) w0.heap.size rfl (.tmp 12) (.tmp 18) 35 5 (.int .u8 0) 1 rfl underlying35 info5 rfl (by decide) (by omega) u0 x0_1 ((ji7) % 256) [.int .u8 ((ji7) % 256)] (fun k_ => (P0_ k_ ∨ w.heap.size ≤ k_)) (fun _ => False) rfl rfl ?aP (fun _ hk => hk.elim) ?aF ?aO ?aB ?aS ?aL ?_; (case aP => exact rfl); (case aB => exact (bl_ HB)); (case aF => exact (fun k_ hk => (.inr (Nat.le_trans (by first | exact HK.out.1 | exact (show Kept w _ (fun k_ => P0_ k_) from by repeat (first | (with_reducible first | exact HK.out | apply Kept.alloc | apply Kept.drewN | apply Kept.drew) | exact HK.out)).1) hk)))); (case aO => exact (rl_ HO_0)); (case aS => exact (bz_ (bl_ HB))); (case aL => have := LMc8.out; omega); intro v164 w9 ho hb hg hat; rw [← Ny163.out] at ho; replace HB := ak_ hb; replace HK := ak_ (Kept.of_grown (S := (fun k_ => P0_ k_)) hg (by repeat (first | (with_reducible first | exact HK.out | apply Kept.alloc | apply Kept.drewN | apply Kept.drew) | exact HK.out)) (fun k_ e_ => (HO_0.out.1 k_ e_))); have HO165 := ak_ ho; clear HO_0; clear ho hb hg hat))
       go_roundg k1
       case measure => have := HK1.out; omega
       case rel => exact ⟨(y163), (wrap64 (x9_1 + 1)), rf_, H', ⟨by have := HK1.out; omega⟩, ⟨rl_ HO165⟩, ⟨by repeat (first | (with_reducible first | exact HK.out | apply Kept.alloc | apply Kept.drewN | apply Kept.drew) | exact HK.out)⟩, ⟨bl_ HB⟩⟩
      ·rw [if_neg c8] at H
       exact absurd H (by simp)
     ·rw [if_neg c6] at H
      exact absurd H (by simp)
    ·rw [if_neg c4] at H
     have c4b0 := decide_eq_false c4
     clear c4
     obtain rfl := Option.some.inj H
     go_wp2
     go_ret
     exact ⟨_, by first | rfl | (simp <;> rfl) | (simp [*] <;> rfl), by (with_reducible repeat (first | apply Kd.R_alloc | apply Kd.R_drewN | apply Kd.R_drew)); exact HO_0.out, bl_ HB, by repeat (first | (with_reducible first | exact HK.out | apply Kept.alloc | apply Kept.drewN | apply Kept.drew) | exact HK.out)⟩
theorem arr_C2 {w : World} {g : Nat} {t : TypeId} {a b : Int} (h : w.heap[g]? = some (.cells #[.int .u64 a, .int .u64 b] t (0, 0))) : Kd.C (Kd.int .u64) w (some ⟨g, 0, none⟩) 2 [a, b] := by
  refine ⟨rfl, by decide, fun _ => ⟨_, rfl, fun j p hj => ?_⟩⟩
  have hs : (Kd.int .u64).sz = 1 := rfl
  rw [hs]
  match j, hj with
  | 0, hj =>
   obtain rfl : a = p := by simpa using hj
   exact ⟨[.int .u64 a], rfl, rfl, fun i u hu => by
    match i, hu with
    | 0, hu => rw [Addr.add_lit]; exact ((kc_ h 0).trans rfl).trans (by simpa using hu)
    | i + 1, hu => simp at hu⟩
  | 1, hj =>
   obtain rfl : b = p := by simpa using hj
   exact ⟨[.int .u64 b], rfl, rfl, fun i u hu => by
    match i, hu with
    | 0, hu => rw [Addr.add_lit]; exact ((kc_ h 1).trans rfl).trans (by simpa using hu)
    | i + 1, hu => simp at hu⟩
  | j + 2, hj => simp at hj
theorem arr_index2 {P : Program} {t e : TypeId} (hu : P.underlying t = some (.array 2 e)) (hg : P.plainKey e = true) (hs : P.cellsOf e = 1) (a b i : Int) (h0 : 0 ≤ i) (h1 : i < 2) (w : World) :
   (Instr.index t (.agg #[.int .u64 a, .int .u64 b]) (.int .i64 i)).run P w = .ok (.int .u64 (rd [a, b] i)) w := by
  obtain ⟨q, hq⟩ : ∃ q, P.info? e = some q := by
   unfold Program.plainKey at hg
   cases hu : P.underlying e with
   | none => simp [hu] at hg
   | some d => exact info_of_underlying hu
  have z := run_sizeOf w hq
  rw [hs] at z
  rcases (show i = 0 ∨ i = 1 by omega) with rfl | rfl
  ·have p0 := run_part_plain w hg (xs := #[.int .u64 a, .int .u64 b]) (off := 0) (v := .int .u64 a) rfl
   simp [Instr.index, run_underlying hu, asIntOf, z, p0, rd]
  ·have p1 := run_part_plain w hg (xs := #[.int .u64 a, .int .u64 b]) (off := 1) (v := .int .u64 b) rfl
   simp [Instr.index, run_underlying hu, asIntOf, z, p1, rd]
def mix_Octets.l0 : Nat → List Int → List Int → Int → Int → Option (List Int)
  | 0, _, _, _, _ => none
  | k + 1, x1, x3, x7, x8 => if x8 < x7 then (if 0 ≤ (wrap64 (Int.tdiv x8 8)) then (if (wrap64 (Int.tdiv x8 8)) < 2 then (if 0 ≤ (wrap64 ((Int.tmod x8 8) * 8)) then (if 0 ≤ x8 then (if x8 < (x3.length : Int) then (mix_Octets.l0 k x1 (x3.set (x8 : Int).toNat ((shr .u64 (rd x1 (wrap64 (Int.tdiv x8 8))) (wrap64 ((Int.tmod x8 8) * 8))) % 256)) x7 (wrap64 (x8 + 1))) else (none)) else (none)) else (none)) else (none)) else (none)) else (some x3)
def mix_Octets.g (k : Nat) (l0 : List Int) : Option (List Int) := if 16 ≤ 281474976710656 then ((some (List.replicate 16 0 : List Int)).bind fun y166 => (mix_Octets.l0 k l0 y166 (y166.length : Int) 0)) else (none)
def mix_Octets.f (k : Nat) (a0_0 : Int) (a0_1 : Int) : Option (List Int) := mix_Octets.g k [a0_0, a0_1]
theorem mix_Octets.mono_l : ∀ k, (∀ y0 y1 y2 y3, LeO (mix_Octets.l0 k y0 y1 y2 y3) (mix_Octets.l0 (k + 1) y0 y1 y2 y3))
  | 0 => fun _ _ _ _ r h => by simp [mix_Octets.l0] at h
  | k + 1 => by
   have ih0 := mix_Octets.mono_l k
   ·intro y0 y1 y2 y3
    unfold mix_Octets.l0
    repeat' first | (with_reducible first | exact ih0 .. | exact LeO.refl _ | exact LeO.none _ | refine LeO.ite ?_ ?_ | refine LeO.bind ?_ (fun _ => ?_)) | exact ih0 .. | refine LeO.ite ?_ ?_ | refine LeO.bind ?_ (fun _ => ?_)
theorem mix_Octets.mono : ∀ a0 a1 k, LeO (mix_Octets.f k a0 a1) (mix_Octets.f (k + 1) a0 a1) := by
  intro a0 a1 k
  have ih0 := mix_Octets.mono_l k
  unfold mix_Octets.f mix_Octets.g
  repeat' first | (with_reducible first | exact ih0 .. | exact LeO.refl _ | exact LeO.none _ | refine LeO.ite ?_ ?_ | refine LeO.bind ?_ (fun _ => ?_)) | exact ih0 .. | refine LeO.ite ?_ ?_ | refine LeO.bind ?_ (fun _ => ?_)
set_option maxHeartbeats 8000000 in
set_option maxRecDepth 100000 in
theorem mix_Octets.calls (k : Nat) (a0_0 : Int) (a0_1 : Int) (r : List Int) (w : World) (h : mix_Octets.f k a0_0 a0_1 = some r) :
   Calls Try.prog 75 #[.agg #[.int .u64 a0_0, .int .u64 a0_1]] w fun e w' => ∃ v0_ : Value, e = .returned (v0_) ∧ Kd.R (Kd.int .u8) 5 w' w.heap.size (fun _ => True) v0_ r ∧ Below w.heap.size w w' := by
  have hu_b := underlying25
  have H : (if 16 ≤ 281474976710656 then ((some (List.replicate 16 0 : List Int)).bind fun y166 => (mix_Octets.l0 k [a0_0, a0_1] y166 (y166.length : Int) 0)) else (none)) = some r := h
  clear h
  by_cases c2 : 16 ≤ 281474976710656
  ·rw [if_pos c2] at H
   have c2b0 := eq_true c2
   have c2b1 := decide_eq_true c2
   clear c2
   obtain ⟨y166, hy166⟩ : ∃ y_ : List Int, y_ = (List.replicate 16 0) := ⟨_, rfl⟩
   replace H : (mix_Octets.l0 k [a0_0, a0_1] y166 (y166.length : Int) 0) = some r := by first | (rw [hy166]; with_reducible exact H) | (have H2_ := (Option.bind_some _ _).symm.trans H; rw [hy166]; with_reducible exact H2_) | (have H2_ := (Option.bind_some _ _).symm.trans H; with_reducible exact H2_) | with_reducible exact H | (rw [hy166]; exact H) | exact H
   have Ny166 := ak_ hy166
   clear hy166
   have H' := ak_ H
   clear H
   go_enter func75, ntmps75
   go_wp2_with (first | ((with_reducible refine gate_dst (N := 1) rfl ?_); refine bx_ 1 #[.int .u64 a0_0, .int .u64 a0_1] 25 ?_; intro gb0 hg wq hbox hb; have BX := ak_ hb; have HR0 := ak_ (arr_C2 hbox); clear hb hbox hg; have HB := ak_ (Below.refl wq.heap.size wq)) | ((with_reducible refine gate_dst (N := 5) rfl ?_); refine Kd.R_make (Kd.int .u8) _ 5 rfl (N := 5) rfl 35 _ _ rfl 16 rfl rfl underlying35 (.int .u8 0) 1 info5 rfl (by decide) (by omega) 0 (ok := fun _ => True) (okp := fun _ => True) rfl (fun _ hk => hk) trivial (by omega) (by omega) (Below.refl _ _) (Nat.le_refl _) ?_; intro v167 w3 ho4 hb hg_ hnew_; clear hg_ hnew_; (first | rw [← Ny166.out] at ho4 | (simp only [Int.reduceToNat] at ho4; rw [← Ny166.out] at ho4)); have HO168 := ak_ (Kd.R_lower ho4 (bz_ (bl_ HB))); replace HB := ak_ (bt_ (bl_ HB) hb); clear hb ho4; obtain ⟨Ao5, co5, eo5⟩ := Kd.R_slice HO168.out; subst eo5))
   go_loopg [8] k (fun kq v8 wq' => ∃ (x3_1 : List Int) (x8_1 : Int), v8 = .int .i64 x8_1 ∧ Aside0 (mix_Octets.l0 kq [a0_0, a0_1] x3_1 (y166.length : Int) x8_1 = some r) ∧ Aside0 (kq ≤ k) ∧ Aside0 (Kd.R (Kd.int .u8) 5 wq' wq.heap.size (fun _ => True) (.slice Ao5 y166.length co5) x3_1) ∧ Aside0 (Below wq.heap.size wq wq'))
   case atStart => exact ⟨(y166), (0), rf_, H', ⟨Nat.le_refl _⟩, ⟨rl_ HO168⟩, ⟨bl_ HB⟩⟩
   case round =>
    clear H'
    try clear c2
    try clear c2b0
    try clear c2b1
    try clear p2
    obtain ⟨x3_1, x8_1, rfl, HA, HK1, HO_3, HB⟩ := hrel
    have hl3_1 := (Kd.R_reads' HO_3.out).1
    rw [hl3_1] at HO_3
    (try simp only [hl3_1])
    cases gk with
    | zero => exact absurd HA.out (by simp [mix_Octets.l0])
    | succ k1 =>
     have H := HA.out
     clear HA
     simp only [mix_Octets.l0] at H
     by_cases c6 : x8_1 < (y166.length : Int)
     ·rw [if_pos c6] at H
      have c6b0 := decide_eq_true c6
      clear c6
      obtain ⟨ji7, hji7⟩ : ∃ j_ : Int, (wrap64 (Int.tdiv x8_1 8)) = j_ := ⟨_, rfl⟩
      replace H : (if 0 ≤ (ji7) then (if (ji7) < 2 then (if 0 ≤ (wrap64 ((Int.tmod x8_1 8) * 8)) then (if 0 ≤ x8_1 then (if x8_1 < (x3_1.length : Int) then (mix_Octets.l0 k1 [a0_0, a0_1] (x3_1.set (x8_1 : Int).toNat ((shr .u64 (rd [a0_0, a0_1] (ji7)) (wrap64 ((Int.tmod x8_1 8) * 8))) % 256)) (y166.length : Int) (wrap64 (x8_1 + 1))) else (none)) else (none)) else (none)) else (none)) else (none)) = some r := by first | (rw [hji7] at H; exact H) | (simp only [hji7] at H ⊢; exact H)
      have hji7w : (IntKind.i64.wrap (Int.tdiv x8_1 8)) = ji7 := (i64_w _).trans hji7
      by_cases c8 : 0 ≤ (ji7)
      ·rw [if_pos c8] at H
       have c8b0 := decide_eq_true c8
       clear c8
       by_cases c9 : (ji7) < 2
       ·rw [if_pos c9] at H
        have c9b0 := decide_eq_true c9
        clear c9
        obtain ⟨ji10, hji10⟩ : ∃ j_ : Int, (wrap64 ((Int.tmod x8_1 8) * 8)) = j_ := ⟨_, rfl⟩
        replace H : (if 0 ≤ (ji10) then (if 0 ≤ x8_1 then (if x8_1 < (x3_1.length : Int) then (mix_Octets.l0 k1 [a0_0, a0_1] (x3_1.set (x8_1 : Int).toNat ((shr .u64 (rd [a0_0, a0_1] (ji7)) (ji10)) % 256)) (y166.length : Int) (wrap64 (x8_1 + 1))) else (none)) else (none)) else (none)) = some r := by first | (rw [hji10] at H; exact H) | (simp only [hji10] at H ⊢; exact H)
        have hji10w : (IntKind.i64.wrap ((Int.tmod x8_1 8) * 8)) = ji10 := (i64_w _).trans hji10
        by_cases c11 : 0 ≤ (ji10)
        ·rw [if_pos c11] at H
         have c11b0 := eq_true c11
         have c11b1 := decide_eq_true c11
         clear c11
         obtain ⟨ji12, hji12⟩ : ∃ j_ : Int, (shr .u64 (rd [a0_0, a0_1] (ji7)) (ji10)) = j_ := ⟨_, rfl⟩
         replace H : (if 0 ≤ x8_1 then (if x8_1 < (x3_1.length : Int) then (mix_Octets.l0 k1 [a0_0, a0_1] (x3_1.set (x8_1 : Int).toNat ((ji12) % 256)) (y166.length : Int) (wrap64 (x8_1 + 1))) else (none)) else (none)) = some r := by first | (rw [hji12] at H; exact H) | (simp only [hji12] at H ⊢; exact H)
         have hji12_ : ((rd [a0_0, a0_1] (ji7)) / 2 ^ min (ji10).toNat 64) = ji12 := hji12
         have hji12z : (ji10) ≤ 64 → ((rd [a0_0, a0_1] (ji7)) / 2 ^ (ji10).toNat) = ji12 := shr_small hji12
         by_cases c13 : 0 ≤ x8_1
         ·rw [if_pos c13] at H
          have c13b0 := decide_eq_true c13
          clear c13
          by_cases c14 : x8_1 < (x3_1.length : Int)
          ·rw [if_pos c14] at H
           have c14b0 := decide_eq_true c14
           clear c14
           obtain ⟨y170, hy170⟩ : ∃ y_ : List Int, y_ = (x3_1.set (x8_1 : Int).toNat ((ji12) % 256)) := ⟨_, rfl⟩
           replace H : (mix_Octets.l0 k1 [a0_0, a0_1] y170 (y166.length : Int) (wrap64 (x8_1 + 1))) = some r := by first | (rw [hy170]; with_reducible exact H) | (have H2_ := (Option.bind_some _ _).symm.trans H; rw [hy170]; with_reducible exact H2_) | (have H2_ := (Option.bind_some _ _).symm.trans H; with_reducible exact H2_) | with_reducible exact H | (rw [hy170]; exact H) | exact H
           have Ny170 := ak_ hy170
           clear hy170
           have H' := ak_ H
           clear H
           have p169 : 0 ≤ ((ji7) : Int) := od_ (by first | (with_reducible assumption) | assumption)
           have q169 : (ji7) < 2 := od_ (by first | (with_reducible assumption) | assumption)
           obtain ⟨ad169, e169, hx169_0⟩ := Kd.at_int HR0.out (ji7) p169 (show (ji7 : Int) < ((2 : Nat) : Int) from q169)
           cases e169
           replace hx169_0 := (HB.out.cell (World.block_lt_of_cell? wq _ hx169_0)).trans hx169_0
           have hx169_z := hx169_0
           rw [Addr.add_lit, Nat.zero_add] at hx169_z
           replace p169 := eq_true p169
           replace q169 := eq_true q169
           have p15 : 0 ≤ (x8_1 : Int) := od_ (by first | (with_reducible assumption) | assumption)
           have q15 : (x8_1 : Int) < ((x3_1.length : Int) : Int) := od_ (by first | (with_reducible assumption) | assumption)
           obtain ⟨go15, co15, eo15, gb15, gl15, cl15, HG15⟩ := Kd.R_form HO_3.out (by omega)
           (first | cases eo15 | (injection eo15 with ea_ en_ ec_; (first | subst ea_ | (injection ea_ with ea_; subst ea_)); subst ec_; clear en_))
           have GB15 := ak_ gb15
           have GG15 := ak_ HG15
           clear gb15 gl15 HG15
           obtain ⟨hx15_0, hf15_0⟩ := Kd.R_celln 0 HO_3.out (x8_1 : Int) p15 q15
           replace p15 := eq_true p15
           replace q15 := eq_true q15
           have HP16 := Kd.R_putg HO_3.out (x8_1 : Int) ((ji12) % 256)
           go_wp2_with (first | ((with_reducible refine gate_store (t := 5) (p := 22) rfl ?_); refine store_event (t := 5) (p := 22) (v := ?vo_w17) (w1 := (wr.setCell ⟨go15, (x8_1 : Int).toNat, none⟩ (.int .u8 ((ji12) % 256)))) ?hg ?ho ?hn ?hr ?_; (case ho => rfl); (case hg => rfl); (case hn => rfl); (case hr => first | (go_simp; done) | (go_simp; rfl)); intro w17 hw; have hg : wr.grownBy w17 (some go15) := (by rw [hw]; exact HP16.2); have hp_ : Kd.R (Kd.int .u8) 5 w17 wq.heap.size (fun _ => True) (.slice (some ⟨go15, 0, none⟩) x3_1.length co5) y170 := (by rw [hw, Ny170.out]; exact HP16.1); clear HP16; replace HO_3 := ak_ hp_; replace HB := ak_ (by rw [hw]; exact below_set (HB.out) GB15.out : Below wq.heap.size wq w17); clear hg hw hp_))
           (try simp only [← hl3_1])
           go_roundg k1
           case measure => have := HK1.out; omega
           case rel => exact ⟨(y170), (wrap64 (x8_1 + 1)), rf_, H', ⟨by have := HK1.out; omega⟩, ⟨by (try simp only [hl3_1]); (with_reducible repeat (first | apply Kd.R_alloc | apply Kd.R_drewN | apply Kd.R_drew)); exact HO_3.out⟩, ⟨bl_ HB⟩⟩
          ·rw [if_neg c14] at H
           exact absurd H (by simp)
         ·rw [if_neg c13] at H
          exact absurd H (by simp)
        ·rw [if_neg c11] at H
         exact absurd H (by simp)
       ·rw [if_neg c9] at H
        exact absurd H (by simp)
      ·rw [if_neg c8] at H
       exact absurd H (by simp)
     ·rw [if_neg c6] at H
      have c6b0 := decide_eq_false c6
      rw [hl3_1] at c6b0
      clear c6
      obtain rfl := Option.some.inj H
      go_wp2
      go_ret
      exact ⟨_, by first | rfl | (simp [*]; done), Kd.R_lower (rl_ HO_3) BX.out.size, bt_ BX.out (bl_ HB)⟩
  ·rw [if_neg c2] at H
   exact absurd H (by simp)
def seal_Octets.f (k : Nat) (a0_0 : Int) (a0_1 : Int) (a0_2 : Int) (a0_3 : Int) : Option (List Int) := (mix_Octets.f k a0_0 a0_1).bind fun t172 => ((mix_Octets.f k a0_2 a0_3).bind fun t175 => (if t172.length + t175.length < 140737488355328 then (some (t172 ++ t175)) else (none)))
theorem seal_Octets.mono : ∀ a0 a1 a2 a3 k, LeO (seal_Octets.f k a0 a1 a2 a3) (seal_Octets.f (k + 1) a0 a1 a2 a3) := by
  intro a0 a1 a2 a3 k
  unfold seal_Octets.f
  repeat' first | (with_reducible first | exact mix_Octets.mono .. | exact LeO.refl _ | exact LeO.none _ | refine LeO.ite ?_ ?_ | refine LeO.bind ?_ (fun _ => ?_)) | exact mix_Octets.mono .. | refine LeO.ite ?_ ?_ | refine LeO.bind ?_ (fun _ => ?_)
def seal_Octets.T1 : Bool × List (List Nat × List Nat) := (true, [([], []), ([0], [0]), ([1], [1]), ([], []), ([3], [3]), ([4, 2], [4]), ([2, 5, 5], [2, 5]), ([6, 6, 0, 1, 2, 3, 4, 5, 6], [6])])
def seal_Octets.B1 : List Nat := [0, 1, 3, 0, 8, 31, 63, 127]
theorem seal_Octets.tab1 : rtab .any (opsOf Try.f51 1) = seal_Octets.T1 := by kernel_rfl
theorem seal_Octets.bits1 : waitsOk seal_Octets.T1.2 seal_Octets.B1 = true := by kernel_rfl
set_option maxHeartbeats 8000000 in
set_option maxRecDepth 100000 in
theorem seal_Octets.calls (k : Nat) (a0_0 : Int) (a0_1 : Int) (a0_2 : Int) (a0_3 : Int) (r : List Int) (w : World) (h : seal_Octets.f k a0_0 a0_1 a0_2 a0_3 = some r) :
   Calls Try.prog 51 #[.agg #[.int .u64 a0_0, .int .u64 a0_1, .int .u64 a0_2, .int .u64 a0_3]] w fun e w' => ∃ v0_ : Value, e = .returned (v0_) ∧ Kd.R (Kd.int .u8) 5 w' w.heap.size (fun _ => True) v0_ r ∧ Below w.heap.size w w' := by
  have hu27 := underlying27
  have hu25 := underlying25
  have HB := ak_ (Below.refl w.heap.size w)
  have H : ((mix_Octets.f k a0_0 a0_1).bind fun t172 => ((mix_Octets.f k a0_2 a0_3).bind fun t175 => (if t172.length + t175.length < 140737488355328 then (some (t172 ++ t175)) else (none)))) = some r := h
  clear h
  replace H := bind_eq_some_iff.mp H
  obtain ⟨t172, A20, H⟩ := H
  replace H : ((mix_Octets.f k a0_2 a0_3).bind fun t175 => (if t172.length + t175.length < 140737488355328 then (some (t172 ++ t175)) else (none))) = some r := H
  have A2 := ak_ A20
  clear A20
  replace H := bind_eq_some_iff.mp H
  obtain ⟨t175, A30, H⟩ := H
  replace H : (if t172.length + t175.length < 140737488355328 then (some (t172 ++ t175)) else (none)) = some r := H
  have A3 := ak_ A30
  clear A30
  by_cases c4 : t172.length + t175.length < 140737488355328
  ·rw [if_pos c4] at H
   have LMc4 := ak_ c4
   clear c4
   obtain ⟨y178, hy178⟩ : ∃ y_ : List Int, y_ = (t172 ++ t175) := ⟨_, rfl⟩
   replace H : (some y178) = some r := by first | (rw [hy178]; with_reducible exact H) | (have H2_ := (Option.bind_some _ _).symm.trans H; rw [hy178]; with_reducible exact H2_) | (have H2_ := (Option.bind_some _ _).symm.trans H; with_reducible exact H2_) | with_reducible exact H | (rw [hy178]; exact H) | exact H
   have Ny178 := ak_ hy178
   clear hy178
   obtain rfl := Option.some.inj H
   go_enter func51, ntmps51
   try go_wp2_with (first | ((with_reducible refine gate_dst (N := 1) rfl ?_); refine bx_ 1 #[.int .u64 a0_0, .int .u64 a0_1, .int .u64 a0_2, .int .u64 a0_3] 27 ?_; intro gb171 hg w5 hbox hb; have BK171 := ak_ hbox; have GW171 := ak_ (gs_ hg HB); have GE171 := ak_ (gs_ hg HB); replace HB := ak_ (bt_ (bl_ HB) hb); clear hb hbox hg))
   replace BK171 := ak_ (kd_ BK171.out)
   replace HB := ak_ (bd_ HB.out)
   refine start_ (n := 8) (S := fun w' => w'.cell? ⟨gb171, 0, none⟩ = some (.int .u64 a0_0) ∧ w'.cell? ⟨gb171, 1, none⟩ = some (.int .u64 a0_1) ∧ w'.cell? ⟨gb171, 2, none⟩ = some (.int .u64 a0_2) ∧ w'.cell? ⟨gb171, 3, none⟩ = some (.int .u64 a0_3)) (ds := []) #[false, false, false, false, false, false, false, false] (by kernel_rfl) rfl rfl ⟨kq_ BK171.out 0 rfl, kq_ BK171.out 1 rfl, kq_ BK171.out 2 rfl, kq_ BK171.out 3 rfl⟩ (fun hHeld => ?_); refine with_tabW seal_Octets.tab1 seal_Octets.bits1 (fun HT_ HW_ => ?_)
   generalize w5.drew = w6 at BK171 HB hHeld ⊢
   refine pu_ HT_ 0 (some 3) #[true, false, false, false, false, false, false, false] ?_
   refine pu_ HT_ 3 (some 6) #[true, false, false, true, false, false, false, false] ?_
   refine tk_ HT_ HW_ hHeld 1 (some 4) #[true, true, false, true, false, false, false, false] rfl (by rintro w' ⟨s0, s1, s2, s3⟩; go_simp; with_reducible rfl) ?_
   refine tk_ HT_ HW_ hHeld 4 (some 7) #[true, true, false, true, true, false, false, false] rfl (by rintro w' ⟨s0, s1, s2, s3⟩; go_simp; with_reducible rfl) ?_
   refine one_ (i := 2) (N := some 5) #[true, true, true, true, true, false, false, false] rfl rfl (one_of HT_.out (by kernel_rfl)) (by decide) (fun K hK => ?_)
   refine gg_ func75 #[.agg #[.int .u64 a0_0, .int .u64 a0_1]] ?_
   with_reducible refine (mix_Octets.calls k a0_0 a0_1 t172 _ A2.out).mono ?_
   rintro e w7 ⟨v173, rfl, ho0, hb⟩
   refine ⟨_, rfl, ?_⟩
   have HO174 := ak_ (Kd.R_lower ho0 (bz_ (bw1_ HB GE171)))
   replace BK171 := ak_ (kb_ (kl_ BK171) hb)
   replace HB := ak_ (bt_ (bw1_ HB GE171) hb)
   (try clear hb)
   (try clear hb2)
   (try clear hk)
   (try clear hi)
   (try clear ho0)
   refine hK.out _ _ ⟨kq_ BK171.out 0 rfl, kq_ BK171.out 1 rfl, kq_ BK171.out 2 rfl, kq_ BK171.out 3 rfl⟩ (fun hHeld => ?_)
   clear hK K
   refine norm_ (a' := ?_) ?_ ?_
   rotate_left
   ·show Act.put _ (some 5) _ = _
    simp only [Act.put, setIfInBounds_toArray, set_cons_zero, set_cons_succ, i64_w, i32_w]
    rfl
   refine one_ (i := 5) (N := some 8) #[true, true, true, true, true, true, false, false] rfl rfl (one_of HT_.out (by kernel_rfl)) (by decide) (fun K hK => ?_)
   refine gg_ func75 #[.agg #[.int .u64 a0_2, .int .u64 a0_3]] ?_
   with_reducible refine (mix_Octets.calls k a0_2 a0_3 t175 _ A3.out).mono ?_
   rintro e w8 ⟨v176, rfl, ho0, hb⟩
   refine ⟨_, rfl, ?_⟩
   have HO177 := ak_ (Kd.R_lower (Kd.R_new' ho0 (Kd.R_lt (rl_ HO174))) (bz_ (bw1_ HB GE171)))
   replace HO174 := ak_ (Kd.R_elder' (rl_ HO174) (Kd.R_base ho0) hb)
   replace BK171 := ak_ (kb_ (kl_ BK171) hb)
   replace HB := ak_ (bt_ (bw1_ HB GE171) hb)
   (try clear hb)
   (try clear hb2)
   (try clear hk)
   (try clear hi)
   (try clear ho0)
   obtain ⟨Ao10, co10, eo10⟩ := Kd.R_slice HO177.out
   (first | subst eo10 | (injection eo10 with f1_ f2_ f3_; have f4_ := f1_.symm; have f5_ := f3_.symm; clear f1_ f2_ f3_; subst f4_; subst f5_))
   refine hK.out _ _ ⟨kq_ BK171.out 0 rfl, kq_ BK171.out 1 rfl, kq_ BK171.out 2 rfl, kq_ BK171.out 3 rfl⟩ (fun hHeld => ?_)
   clear hK K
   refine norm_ (a' := ?_) ?_ ?_
   rotate_left
   ·show Act.put _ (some 8) _ = _
    simp only [Act.put, setIfInBounds_toArray, set_cons_zero, set_cons_succ, i64_w, i32_w]
    rfl
   refine one_ (i := 6) (N := some 9) #[true, true, true, true, true, true, true, false] rfl rfl (one_of HT_.out (by kernel_rfl)) (by decide) (fun K hK => ?_)
   refine Kd.R_append_rows_step (Kd.int .u8) (w0 := w) w.heap.size (by rfl) (.tmp 5) (.tmp 8) 35 5 (.int .u8 0) 1 rfl underlying35 info5 rfl (by decide) (by omega) v173 t172 t175 _ _ _ (fun k_ => some k_ ≠ (.slice Ao10 t175.length co10 : Value).ownBlock) (fun _ => False) rfl rfl ?aO ?aR (fun _ _ h => h) (fun _ h => h.elim) ?aF ?aB ?aS ?aL ?_
   (case aR => repeat (first | exact (Kd.R_reads' HO177.out).2.2 | (with_reducible refine Kd.C_alloc ?_ _) | (with_reducible refine Kd.C_drewN ?_ _) | (with_reducible refine Kd.C_drew ?_)))
   (case aB => exact (bw1_ HB GE171))
   (case aF => exact (fun k_ hk => Kd.fresh' (Kd.R_lt (rl_ HO177)) k_ hk))
   (case aO => exact (by (with_reducible repeat (first | apply Kd.R_alloc | apply Kd.R_drewN | apply Kd.R_drew)); exact Kd.R_mono HO174.out (fun _ hk => hk.2)))
   (case aS => exact (bz_ (bw1_ HB GE171)))
   (case aL => have := LMc4.out; omega)
   intro v179 w9 ho hb hg hat
   rw [← Ny178.out] at ho
   replace BK171 := ak_ (blk_grown (g := gb171) (o := .cells #[.int .u64 a0_0, .int .u64 a0_1, .int .u64 a0_2, .int .u64 a0_3] 27 (0, 0)) (kl_ BK171) hg (Kd.R_ne HO174.out BK171.out (by decide)))
   replace HO177 := ak_ (Kd.R_after (ok := (fun _ => True)) (rl_ HO177) hg hat)
   replace HB := ak_ hb
   have HO180 := ak_ ho
   clear HO174
   clear ho hb hg hat
   refine hK.out _ _ ⟨kq_ BK171.out 0 rfl, kq_ BK171.out 1 rfl, kq_ BK171.out 2 rfl, kq_ BK171.out 3 rfl⟩ (fun hHeld => ?_)
   clear hK K
   refine norm_ (a' := ?_) ?_ ?_
   rotate_left
   ·show Act.put _ (some 9) _ = _
    simp only [Act.put, setIfInBounds_toArray, set_cons_zero, set_cons_succ, i64_w, i32_w]
    rfl
   refine pu_ HT_ 7 (some 2) #[true, true, true, true, true, true, true, true] ?_
   refine done_ (done_of HT_.out (by kernel_rfl)) ?_
   try go_wp2
   go_ret
   exact ⟨_, by first | rfl | (simp <;> rfl) | (simp [*] <;> rfl), by (with_reducible repeat (first | apply Kd.R_alloc | apply Kd.R_drewN | apply Kd.R_drew)); exact Kd.R_mono HO180.out (fun _ hk => trivial), bw1_ HB GE171⟩
  ·rw [if_neg c4] at H
   exact absurd H (by simp)
def head_Bytes.l0 : Nat → List Int → List (S41) → Int → Int → Int → Int → Int → List (S41) → Bool → Bool → Int → Int → Int → Int → Int → Int → Int → Option (List Int × Int)
  | 0, _, _, _, _, _, _, _, _, _, _, _, _, _, _, _, _, _ => none
  | k + 1, x5, x31, x32, x33, x182000, x182001, x182002, x182003, x182004, x182005, x182006, x182007, x182008, x182009, x182010, x182011, x182012 => if x33 < x32 then (if 0 ≤ x33 then (if x33 < (x31.length : Int) then ((head_put.f k x5 ((rd_T41 x31 x33).f0.f0) 8).bind fun t194 => ((head_put.f k t194 ((rd_T41 x31 x33).f0.f1) 8).bind fun t197 => ((seal_Octets.f k ((rd_T41 x31 x33).f1.f3.f0.f0) ((rd_T41 x31 x33).f1.f3.f0.f1) ((rd_T41 x31 x33).f1.f3.f1.f0) ((rd_T41 x31 x33).f1.f3.f1.f1)).bind fun t200 => (if t197.length + t200.length < 140737488355328 then (head_Bytes.l0 k (t197 ++ t200) x31 x32 (wrap64 (x33 + 1)) x182000 x182001 x182002 x182003 x182004 x182005 x182006 x182007 x182008 x182009 x182010 x182011 x182012) else (none))))) else (none)) else (none)) else ((seal_Octets.f k x182008 x182009 x182010 x182011).bind fun t206 => (if x5.length + t206.length < 140737488355328 then (some ((x5 ++ t206), 0)) else (none)))
def head_Bytes.f (k : Nat) (a0_0 : Int) (a0_1 : Int) (a0_2 : Int) (l0_3 : List (S41)) (a0_4 : Bool) (a0_5 : Bool) (a0_6 : Int) (a0_7 : Int) (a0_8 : Int) (a0_9 : Int) (a0_10 : Int) (a0_11 : Int) (a0_12 : Int) : Option (List Int × Int) := (head_Check.f k a0_0 a0_1 a0_2 l0_3 a0_4 a0_5 a0_6 a0_7 a0_8 a0_9 a0_10 a0_11 a0_12).bind fun t182 => (if t182 = 0 then ((head_put.f k (([1, (a0_0) % 256, (a0_1) % 256] : List Int)) (IntKind.u64.wrap (a0_2)) 8).bind fun t186 => ((head_put.f k t186 (IntKind.u64.wrap ((l0_3.length : Int))) 4).bind fun t189 => (head_Bytes.l0 k t189 l0_3 (l0_3.length : Int) 0 a0_0 a0_1 a0_2 l0_3 a0_4 a0_5 a0_6 a0_7 a0_8 a0_9 a0_10 a0_11 a0_12))) else (some (([] : List Int), t182)))
theorem head_Bytes.mono_l : ∀ k, (∀ y0 y1 y2 y3 y4 y5 y6 y7 y8 y9 y10 y11 y12 y13 y14 y15 y16, LeO (head_Bytes.l0 k y0 y1 y2 y3 y4 y5 y6 y7 y8 y9 y10 y11 y12 y13 y14 y15 y16) (head_Bytes.l0 (k + 1) y0 y1 y2 y3 y4 y5 y6 y7 y8 y9 y10 y11 y12 y13 y14 y15 y16))
  | 0 => fun _ _ _ _ _ _ _ _ _ _ _ _ _ _ _ _ _ r h => by simp [head_Bytes.l0] at h
  | k + 1 => by
   have ih0 := head_Bytes.mono_l k
   ·intro y0 y1 y2 y3 y4 y5 y6 y7 y8 y9 y10 y11 y12 y13 y14 y15 y16
    unfold head_Bytes.l0
    repeat' first | (with_reducible first | exact ih0 .. | exact head_Check.mono .. | exact head_put.mono .. | exact seal_Octets.mono .. | exact LeO.refl _ | exact LeO.none _ | refine LeO.ite ?_ ?_ | refine LeO.bind ?_ (fun _ => ?_)) | exact ih0 .. | exact head_Check.mono .. | exact head_put.mono .. | exact seal_Octets.mono .. | refine LeO.ite ?_ ?_ | refine LeO.bind ?_ (fun _ => ?_)
theorem head_Bytes.mono : ∀ a0 a1 a2 a3 a4 a5 a6 a7 a8 a9 a10 a11 a12 k, LeO (head_Bytes.f k a0 a1 a2 a3 a4 a5 a6 a7 a8 a9 a10 a11 a12) (head_Bytes.f (k + 1) a0 a1 a2 a3 a4 a5 a6 a7 a8 a9 a10 a11 a12) := by
  intro a0 a1 a2 a3 a4 a5 a6 a7 a8 a9 a10 a11 a12 k
  have ih0 := head_Bytes.mono_l k
  unfold head_Bytes.f
  repeat' first | (with_reducible first | exact ih0 .. | exact head_Check.mono .. | exact head_put.mono .. | exact seal_Octets.mono .. | exact LeO.refl _ | exact LeO.none _ | refine LeO.ite ?_ ?_ | refine LeO.bind ?_ (fun _ => ?_)) | exact ih0 .. | exact head_Check.mono .. | exact head_put.mono .. | exact seal_Octets.mono .. | refine LeO.ite ?_ ?_ | refine LeO.bind ?_ (fun _ => ?_)
def head_Bytes.T9 : Bool × List (List Nat × List Nat) := (true, [([], []), ([], []), ([1], [1]), ([2], [2]), ([0, 3], [0, 3]), ([], []), ([5], [5]), ([6], [6]), ([4, 7, 4], [4, 7]), ([], []), ([9], [9]), ([10], [10]), ([11, 8], [11]), ([8, 12, 12], [8, 12]), ([13, 13, 0, 1, 2, 3, 4, 5, 6, 7, 8, 9, 10, 11, 12, 13], [0, 13])])
def head_Bytes.B9 : List Nat := [0, 0, 2, 6, 15, 0, 32, 96, 255, 0, 512, 1536, 4095, 8191, 16383]
theorem head_Bytes.tab9 : rtab .any (opsOf Try.f17 9) = head_Bytes.T9 := by kernel_rfl
theorem head_Bytes.bits9 : waitsOk head_Bytes.T9.2 head_Bytes.B9 = true := by kernel_rfl
set_option maxHeartbeats 8000000 in
set_option maxRecDepth 100000 in
theorem head_Bytes.calls (k : Nat) (a0_0 : Int) (a0_1 : Int) (a0_2 : Int) (A0_3 : Option Addr) (c0_3 : Nat) (l0_3 : List (S41)) (a0_4 : Bool) (a0_5 : Bool) (a0_6 : Int) (a0_7 : Int) (a0_8 : Int) (a0_9 : Int) (a0_10 : Int) (a0_11 : Int) (a0_12 : Int) (r1 : List Int) (r2 : Int) (w : World) (hr0_3 : Kd.C k41 w A0_3 l0_3.length l0_3) (hc0_3 : l0_3.length ≤ c0_3) (h : head_Bytes.f k a0_0 a0_1 a0_2 l0_3 a0_4 a0_5 a0_6 a0_7 a0_8 a0_9 a0_10 a0_11 a0_12 = some (r1, r2)) :
   Calls Try.prog 17 #[.agg #[.int .i64 a0_0, .int .i64 a0_1, .int .i64 a0_2, .slice A0_3 l0_3.length c0_3, .bool a0_4, .bool a0_5, .int .u64 a0_6, .int .u64 a0_7, .int .u64 a0_8, .int .u64 a0_9, .int .u64 a0_10, .int .u64 a0_11, .int .i64 a0_12]] w fun e w' => ∃ v0_ : Value, e = .returned (.tuple #[v0_, .int .i64 r2]) ∧ Kd.R (Kd.int .u8) 5 w' w.heap.size (fun _ => True) v0_ r1 ∧ Below w.heap.size w w' := by
  have hu31 := underlying31
  have hu41 := underlying41
  have hu27 := underlying27
  have HR0_3 := ak_ hr0_3
  have HC0_3 := ak_ hc0_3
  clear hr0_3 hc0_3
  have HB := ak_ (Below.refl w.heap.size w)
  have H : ((head_Check.f k a0_0 a0_1 a0_2 l0_3 a0_4 a0_5 a0_6 a0_7 a0_8 a0_9 a0_10 a0_11 a0_12).bind fun t182 => (if t182 = 0 then ((head_put.f k (([1, (a0_0) % 256, (a0_1) % 256] : List Int)) (IntKind.u64.wrap (a0_2)) 8).bind fun t186 => ((head_put.f k t186 (IntKind.u64.wrap ((l0_3.length : Int))) 4).bind fun t189 => (head_Bytes.l0 k t189 l0_3 (l0_3.length : Int) 0 a0_0 a0_1 a0_2 l0_3 a0_4 a0_5 a0_6 a0_7 a0_8 a0_9 a0_10 a0_11 a0_12))) else (some (([] : List Int), t182)))) = some (r1, r2) := h
  clear h
  replace H := bind_eq_some_iff.mp H
  obtain ⟨t182, A20, H⟩ := H
  replace H : (if t182 = 0 then ((head_put.f k (([1, (a0_0) % 256, (a0_1) % 256] : List Int)) (IntKind.u64.wrap (a0_2)) 8).bind fun t186 => ((head_put.f k t186 (IntKind.u64.wrap ((l0_3.length : Int))) 4).bind fun t189 => (head_Bytes.l0 k t189 l0_3 (l0_3.length : Int) 0 a0_0 a0_1 a0_2 l0_3 a0_4 a0_5 a0_6 a0_7 a0_8 a0_9 a0_10 a0_11 a0_12))) else (some (([] : List Int), t182))) = some (r1, r2) := H
  have A2 := ak_ A20
  clear A20
  by_cases c3 : t182 = 0
  ·rw [if_pos c3] at H
   have c3b0 : (t182 == 0) = true := beq_iff_eq.mpr c3
   have c3b1 : (t182 != 0) = false := bne_eq_false_iff_eq.mpr c3
   clear c3
   obtain ⟨y183, hy183⟩ : ∃ y_ : List Int, y_ = (([1, (a0_0) % 256, (a0_1) % 256] : List Int)) := ⟨_, rfl⟩
   replace H : ((head_put.f k y183 (IntKind.u64.wrap (a0_2)) 8).bind fun t186 => ((head_put.f k t186 (IntKind.u64.wrap ((l0_3.length : Int))) 4).bind fun t189 => (head_Bytes.l0 k t189 l0_3 (l0_3.length : Int) 0 a0_0 a0_1 a0_2 l0_3 a0_4 a0_5 a0_6 a0_7 a0_8 a0_9 a0_10 a0_11 a0_12))) = some (r1, r2) := by first | (rw [hy183]; with_reducible exact H) | (have H2_ := (Option.bind_some _ _).symm.trans H; rw [hy183]; with_reducible exact H2_) | (have H2_ := (Option.bind_some _ _).symm.trans H; with_reducible exact H2_) | with_reducible exact H | (rw [hy183]; exact H) | exact H
   have Ny183 := ak_ hy183
   clear hy183
   replace H := bind_eq_some_iff.mp H
   obtain ⟨t186, A40, H⟩ := H
   replace H : ((head_put.f k t186 (IntKind.u64.wrap ((l0_3.length : Int))) 4).bind fun t189 => (head_Bytes.l0 k t189 l0_3 (l0_3.length : Int) 0 a0_0 a0_1 a0_2 l0_3 a0_4 a0_5 a0_6 a0_7 a0_8 a0_9 a0_10 a0_11 a0_12)) = some (r1, r2) := H
   have A4 := ak_ A40
   clear A40
   replace H := bind_eq_some_iff.mp H
   obtain ⟨t189, A50, H⟩ := H
   replace H : (head_Bytes.l0 k t189 l0_3 (l0_3.length : Int) 0 a0_0 a0_1 a0_2 l0_3 a0_4 a0_5 a0_6 a0_7 a0_8 a0_9 a0_10 a0_11 a0_12) = some (r1, r2) := H
   have A5 := ak_ A50
   clear A50
   have H' := ak_ H
   clear H
   go_enter func17, ntmps17
   go_wp2_with (first | ((with_reducible refine gate_dst (N := 1) rfl ?_); refine bx_ 1 #[.int .i64 a0_0, .int .i64 a0_1, .int .i64 a0_2, .slice A0_3 l0_3.length c0_3, .bool a0_4, .bool a0_5, .int .u64 a0_6, .int .u64 a0_7, .int .u64 a0_8, .int .u64 a0_9, .int .u64 a0_10, .int .u64 a0_11, .int .i64 a0_12] 31 ?_; intro gb181 hg w6 hbox hb; have BK181 := ak_ hbox; have GW181 := ak_ (gs_ hg HB); have GE181 := ak_ (gs_ hg HB); replace HB := ak_ (bt_ (bl_ HB) hb); clear hb hbox hg; obtain ⟨hcz7_0, hcz7_1, hcz7_2, hcz7_3, hcz7_4, hcz7_5, hcz7_6, hcz7_7, hcz7_8, hcz7_9, hcz7_10, hcz7_11, hcz7_12, hfz7_0, hfz7_1, hfz7_2, hfz7_3, hfz7_4, hfz7_5, hfz7_6, hfz7_7, hfz7_8, hfz7_9, hfz7_10, hfz7_11, hfz7_12⟩ := kc13_ BK181.out) | ((with_reducible refine gate_callee (f := 16) rfl ?_); refine gl_ (some 9) func16 #[.agg #[.int .i64 a0_0, .int .i64 a0_1, .int .i64 a0_2, .slice A0_3 l0_3.length c0_3, .bool a0_4, .bool a0_5, .int .u64 a0_6, .int .u64 a0_7, .int .u64 a0_8, .int .u64 a0_9, .int .u64 a0_10, .int .u64 a0_11, .int .i64 a0_12]] ?_; (with_reducible refine (head_Check.calls k a0_0 a0_1 a0_2 _ _ l0_3 a0_4 a0_5 a0_6 a0_7 a0_8 a0_9 a0_10 a0_11 a0_12 t182 _ ?side1 ?side2 A2.out).mono ?_); (case side1 => repeat (first | exact (Kd.C_below HR0_3.out HB.out) | (with_reducible refine Kd.C_alloc ?_ _) | (with_reducible refine Kd.C_drewN ?_ _) | (with_reducible refine Kd.C_drew ?_))); (case side2 => exact HC0_3.out); rintro e w8 ⟨rfl, hb⟩; refine ⟨_, rfl, ?_⟩; replace BK181 := ak_ (kb_ (kl_ BK181) hb); replace HB := ak_ (bt_ (bw1_ HB GE181) hb); (try clear hb); (try clear hk); obtain ⟨hcz9_0, hcz9_1, hcz9_2, hcz9_3, hcz9_4, hcz9_5, hcz9_6, hcz9_7, hcz9_8, hcz9_9, hcz9_10, hcz9_11, hcz9_12, hfz9_0, hfz9_1, hfz9_2, hfz9_3, hfz9_4, hfz9_5, hfz9_6, hfz9_7, hfz9_8, hfz9_9, hfz9_10, hfz9_11, hfz9_12⟩ := kc13_ BK181.out) | ((with_reducible refine gate_dst (N := 19) rfl ?_); refine Kd.R_lit (Kd.int .u8) _ 5 ?hg (N := 19) ?hd (xs := ([1, (a0_0) % 256, (a0_1) % 256] : List Int)) (inner := [.int .u8 1, .int .u8 ((a0_0) % 256), .int .u8 ((a0_1) % 256)]) (ok := fun _ => True) (okp := fun _ => True) ?hr ?hp (fun _ hk => hk) trivial (Below.refl _ _) (Nat.le_refl _) (by simp) ?_; (case hd => rfl); (case hg => rfl); (case hr => first | (go_simp; done) | (go_simp; rfl)); (case hp => exact (Reps.one (show Kd.M (Kd.int .u8) _ _ _ 1 [.int .u8 1] from rfl) (Reps.one (show Kd.M (Kd.int .u8) _ _ _ ((a0_0) % 256) [.int .u8 ((a0_0) % 256)] from rfl) (Reps.one (show Kd.M (Kd.int .u8) _ _ _ ((a0_1) % 256) [.int .u8 ((a0_1) % 256)] from rfl) (Reps.none _ _))))); intro v184 w10 ho11 hb hg_ hnew_; clear hg_ hnew_; (first | rw [← Ny183.out] at ho11 | (simp only [Int.reduceToNat] at ho11; rw [← Ny183.out] at ho11)); have HO185 := ak_ (Kd.R_lower ho11 (bz_ (bw1_ HB GE181))); replace BK181 := ak_ (kb_ (kl_ BK181) hb); replace HB := ak_ (bt_ (bw1_ HB GE181) hb); clear hb ho11; obtain ⟨hcz12_0, hcz12_1, hcz12_2, hcz12_3, hcz12_4, hcz12_5, hcz12_6, hcz12_7, hcz12_8, hcz12_9, hcz12_10, hcz12_11, hcz12_12, hfz12_0, hfz12_1, hfz12_2, hfz12_3, hfz12_4, hfz12_5, hfz12_6, hfz12_7, hfz12_8, hfz12_9, hfz12_10, hfz12_11, hfz12_12⟩ := kc13_ BK181.out; obtain ⟨Ao13, co13, eo13⟩ := Kd.R_slice HO185.out; subst eo13) | ((with_reducible refine gate_callee (f := 50) rfl ?_); refine goesL_ (some 23) rfl rfl func50 (by kernel_rfl) rfl #[.slice Ao13 y183.length co13, .int .u64 (IntKind.u64.wrap (a0_2)), .int .i64 8] rfl (by (try simp only [map_toArray, map_cons, map_nil]); first | done | rfl | (simp only [length_drop, length_take]; rfl)) ?_; (with_reducible refine (head_put.calls k (fun k_ => some k_ = (.slice Ao13 y183.length co13 : Value).ownBlock) (.slice Ao13 y183.length co13) y183 (IntKind.u64.wrap (a0_2)) 8 t186 w _ ?side1 ?side2 A4.out).mono ?_); (case side1 => repeat (first | (with_reducible first | exact HB.out | apply ba_ | apply bn_ | apply bd_ | refine below_set ?_ GE181.out) | exact HB.out)); (case side2 => exact Kd.R_tight rfl HO185.out); rintro e w14 ⟨v187, rfl, ho0, hb, hkp⟩; refine ⟨_, rfl, ?_⟩; replace BK181 := ak_ (blk_kept (kl_ BK181) hkp (fun hs_ => (fun e_ => (Kd.R_ne HO185.out BK181.out (by decide)) e_) hs_)); have HO188 := ak_ (Kd.R_mono (ok' := fun k_ => True) ho0 (fun k_ hk_ => trivial)); replace HB := ak_ hb; clear HO185; (try clear hb); (try clear hkp); (try clear ho0); obtain ⟨hcz15_0, hcz15_1, hcz15_2, hcz15_3, hcz15_4, hcz15_5, hcz15_6, hcz15_7, hcz15_8, hcz15_9, hcz15_10, hcz15_11, hcz15_12, hfz15_0, hfz15_1, hfz15_2, hfz15_3, hfz15_4, hfz15_5, hfz15_6, hfz15_7, hfz15_8, hfz15_9, hfz15_10, hfz15_11, hfz15_12⟩ := kc13_ BK181.out; obtain ⟨Ao16, co16, eo16⟩ := Kd.R_slice HO188.out; subst eo16) | ((with_reducible refine gate_callee (f := 50) rfl ?_); refine gl_ (some 29) func50 #[.slice Ao16 t186.length co16, .int .u64 (IntKind.u64.wrap ((l0_3.length : Int))), .int .i64 4] ?_; (with_reducible refine (head_put.calls k (fun k_ => some k_ = (.slice Ao16 t186.length co16 : Value).ownBlock) (.slice Ao16 t186.length co16) t186 (IntKind.u64.wrap ((l0_3.length : Int))) 4 t189 w _ ?side1 ?side2 A5.out).mono ?_); (case side1 => repeat (first | (with_reducible first | exact HB.out | apply ba_ | apply bn_ | apply bd_ | refine below_set ?_ GE181.out) | exact HB.out)); (case side2 => exact Kd.R_tight rfl HO188.out); rintro e w17 ⟨v190, rfl, ho0, hb, hkp⟩; refine ⟨_, rfl, ?_⟩; replace BK181 := ak_ (blk_kept (kl_ BK181) hkp (fun hs_ => (fun e_ => (Kd.R_ne HO188.out BK181.out (by decide)) e_) hs_)); have HO191 := ak_ (Kd.R_mono (ok' := fun k_ => True) ho0 (fun k_ hk_ => trivial)); replace HB := ak_ hb; clear HO188; (try clear hb); (try clear hkp); (try clear ho0); obtain ⟨hcz18_0, hcz18_1, hcz18_2, hcz18_3, hcz18_4, hcz18_5, hcz18_6, hcz18_7, hcz18_8, hcz18_9, hcz18_10, hcz18_11, hcz18_12, hfz18_0, hfz18_1, hfz18_2, hfz18_3, hfz18_4, hfz18_5, hfz18_6, hfz18_7, hfz18_8, hfz18_9, hfz18_10, hfz18_11, hfz18_12⟩ := kc13_ BK181.out))
   go_loopg [5, 33] k (fun kq v5 v33 w' => ∃ (x5_1 : List Int) (x33_1 : Int), v33 = .int .i64 x33_1 ∧ Aside0 (head_Bytes.l0 kq x5_1 l0_3 (l0_3.length : Int) x33_1 a0_0 a0_1 a0_2 l0_3 a0_4 a0_5 a0_6 a0_7 a0_8 a0_9 a0_10 a0_11 a0_12 = some (r1, r2)) ∧ Aside0 (kq ≤ k) ∧ Aside0 (Kd.R (Kd.int .u8) 5 w' w.heap.size (fun _ => True) v5 x5_1) ∧ Aside0 (w'.heap[gb181]? = some (.cells #[.int .i64 a0_0, .int .i64 a0_1, .int .i64 a0_2, (.slice A0_3 l0_3.length c0_3), .bool a0_4, .bool a0_5, .int .u64 a0_6, .int .u64 a0_7, .int .u64 a0_8, .int .u64 a0_9, .int .u64 a0_10, .int .u64 a0_11, .int .i64 a0_12] 31 (0, 0))) ∧ Aside0 (Below w.heap.size w w'))
   case atStart => exact ⟨(t189), (0), rf_, H', ⟨Nat.le_refl _⟩, ⟨rl_ HO191⟩, ⟨kl_ BK181⟩, ⟨bw1_ HB GE181⟩⟩
   case round =>
    clear H'
    try clear c1
    try clear p2
    try clear c3
    try clear c3b0
    try clear c3b1
    try clear c5
    try clear c16
    try clear c17
    try clear hcz12_0 hcz12_1 hcz12_10 hcz12_11 hcz12_12 hcz12_2 hcz12_3 hcz12_4 hcz12_5 hcz12_6 hcz12_7 hcz12_8 hcz12_9
    try clear hcz15_0 hcz15_1 hcz15_10 hcz15_11 hcz15_12 hcz15_2 hcz15_3 hcz15_4 hcz15_5 hcz15_6 hcz15_7 hcz15_8 hcz15_9
    try clear hcz18_0 hcz18_1 hcz18_10 hcz18_11 hcz18_12 hcz18_2 hcz18_3 hcz18_4 hcz18_5 hcz18_6 hcz18_7 hcz18_8 hcz18_9
    try clear hcz7_0 hcz7_1 hcz7_10 hcz7_11 hcz7_12 hcz7_2 hcz7_3 hcz7_4 hcz7_5 hcz7_6 hcz7_7 hcz7_8 hcz7_9
    try clear hcz9_0 hcz9_1 hcz9_10 hcz9_11 hcz9_12 hcz9_2 hcz9_3 hcz9_4 hcz9_5 hcz9_6 hcz9_7 hcz9_8 hcz9_9
    try clear hfz12_0 hfz12_1 hfz12_10 hfz12_11 hfz12_12 hfz12_2 hfz12_3 hfz12_4 hfz12_5 hfz12_6 hfz12_7 hfz12_8 hfz12_9
    try clear hfz15_0 hfz15_1 hfz15_10 hfz15_11 hfz15_12 hfz15_2 hfz15_3 hfz15_4 hfz15_5 hfz15_6 hfz15_7 hfz15_8 hfz15_9
    try clear hfz18_0 hfz18_1 hfz18_10 hfz18_11 hfz18_12 hfz18_2 hfz18_3 hfz18_4 hfz18_5 hfz18_6 hfz18_7 hfz18_8 hfz18_9
    try clear hfz7_0 hfz7_1 hfz7_10 hfz7_11 hfz7_12 hfz7_2 hfz7_3 hfz7_4 hfz7_5 hfz7_6 hfz7_7 hfz7_8 hfz7_9
    try clear hfz9_0 hfz9_1 hfz9_10 hfz9_11 hfz9_12 hfz9_2 hfz9_3 hfz9_4 hfz9_5 hfz9_6 hfz9_7 hfz9_8 hfz9_9
    obtain ⟨x5_1, x33_1, rfl, HA, HK1, HO_5, BK181, HB⟩ := hrel
    cases gk with
    | zero => exact absurd HA.out (by simp [head_Bytes.l0])
    | succ k1 =>
     have H := HA.out
     clear HA
     simp only [head_Bytes.l0] at H
     by_cases c19 : x33_1 < (l0_3.length : Int)
     ·rw [if_pos c19] at H
      have c19b0 := decide_eq_true c19
      clear c19
      by_cases c20 : 0 ≤ x33_1
      ·rw [if_pos c20] at H
       have c20b0 := decide_eq_true c20
       clear c20
       by_cases c21 : x33_1 < (l0_3.length : Int)
       ·rw [if_pos c21] at H
        have c21b0 := decide_eq_true c21
        clear c21
        replace H := bind_eq_some_iff.mp H
        obtain ⟨t194, A220, H⟩ := H
        replace H : ((head_put.f k1 t194 ((rd_T41 l0_3 x33_1).f0.f1) 8).bind fun t197 => ((seal_Octets.f k1 ((rd_T41 l0_3 x33_1).f1.f3.f0.f0) ((rd_T41 l0_3 x33_1).f1.f3.f0.f1) ((rd_T41 l0_3 x33_1).f1.f3.f1.f0) ((rd_T41 l0_3 x33_1).f1.f3.f1.f1)).bind fun t200 => (if t197.length + t200.length < 140737488355328 then (head_Bytes.l0 k1 (t197 ++ t200) l0_3 (l0_3.length : Int) (wrap64 (x33_1 + 1)) a0_0 a0_1 a0_2 l0_3 a0_4 a0_5 a0_6 a0_7 a0_8 a0_9 a0_10 a0_11 a0_12) else (none)))) = some (r1, r2) := H
        have A22 := ak_ A220
        clear A220
        replace H := bind_eq_some_iff.mp H
        obtain ⟨t197, A230, H⟩ := H
        replace H : ((seal_Octets.f k1 ((rd_T41 l0_3 x33_1).f1.f3.f0.f0) ((rd_T41 l0_3 x33_1).f1.f3.f0.f1) ((rd_T41 l0_3 x33_1).f1.f3.f1.f0) ((rd_T41 l0_3 x33_1).f1.f3.f1.f1)).bind fun t200 => (if t197.length + t200.length < 140737488355328 then (head_Bytes.l0 k1 (t197 ++ t200) l0_3 (l0_3.length : Int) (wrap64 (x33_1 + 1)) a0_0 a0_1 a0_2 l0_3 a0_4 a0_5 a0_6 a0_7 a0_8 a0_9 a0_10 a0_11 a0_12) else (none))) = some (r1, r2) := H
        have A23 := ak_ A230
        clear A230
        replace H := bind_eq_some_iff.mp H
        obtain ⟨t200, A240, H⟩ := H
        replace H : (if t197.length + t200.length < 140737488355328 then (head_Bytes.l0 k1 (t197 ++ t200) l0_3 (l0_3.length : Int) (wrap64 (x33_1 + 1)) a0_0 a0_1 a0_2 l0_3 a0_4 a0_5 a0_6 a0_7 a0_8 a0_9 a0_10 a0_11 a0_12) else (none)) = some (r1, r2) := H
        have A24 := ak_ A240
        clear A240
        by_cases c25 : t197.length + t200.length < 140737488355328
        ·rw [if_pos c25] at H
         have LMc25 := ak_ c25
         clear c25
         obtain ⟨y203, hy203⟩ : ∃ y_ : List Int, y_ = (t197 ++ t200) := ⟨_, rfl⟩
         replace H : (head_Bytes.l0 k1 y203 l0_3 (l0_3.length : Int) (wrap64 (x33_1 + 1)) a0_0 a0_1 a0_2 l0_3 a0_4 a0_5 a0_6 a0_7 a0_8 a0_9 a0_10 a0_11 a0_12) = some (r1, r2) := by first | (rw [hy203]; with_reducible exact H) | (have H2_ := (Option.bind_some _ _).symm.trans H; rw [hy203]; with_reducible exact H2_) | (have H2_ := (Option.bind_some _ _).symm.trans H; with_reducible exact H2_) | with_reducible exact H | (rw [hy203]; exact H) | exact H
         have Ny203 := ak_ hy203
         clear hy203
         have H' := ak_ H
         clear H
         have p192 : 0 ≤ (x33_1 : Int) := od_ (by first | (with_reducible assumption) | assumption)
         have q192 : x33_1 < (l0_3.length : Int) := od_ (by first | (with_reducible assumption) | assumption)
         obtain ⟨ad192, e192, hx192_0, hx192_1, hx192_2, hx192_3, hx192_4, hx192_5, hx192_6, hx192_7, hx192_8, hx192_9, hx192_10⟩ := at_T41 HR0_3.out x33_1 p192 q192
         cases e192
         replace hx192_0 := cx_ HB hx192_0
         replace hx192_1 := cx_ HB hx192_1
         replace hx192_2 := cx_ HB hx192_2
         replace hx192_3 := cx_ HB hx192_3
         replace hx192_4 := cx_ HB hx192_4
         replace hx192_5 := cx_ HB hx192_5
         replace hx192_6 := cx_ HB hx192_6
         replace hx192_7 := cx_ HB hx192_7
         replace hx192_8 := cx_ HB hx192_8
         replace hx192_9 := cx_ HB hx192_9
         replace hx192_10 := cx_ HB hx192_10
         replace p192 := eq_true p192
         replace q192 := eq_true q192
         try go_wp2_with (first | ((with_reducible refine gate_dst (N := 7) rfl ?_); refine bx_ 7 #[.int .u64 0, .int .u64 0, .bool false, .bool false, .int .u64 0, .int .u64 0, .int .u64 0, .int .u64 0, .int .u64 0, .int .u64 0, .int .i64 0] 41 ?_; intro gb193 hg w26 hbox hb; replace HO_5 := ak_ (Kd.R_below (rl_ HO_5) hb); have BK193 := ak_ hbox; have GW193 := ak_ (gw1_ HB GE181 hg); have GE193 := ak_ (gw1_ HB GE181 hg); replace HB := ak_ (bt_ (bw1_ HB GE181) hb); have NB181_193 := ak_ (nl_ hg BK181); have NB193_181 := ak_ (nr_ hg BK181); replace BK181 := ak_ (kb_ (kl_ BK181) hb); clear hb hbox hg; have hnb27 := NB193_181.out; have hnc27 := NB181_193.out; obtain ⟨hcz28_0, hcz28_1, hcz28_2, hcz28_3, hcz28_4, hcz28_5, hcz28_6, hcz28_7, hcz28_8, hcz28_9, hcz28_10, hfz28_0, hfz28_1, hfz28_2, hfz28_3, hfz28_4, hfz28_5, hfz28_6, hfz28_7, hfz28_8, hfz28_9, hfz28_10⟩ := kc11_ BK193.out))
         obtain ⟨w29, e_⟩ : ∃ w_, sC_ gb193 0 [.int .u64 ((rd_T41 l0_3 x33_1).f0.f0), .int .u64 ((rd_T41 l0_3 x33_1).f0.f1), .bool ((rd_T41 l0_3 x33_1).f1.f0), .bool ((rd_T41 l0_3 x33_1).f1.f1), .int .u64 ((rd_T41 l0_3 x33_1).f1.f2.f0), .int .u64 ((rd_T41 l0_3 x33_1).f1.f2.f1), .int .u64 ((rd_T41 l0_3 x33_1).f1.f3.f0.f0), .int .u64 ((rd_T41 l0_3 x33_1).f1.f3.f0.f1), .int .u64 ((rd_T41 l0_3 x33_1).f1.f3.f1.f0), .int .u64 ((rd_T41 l0_3 x33_1).f1.f3.f1.f1), .int .i64 ((rd_T41 l0_3 x33_1).f1.f4)] w26 = w_ := ⟨_, rfl⟩
         have n0_ : Aside0 (Kd.R (Kd.int .u8) 5 w29 w.heap.size (fun _ => True) u5 x5_1) := ⟨Kd.R_mono (sC_far (Kd.R_types HO_5.out BK193.out (by decide)) (fun _ hk => hk.2) e_) (fun _ hk => trivial)⟩
         have n1_ : Aside0 (w29.heap[gb181]? = some (.cells #[.int .i64 a0_0, .int .i64 a0_1, .int .i64 a0_2, .slice (some ad192) l0_3.length c0_3, .bool a0_4, .bool a0_5, .int .u64 a0_6, .int .u64 a0_7, .int .u64 a0_8, .int .u64 a0_9, .int .u64 a0_10, .int .u64 a0_11, .int .i64 a0_12] 31 (0, 0))) := ⟨sC_other BK181.out NB181_193.out e_⟩
         have n2_ : Aside0 (w29.heap[gb193]? = some (.cells #[.int .u64 ((rd_T41 l0_3 x33_1).f0.f0), .int .u64 ((rd_T41 l0_3 x33_1).f0.f1), .bool ((rd_T41 l0_3 x33_1).f1.f0), .bool ((rd_T41 l0_3 x33_1).f1.f1), .int .u64 ((rd_T41 l0_3 x33_1).f1.f2.f0), .int .u64 ((rd_T41 l0_3 x33_1).f1.f2.f1), .int .u64 ((rd_T41 l0_3 x33_1).f1.f3.f0.f0), .int .u64 ((rd_T41 l0_3 x33_1).f1.f3.f0.f1), .int .u64 ((rd_T41 l0_3 x33_1).f1.f3.f1.f0), .int .u64 ((rd_T41 l0_3 x33_1).f1.f3.f1.f1), .int .i64 ((rd_T41 l0_3 x33_1).f1.f4)] 41 (0, 0))) := ⟨sC_blk BK193.out rfl e_⟩
         have n3_ : Aside0 (Below w.heap.size w w29) := ⟨sC_below GE193.out HB.out e_⟩
         (try clear HO_5)
         (try clear BK181)
         (try clear BK193)
         (try clear HB)
         simp only [sC_, Nat.reduceAdd] at e_
         rw [e_]
         clear e_
         have HO_5 := n0_
         have BK181 := n1_
         have BK193 := n2_
         have HB := n3_
         clear n0_ n1_ n2_ n3_
         replace HO_5 := ak_ (Kd.R_drew HO_5.out)
         replace BK181 := ak_ (kd_ BK181.out)
         replace BK193 := ak_ (kd_ BK193.out)
         replace HB := ak_ (bd_ HB.out)
         obtain ⟨Ao31, co31, eo31⟩ := Kd.R_slice HO_5.out
         (first | subst eo31 | (injection eo31 with f1_ f2_ f3_; have f4_ := f1_.symm; have f5_ := f3_.symm; clear f1_ f2_ f3_; subst f4_; subst f5_))
         refine start_ (n := 15) (S := fun w' => w'.cell? ⟨gb193, 0, none⟩ = some (.int .u64 ((rd_T41 l0_3 x33_1).f0.f0)) ∧ w'.cell? ⟨gb193, 1, none⟩ = some (.int .u64 ((rd_T41 l0_3 x33_1).f0.f1)) ∧ w'.cell? ⟨gb193, 2, none⟩ = some (.bool ((rd_T41 l0_3 x33_1).f1.f0)) ∧ w'.cell? ⟨gb193, 3, none⟩ = some (.bool ((rd_T41 l0_3 x33_1).f1.f1)) ∧ w'.cell? ⟨gb193, 4, none⟩ = some (.int .u64 ((rd_T41 l0_3 x33_1).f1.f2.f0)) ∧ w'.cell? ⟨gb193, 5, none⟩ = some (.int .u64 ((rd_T41 l0_3 x33_1).f1.f2.f1)) ∧ w'.cell? ⟨gb193, 6, none⟩ = some (.int .u64 ((rd_T41 l0_3 x33_1).f1.f3.f0.f0)) ∧ w'.cell? ⟨gb193, 7, none⟩ = some (.int .u64 ((rd_T41 l0_3 x33_1).f1.f3.f0.f1)) ∧ w'.cell? ⟨gb193, 8, none⟩ = some (.int .u64 ((rd_T41 l0_3 x33_1).f1.f3.f1.f0)) ∧ w'.cell? ⟨gb193, 9, none⟩ = some (.int .u64 ((rd_T41 l0_3 x33_1).f1.f3.f1.f1)) ∧ w'.cell? ⟨gb193, 10, none⟩ = some (.int .i64 ((rd_T41 l0_3 x33_1).f1.f4))) (ds := []) #[false, false, false, false, false, false, false, false, false, false, false, false, false, false, false] (by kernel_rfl) rfl rfl ⟨kq_ BK193.out 0 rfl, kq_ BK193.out 1 rfl, kq_ BK193.out 2 rfl, kq_ BK193.out 3 rfl, kq_ BK193.out 4 rfl, kq_ BK193.out 5 rfl, kq_ BK193.out 6 rfl, kq_ BK193.out 7 rfl, kq_ BK193.out 8 rfl, kq_ BK193.out 9 rfl, kq_ BK193.out 10 rfl⟩ (fun hHeld => ?_); refine with_tabW head_Bytes.tab9 head_Bytes.bits9 (fun HT_ HW_ => ?_)
         generalize w29.drew = w30 at HO_5 BK181 BK193 HB hHeld ⊢
         refine pu_ HT_ 0 (some 37) (bA4 1 15) ?_
         refine pu_ HT_ 1 (some 38) (bA4 2 15) ?_
         refine pu_ HT_ 2 (some 39) (bA4 3 15) ?_
         refine pu_ HT_ 5 (some 42) #[true, true, true, false, false, true, false, false, false, false, false, false, false, false, false] ?_
         refine pu_ HT_ 6 (some 43) #[true, true, true, false, false, true, true, false, false, false, false, false, false, false, false] ?_
         refine pu_ HT_ 9 (some 46) #[true, true, true, false, false, true, true, false, false, true, false, false, false, false, false] ?_
         refine pu_ HT_ 10 (some 47) #[true, true, true, false, false, true, true, false, false, true, true, false, false, false, false] ?_
         refine tk_ HT_ HW_ hHeld 3 (some 40) #[true, true, true, true, false, true, true, false, false, true, true, false, false, false, false] rfl (by rintro w' ⟨s0, s1, s2, s3, s4, s5, s6, s7, s8, s9, s10⟩; go_simp; with_reducible rfl) ?_
         refine tk_ HT_ HW_ hHeld 7 (some 44) #[true, true, true, true, false, true, true, true, false, true, true, false, false, false, false] rfl (by rintro w' ⟨s0, s1, s2, s3, s4, s5, s6, s7, s8, s9, s10⟩; go_simp; with_reducible rfl) ?_
         refine tk_ HT_ HW_ hHeld 11 (some 48) #[true, true, true, true, false, true, true, true, false, true, true, true, false, false, false] rfl (by rintro w' ⟨s0, s1, s2, s3, s4, s5, s6, s7, s8, s9, s10⟩; go_simp; with_reducible rfl) ?_
         refine one_ (i := 4) (N := some 41) #[true, true, true, true, true, true, true, true, false, true, true, true, false, false, false] rfl rfl (one_of HT_.out (by kernel_rfl)) (by decide) (fun K hK => ?_)
         refine gg_ func50 #[.slice Ao31 x5_1.length co31, .int .u64 ((rd_T41 l0_3 x33_1).f0.f0), .int .i64 8] ?_
         with_reducible refine (head_put.calls k1 (fun k_ => some k_ = (.slice Ao31 x5_1.length co31 : Value).ownBlock) (.slice Ao31 x5_1.length co31) x5_1 ((rd_T41 l0_3 x33_1).f0.f0) 8 t194 w _ ?side1 ?side2 A22.out).mono ?_
         (case side1 => repeat (first | (with_reducible first | exact HB.out | apply ba_ | apply bn_ | apply bd_ | refine below_set ?_ GE181.out | refine below_set ?_ GE193.out) | exact HB.out))
         (case side2 => exact Kd.R_tight rfl HO_5.out)
         rintro e w32 ⟨v195, rfl, ho0, hb, hkp⟩
         refine ⟨_, rfl, ?_⟩
         replace BK181 := ak_ (blk_kept (kl_ BK181) hkp (fun hs_ => (fun e_ => (Kd.R_ne HO_5.out BK181.out (by decide)) e_) hs_))
         replace BK193 := ak_ (blk_kept (kl_ BK193) hkp (fun hs_ => (fun e_ => (Kd.R_ne HO_5.out BK193.out (by decide)) e_) hs_))
         have HO196 := ak_ (Kd.R_mono (ok' := fun k_ => True) ho0 (fun k_ hk_ => trivial))
         replace HB := ak_ hb
         clear HO_5
         (try clear hb)
         (try clear hkp)
         (try clear ho0)
         obtain ⟨Ao33, co33, eo33⟩ := Kd.R_slice HO196.out
         (first | subst eo33 | (injection eo33 with f1_ f2_ f3_; have f4_ := f1_.symm; have f5_ := f3_.symm; clear f1_ f2_ f3_; subst f4_; subst f5_))
         refine hK.out _ _ ⟨kq_ BK193.out 0 rfl, kq_ BK193.out 1 rfl, kq_ BK193.out 2 rfl, kq_ BK193.out 3 rfl, kq_ BK193.out 4 rfl, kq_ BK193.out 5 rfl, kq_ BK193.out 6 rfl, kq_ BK193.out 7 rfl, kq_ BK193.out 8 rfl, kq_ BK193.out 9 rfl, kq_ BK193.out 10 rfl⟩ (fun hHeld => ?_)
         clear hK K
         refine norm_ (a' := ?_) ?_ ?_
         rotate_left
         ·show Act.put _ (some 41) _ = _
          simp only [Act.put, setIfInBounds_toArray, set_cons_zero, set_cons_succ, i64_w, i32_w]
          rfl
         refine one_ (i := 8) (N := some 45) (bA4 12 15) rfl rfl (one_of HT_.out (by kernel_rfl)) (by decide) (fun K hK => ?_)
         refine gg_ func50 #[.slice Ao33 t194.length co33, .int .u64 ((rd_T41 l0_3 x33_1).f0.f1), .int .i64 8] ?_
         with_reducible refine (head_put.calls k1 (fun k_ => some k_ = (.slice Ao33 t194.length co33 : Value).ownBlock) (.slice Ao33 t194.length co33) t194 ((rd_T41 l0_3 x33_1).f0.f1) 8 t197 w _ ?side1 ?side2 A23.out).mono ?_
         (case side1 => repeat (first | (with_reducible first | exact HB.out | apply ba_ | apply bn_ | apply bd_ | refine below_set ?_ GE181.out | refine below_set ?_ GE193.out) | exact HB.out))
         (case side2 => exact Kd.R_tight rfl HO196.out)
         rintro e w34 ⟨v198, rfl, ho0, hb, hkp⟩
         refine ⟨_, rfl, ?_⟩
         replace BK181 := ak_ (blk_kept (kl_ BK181) hkp (fun hs_ => (fun e_ => (Kd.R_ne HO196.out BK181.out (by decide)) e_) hs_))
         replace BK193 := ak_ (blk_kept (kl_ BK193) hkp (fun hs_ => (fun e_ => (Kd.R_ne HO196.out BK193.out (by decide)) e_) hs_))
         have HO199 := ak_ (Kd.R_mono (ok' := fun k_ => True) ho0 (fun k_ hk_ => trivial))
         replace HB := ak_ hb
         clear HO196
         (try clear hb)
         (try clear hkp)
         (try clear ho0)
         refine hK.out _ _ ⟨kq_ BK193.out 0 rfl, kq_ BK193.out 1 rfl, kq_ BK193.out 2 rfl, kq_ BK193.out 3 rfl, kq_ BK193.out 4 rfl, kq_ BK193.out 5 rfl, kq_ BK193.out 6 rfl, kq_ BK193.out 7 rfl, kq_ BK193.out 8 rfl, kq_ BK193.out 9 rfl, kq_ BK193.out 10 rfl⟩ (fun hHeld => ?_)
         clear hK K
         refine norm_ (a' := ?_) ?_ ?_
         rotate_left
         ·show Act.put _ (some 45) _ = _
          simp only [Act.put, setIfInBounds_toArray, set_cons_zero, set_cons_succ, i64_w, i32_w]
          rfl
         refine one_ (i := 12) (N := some 49) (bA4 13 15) rfl rfl (one_of HT_.out (by kernel_rfl)) (by decide) (fun K hK => ?_)
         refine gg_ func51 #[.agg #[.int .u64 ((rd_T41 l0_3 x33_1).f1.f3.f0.f0), .int .u64 ((rd_T41 l0_3 x33_1).f1.f3.f0.f1), .int .u64 ((rd_T41 l0_3 x33_1).f1.f3.f1.f0), .int .u64 ((rd_T41 l0_3 x33_1).f1.f3.f1.f1)]] ?_
         with_reducible refine (seal_Octets.calls k1 ((rd_T41 l0_3 x33_1).f1.f3.f0.f0) ((rd_T41 l0_3 x33_1).f1.f3.f0.f1) ((rd_T41 l0_3 x33_1).f1.f3.f1.f0) ((rd_T41 l0_3 x33_1).f1.f3.f1.f1) t200 _ A24.out).mono ?_
         rintro e w35 ⟨v201, rfl, ho0, hb⟩
         refine ⟨_, rfl, ?_⟩
         have HO202 := ak_ (Kd.R_lower (Kd.R_new' ho0 (Kd.R_lt (rl_ HO199))) (bz_ (bw2_ HB GE181 GE193)))
         replace HO199 := ak_ (Kd.R_elder' (rl_ HO199) (Kd.R_base ho0) hb)
         replace BK181 := ak_ (kb_ (kl_ BK181) hb)
         replace BK193 := ak_ (kb_ (kl_ BK193) hb)
         replace HB := ak_ (bt_ (bw2_ HB GE181 GE193) hb)
         (try clear hb)
         (try clear hb2)
         (try clear hk)
         (try clear hi)
         (try clear ho0)
         obtain ⟨Ao37, co37, eo37⟩ := Kd.R_slice HO202.out
         (first | subst eo37 | (injection eo37 with f1_ f2_ f3_; have f4_ := f1_.symm; have f5_ := f3_.symm; clear f1_ f2_ f3_; subst f4_; subst f5_))
         refine hK.out _ _ ⟨kq_ BK193.out 0 rfl, kq_ BK193.out 1 rfl, kq_ BK193.out 2 rfl, kq_ BK193.out 3 rfl, kq_ BK193.out 4 rfl, kq_ BK193.out 5 rfl, kq_ BK193.out 6 rfl, kq_ BK193.out 7 rfl, kq_ BK193.out 8 rfl, kq_ BK193.out 9 rfl, kq_ BK193.out 10 rfl⟩ (fun hHeld => ?_)
         clear hK K
         refine norm_ (a' := ?_) ?_ ?_
         rotate_left
         ·show Act.put _ (some 49) _ = _
          simp only [Act.put, setIfInBounds_toArray, set_cons_zero, set_cons_succ, i64_w, i32_w]
          rfl
         refine one_ (i := 13) (N := some 50) (bA4 14 15) rfl rfl (one_of HT_.out (by kernel_rfl)) (by decide) (fun K hK => ?_)
         refine Kd.R_append_rows_step (Kd.int .u8) (w0 := w) w.heap.size (by rfl) (.tmp 45) (.tmp 49) 35 5 (.int .u8 0) 1 rfl underlying35 info5 rfl (by decide) (by omega) v198 t197 t200 _ _ _ (fun k_ => some k_ ≠ (.slice Ao37 t200.length co37 : Value).ownBlock) (fun _ => False) rfl rfl ?aO ?aR (fun _ _ h => h) (fun _ h => h.elim) ?aF ?aB ?aS ?aL ?_
         (case aR => repeat (first | exact (Kd.R_reads' HO202.out).2.2 | (with_reducible refine Kd.C_alloc ?_ _) | (with_reducible refine Kd.C_drewN ?_ _) | (with_reducible refine Kd.C_drew ?_)))
         (case aB => exact (bw2_ HB GE181 GE193))
         (case aF => exact (fun k_ hk => Kd.fresh' (Kd.R_lt (rl_ HO202)) k_ hk))
         (case aO => exact (by (with_reducible repeat (first | apply Kd.R_alloc | apply Kd.R_drewN | apply Kd.R_drew)); exact Kd.R_mono HO199.out (fun _ hk => hk.2)))
         (case aS => exact (bz_ (bw2_ HB GE181 GE193)))
         (case aL => have := LMc25.out; omega)
         intro v204 w36 ho hb hg hat
         rw [← Ny203.out] at ho
         replace BK181 := ak_ (blk_grown (g := gb181) (o := .cells #[.int .i64 a0_0, .int .i64 a0_1, .int .i64 a0_2, .slice (some ad192) l0_3.length c0_3, .bool a0_4, .bool a0_5, .int .u64 a0_6, .int .u64 a0_7, .int .u64 a0_8, .int .u64 a0_9, .int .u64 a0_10, .int .u64 a0_11, .int .i64 a0_12] 31 (0, 0)) (kl_ BK181) hg (Kd.R_ne HO199.out BK181.out (by decide)))
         replace BK193 := ak_ (blk_grown (g := gb193) (o := .cells #[.int .u64 ((rd_T41 l0_3 x33_1).f0.f0), .int .u64 ((rd_T41 l0_3 x33_1).f0.f1), .bool ((rd_T41 l0_3 x33_1).f1.f0), .bool ((rd_T41 l0_3 x33_1).f1.f1), .int .u64 ((rd_T41 l0_3 x33_1).f1.f2.f0), .int .u64 ((rd_T41 l0_3 x33_1).f1.f2.f1), .int .u64 ((rd_T41 l0_3 x33_1).f1.f3.f0.f0), .int .u64 ((rd_T41 l0_3 x33_1).f1.f3.f0.f1), .int .u64 ((rd_T41 l0_3 x33_1).f1.f3.f1.f0), .int .u64 ((rd_T41 l0_3 x33_1).f1.f3.f1.f1), .int .i64 ((rd_T41 l0_3 x33_1).f1.f4)] 41 (0, 0)) (kl_ BK193) hg (Kd.R_ne HO199.out BK193.out (by decide)))
         replace HO202 := ak_ (Kd.R_after (ok := (fun _ => True)) (rl_ HO202) hg hat)
         replace HB := ak_ hb
         have HO205 := ak_ ho
         clear HO199
         clear ho hb hg hat
         refine hK.out _ _ ⟨kq_ BK193.out 0 rfl, kq_ BK193.out 1 rfl, kq_ BK193.out 2 rfl, kq_ BK193.out 3 rfl, kq_ BK193.out 4 rfl, kq_ BK193.out 5 rfl, kq_ BK193.out 6 rfl, kq_ BK193.out 7 rfl, kq_ BK193.out 8 rfl, kq_ BK193.out 9 rfl, kq_ BK193.out 10 rfl⟩ (fun hHeld => ?_)
         clear hK K
         refine norm_ (a' := ?_) ?_ ?_
         rotate_left
         ·show Act.put _ (some 50) _ = _
          simp only [Act.put, setIfInBounds_toArray, set_cons_zero, set_cons_succ, i64_w, i32_w]
          rfl
         refine pu_ HT_ 14 (some 5) (bA4 15 15) ?_
         refine done_ (done_of HT_.out (by kernel_rfl)) ?_
         try go_wp2
         go_roundg k1
         case measure => have := HK1.out; omega
         case rel => exact ⟨(y203), (wrap64 (x33_1 + 1)), rf_, H', ⟨by have := HK1.out; omega⟩, ⟨by (with_reducible repeat (first | apply Kd.R_alloc | apply Kd.R_drewN | apply Kd.R_drew)); exact Kd.R_mono HO205.out (fun _ hk => trivial)⟩, ⟨kl_ BK181⟩, ⟨bw2_ HB GE181 GE193⟩⟩
        ·rw [if_neg c25] at H
         exact absurd H (by simp)
       ·rw [if_neg c21] at H
        exact absurd H (by simp)
      ·rw [if_neg c20] at H
       exact absurd H (by simp)
     ·rw [if_neg c19] at H
      have c19b0 := decide_eq_false c19
      clear c19
      replace H := bind_eq_some_iff.mp H
      obtain ⟨t206, A380, H⟩ := H
      replace H : (if x5_1.length + t206.length < 140737488355328 then (some ((x5_1 ++ t206), 0)) else (none)) = some (r1, r2) := H
      have A38 := ak_ A380
      clear A380
      by_cases c39 : x5_1.length + t206.length < 140737488355328
      ·rw [if_pos c39] at H
       have LMc39 := ak_ c39
       clear c39
       obtain ⟨y209, hy209⟩ : ∃ y_ : List Int, y_ = (x5_1 ++ t206) := ⟨_, rfl⟩
       replace H : (some (y209, 0)) = some (r1, r2) := by first | (rw [hy209]; with_reducible exact H) | (have H2_ := (Option.bind_some _ _).symm.trans H; rw [hy209]; with_reducible exact H2_) | (have H2_ := (Option.bind_some _ _).symm.trans H; with_reducible exact H2_) | with_reducible exact H | (rw [hy209]; exact H) | exact H
       have Ny209 := ak_ hy209
       clear hy209
       simp only [some.injEq, Prod.mk.injEq] at H
       obtain ⟨rfl, rfl⟩ := H
       obtain ⟨hcz40_0, hcz40_1, hcz40_2, hcz40_3, hcz40_4, hcz40_5, hcz40_6, hcz40_7, hcz40_8, hcz40_9, hcz40_10, hcz40_11, hcz40_12, hfz40_0, hfz40_1, hfz40_2, hfz40_3, hfz40_4, hfz40_5, hfz40_6, hfz40_7, hfz40_8, hfz40_9, hfz40_10, hfz40_11, hfz40_12⟩ := kc13_ BK181.out
       go_wp2_with (first | ((with_reducible refine gate_callee (f := 51) rfl ?_); refine gl_ (some 56) func51 #[.agg #[.int .u64 a0_8, .int .u64 a0_9, .int .u64 a0_10, .int .u64 a0_11]] ?_; (with_reducible refine (seal_Octets.calls k1 a0_8 a0_9 a0_10 a0_11 t206 _ A38.out).mono ?_); rintro e w41 ⟨v207, rfl, ho0, hb⟩; refine ⟨_, rfl, ?_⟩; have HO208 := ak_ (Kd.R_lower (Kd.R_new' ho0 (Kd.R_lt (rl_ HO_5))) (bz_ (bw1_ HB GE181))); replace HO_5 := ak_ (Kd.R_elder' (rl_ HO_5) (Kd.R_base ho0) hb); replace BK181 := ak_ (kb_ (kl_ BK181) hb); replace HB := ak_ (bt_ (bw1_ HB GE181) hb); (try clear hb); (try clear hk); (try clear ho0); obtain ⟨Ao43, co43, eo43⟩ := Kd.R_slice HO208.out; subst eo43) | ((with_reducible refine gate_builtin (b := .append) (xs := #[.tmp 52, .tmp 56]) rfl ?_); at_builtin; refine Kd.R_append_rows (Kd.int .u8) (w0 := w) w.heap.size rfl (.tmp 52) (.tmp 56) 35 5 (.int .u8 0) 1 rfl underlying35 info5 rfl (by decide) (by omega) u5 x5_1 t206 _ _ _ (fun k_ => some k_ ≠ (.slice Ao43 t206.length co43 : Value).ownBlock) (fun _ => False) rfl rfl ?aO ?aR (fun _ _ h => h) (fun _ h => h.elim) ?aF ?aB ?aS ?aL ?_; (case aR => repeat (first | exact (Kd.R_reads' HO208.out).2.2 | (with_reducible refine Kd.C_alloc ?_ _) | (with_reducible refine Kd.C_drewN ?_ _) | (with_reducible refine Kd.C_drew ?_))); (case aB => exact (bw1_ HB GE181)); (case aF => exact (fun k_ hk => Kd.fresh' (Kd.R_lt (rl_ HO208)) k_ hk)); (case aO => exact (by (with_reducible repeat (first | apply Kd.R_alloc | apply Kd.R_drewN | apply Kd.R_drew)); exact Kd.R_mono HO_5.out (fun _ hk => hk.2))); (case aS => exact (bz_ (bw1_ HB GE181))); (case aL => have := LMc39.out; omega); intro v210 w42 ho hb hg hat; rw [← Ny209.out] at ho; replace BK181 := ak_ (blk_grown (g := gb181) (o := .cells #[.int .i64 a0_0, .int .i64 a0_1, .int .i64 a0_2, .slice A0_3 l0_3.length c0_3, .bool a0_4, .bool a0_5, .int .u64 a0_6, .int .u64 a0_7, .int .u64 a0_8, .int .u64 a0_9, .int .u64 a0_10, .int .u64 a0_11, .int .i64 a0_12] 31 (0, 0)) (kl_ BK181) hg (Kd.R_ne HO_5.out BK181.out (by decide))); replace HO208 := ak_ (Kd.R_after (ok := (fun _ => True)) (rl_ HO208) hg hat); replace HB := ak_ hb; have HO211 := ak_ ho; clear HO_5; clear ho hb hg hat))
       go_wp2_with (first | ((with_reducible refine gate_callee (f := 51) rfl ?_); refine gl_ (some 56) func51 #[.agg #[.int .u64 a0_8, .int .u64 a0_9, .int .u64 a0_10, .int .u64 a0_11]] ?_; (with_reducible refine (seal_Octets.calls k1 a0_8 a0_9 a0_10 a0_11 t206 _ A38.out).mono ?_); rintro e w41 ⟨v207, rfl, ho0, hb⟩; refine ⟨_, rfl, ?_⟩; have HO208 := ak_ (Kd.R_lower (Kd.R_new' ho0 (Kd.R_lt (rl_ HO_5))) (bz_ (bw1_ HB GE181))); replace HO_5 := ak_ (Kd.R_elder' (rl_ HO_5) (Kd.R_base ho0) hb); replace BK181 := ak_ (kb_ (kl_ BK181) hb); replace HB := ak_ (bt_ (bw1_ HB GE181) hb); (try clear hb); (try clear hk); (try clear ho0); obtain ⟨Ao43, co43, eo43⟩ := Kd.R_slice HO208.out; subst eo43) | ((with_reducible refine gate_builtin (b := .append) (xs := #[.tmp 52, .tmp 56]) rfl ?_); at_builtin; refine Kd.R_append_rows (Kd.int .u8) (w0 := w) w.heap.size rfl (.tmp 52) (.tmp 56) 35 5 (.int .u8 0) 1 rfl underlying35 info5 rfl (by decide) (by omega) u5 x5_1 t206 _ _ _ (fun k_ => some k_ ≠ (.slice Ao43 t206.length co43 : Value).ownBlock) (fun _ => False) rfl rfl ?aO ?aR (fun _ _ h => h) (fun _ h => h.elim) ?aF ?aB ?aS ?aL ?_; (case aR => repeat (first | exact (Kd.R_reads' HO208.out).2.2 | (with_reducible refine Kd.C_alloc ?_ _) | (with_reducible refine Kd.C_drewN ?_ _) | (with_reducible refine Kd.C_drew ?_))); (case aB => exact (bw1_ HB GE181)); (case aF => exact (fun k_ hk => Kd.fresh' (Kd.R_lt (rl_ HO208)) k_ hk)); (case aO => exact (by (with_reducible repeat (first | apply Kd.R_alloc | apply Kd.R_drewN | apply Kd.R_drew)); exact Kd.R_mono HO_5.out (fun _ hk => hk.2))); (case aS => exact (bz_ (bw1_ HB GE181))); (case aL => have := LMc39.out; omega); intro v210 w42 ho hb hg hat; rw [← Ny209.out] at ho; replace BK181 := ak_ (blk_grown (g := gb181) (o := .cells #[.int .i64 a0_0, .int .i64 a0_1, .int .i64 a0_2, .slice A0_3 l0_3.length c0_3, .bool a0_4, .bool a0_5, .int .u64 a0_6, .int .u64 a0_7, .int .u64 a0_8, .int .u64 a0_9, .int .u64 a0_10, .int .u64 a0_11, .int .i64 a0_12] 31 (0, 0)) (kl_ BK181) hg (Kd.R_ne HO_5.out BK181.out (by decide))); replace HO208 := ak_ (Kd.R_after (ok := (fun _ => True)) (rl_ HO208) hg hat); replace HB := ak_ hb; have HO211 := ak_ ho; clear HO_5; clear ho hb hg hat))
       go_ret2
       exact ⟨_, by first | rfl | (simp <;> rfl) | (simp [*] <;> rfl), by (with_reducible repeat (first | apply Kd.R_alloc | apply Kd.R_drewN | apply Kd.R_drew)); exact Kd.R_mono HO211.out (fun _ hk => trivial), bw1_ HB GE181⟩
      ·rw [if_neg c39] at H
       exact absurd H (by simp)
  ·rw [if_neg c3] at H
   have c3b0 : (t182 == 0) = false := beq_eq_false_iff_ne.mpr c3
   have c3b1 : (t182 != 0) = true := bne_iff_ne.mpr c3
   simp only [some.injEq, Prod.mk.injEq] at H
   obtain ⟨rfl, rfl⟩ := H
   go_enter func17, ntmps17
   go_wp2_with (first | ((with_reducible refine gate_dst (N := 1) rfl ?_); refine bx_ 1 #[.int .i64 a0_0, .int .i64 a0_1, .int .i64 a0_2, .slice A0_3 l0_3.length c0_3, .bool a0_4, .bool a0_5, .int .u64 a0_6, .int .u64 a0_7, .int .u64 a0_8, .int .u64 a0_9, .int .u64 a0_10, .int .u64 a0_11, .int .i64 a0_12] 31 ?_; intro gb181 hg w44 hbox hb; have BK181 := ak_ hbox; have GW181 := ak_ (gs_ hg HB); have GE181 := ak_ (gs_ hg HB); replace HB := ak_ (bt_ (bl_ HB) hb); clear hb hbox hg; obtain ⟨hcz45_0, hcz45_1, hcz45_2, hcz45_3, hcz45_4, hcz45_5, hcz45_6, hcz45_7, hcz45_8, hcz45_9, hcz45_10, hcz45_11, hcz45_12, hfz45_0, hfz45_1, hfz45_2, hfz45_3, hfz45_4, hfz45_5, hfz45_6, hfz45_7, hfz45_8, hfz45_9, hfz45_10, hfz45_11, hfz45_12⟩ := kc13_ BK181.out) | ((with_reducible refine gate_callee (f := 16) rfl ?_); refine gl_ (some 9) func16 #[.agg #[.int .i64 a0_0, .int .i64 a0_1, .int .i64 a0_2, .slice A0_3 l0_3.length c0_3, .bool a0_4, .bool a0_5, .int .u64 a0_6, .int .u64 a0_7, .int .u64 a0_8, .int .u64 a0_9, .int .u64 a0_10, .int .u64 a0_11, .int .i64 a0_12]] ?_; (with_reducible refine (head_Check.calls k a0_0 a0_1 a0_2 _ _ l0_3 a0_4 a0_5 a0_6 a0_7 a0_8 a0_9 a0_10 a0_11 a0_12 t182 _ ?side1 ?side2 A2.out).mono ?_); (case side1 => repeat (first | exact (Kd.C_below HR0_3.out HB.out) | (with_reducible refine Kd.C_alloc ?_ _) | (with_reducible refine Kd.C_drewN ?_ _) | (with_reducible refine Kd.C_drew ?_))); (case side2 => exact HC0_3.out); rintro e w46 ⟨rfl, hb⟩; refine ⟨_, rfl, ?_⟩; replace BK181 := ak_ (kb_ (kl_ BK181) hb); replace HB := ak_ (bt_ (bw1_ HB GE181) hb); (try clear hb); (try clear hk)))
   go_ret2
   exact ⟨_, by first | rfl | (simp <;> rfl) | (simp [*] <;> rfl), by first | exact Kd.R_nil _ _ _ _ _ | exact Kd.N_nil _ _ _ _ _ | exact Kd.V_nil _ _ _ _ _ | exact Kd.Q_nil _ _ _ _ _ | exact Kd.S_nil _ _ _ _ _, bw1_ HB GE181⟩
def head_Length.f (a0 : Int) : Option (Int × Int) := if a0 < 0 then (some (0, 1)) else (if a0 > 32768 then (some (0, 1)) else (some (wrap64 ((wrap64 (15 + (wrap64 (48 * a0)))) + 32), 0)))
set_option maxHeartbeats 8000000 in
set_option maxRecDepth 100000 in
theorem head_Length.calls (a0 : Int) (r1 : Int) (r2 : Int) (w : World) (h : head_Length.f a0 = some (r1, r2)) :
   Calls Try.prog 18 #[.int .i64 a0] w fun e w' => e = .returned (.tuple #[.int .i64 r1, .int .i64 r2]) ∧ Drawn0 w w' := by
  have H : (if a0 < 0 then (some (0, 1)) else (if a0 > 32768 then (some (0, 1)) else (some (wrap64 ((wrap64 (15 + (wrap64 (48 * a0)))) + 32), 0)))) = some (r1, r2) := h
  clear h
  by_cases c2 : a0 < 0
  ·rw [if_pos c2] at H
   have c2b0 := decide_eq_true c2
   clear c2
   simp only [some.injEq, Prod.mk.injEq] at H
   obtain ⟨rfl, rfl⟩ := H
   go_enter func18, ntmps18
   go_wp2
   go_ret2
   exact ⟨by first | rfl | (simp; done) | (simp [*]; done), by repeat (first | exact Drawn0.refl _ | apply Drawn0.step)⟩
  ·rw [if_neg c2] at H
   have c2b0 := decide_eq_false c2
   clear c2
   by_cases c3 : a0 > 32768
   ·rw [if_pos c3] at H
    have c3b0 : decide (32768 < a0) = true := decide_eq_true c3
    clear c3
    simp only [some.injEq, Prod.mk.injEq] at H
    obtain ⟨rfl, rfl⟩ := H
    go_enter func18, ntmps18
    go_wp2
    go_ret2
    exact ⟨by first | rfl | (simp; done) | (simp [*]; done), by repeat (first | exact Drawn0.refl _ | apply Drawn0.step)⟩
   ·rw [if_neg c3] at H
    have c3b0 : decide (32768 < a0) = false := decide_eq_false c3
    clear c3
    simp only [some.injEq, Prod.mk.injEq] at H
    obtain ⟨rfl, rfl⟩ := H
    go_enter func18, ntmps18
    go_wp2
    go_ret2
    exact ⟨by first | rfl | (simp; done) | (simp [*]; done), by repeat (first | exact Drawn0.refl _ | apply Drawn0.step)⟩
def medlarlaw16_live.f (k : Nat)  : Option (Bool) := (head_Bytes.f k 2 3 1 ([] : List (S41)) false true 0 0 0 0 0 0 0).bind fun bt212 => ((head_Length.f 0).bind fun bt216 => (if bt212.2 = 0 then (if bt216.2 = 0 then (if (bt212.1.length : Int) = 47 then (if bt216.1 = 47 then (if 0 < (bt212.1.length : Int) then (if (rd bt212.1 0) = 1 then (if 1 < (bt212.1.length : Int) then (some ((rd bt212.1 1) == 2)) else (none)) else (some false)) else (none)) else (some false)) else (some false)) else (some false)) else (some false)))
theorem medlarlaw16_live.mono : ∀ k, LeO (medlarlaw16_live.f k ) (medlarlaw16_live.f (k + 1) ) := by
  intro  k
  unfold medlarlaw16_live.f
  repeat' first | (with_reducible first | exact head_Bytes.mono .. | exact LeO.refl _ | exact LeO.none _ | refine LeO.ite ?_ ?_ | refine LeO.bind ?_ (fun _ => ?_)) | exact head_Bytes.mono .. | refine LeO.ite ?_ ?_ | refine LeO.bind ?_ (fun _ => ?_)
set_option maxHeartbeats 8000000 in
set_option maxRecDepth 100000 in
theorem medlarlaw16_live.calls (k : Nat)  (r : Bool) (w : World) (h : medlarlaw16_live.f k  = some r) :
   Calls Try.prog 15 #[] w fun e w' => e = .returned (.bool r) ∧ Below w.heap.size w w' := by
  have hu29 := underlying29
  have hu31 := underlying31
  have HB := ak_ (Below.refl w.heap.size w)
  have H : ((head_Bytes.f k 2 3 1 ([] : List (S41)) false true 0 0 0 0 0 0 0).bind fun bt212 => ((head_Length.f 0).bind fun bt216 => (if bt212.2 = 0 then (if bt216.2 = 0 then (if (bt212.1.length : Int) = 47 then (if bt216.1 = 47 then (if 0 < (bt212.1.length : Int) then (if (rd bt212.1 0) = 1 then (if 1 < (bt212.1.length : Int) then (some ((rd bt212.1 1) == 2)) else (none)) else (some false)) else (none)) else (some false)) else (some false)) else (some false)) else (some false)))) = some r := h
  clear h
  replace H := bind_eq_some_iff.mp H
  obtain ⟨⟨t212, t215⟩, A10, H⟩ := H
  replace H : ((head_Length.f 0).bind fun bt216 => (if t215 = 0 then (if bt216.2 = 0 then (if (t212.length : Int) = 47 then (if bt216.1 = 47 then (if 0 < (t212.length : Int) then (if (rd t212 0) = 1 then (if 1 < (t212.length : Int) then (some ((rd t212 1) == 2)) else (none)) else (some false)) else (none)) else (some false)) else (some false)) else (some false)) else (some false))) = some r := H
  have A1 := ak_ A10
  clear A10
  replace H := bind_eq_some_iff.mp H
  obtain ⟨⟨t216, t217⟩, A20, H⟩ := H
  replace H : (if t215 = 0 then (if t217 = 0 then (if (t212.length : Int) = 47 then (if t216 = 47 then (if 0 < (t212.length : Int) then (if (rd t212 0) = 1 then (if 1 < (t212.length : Int) then (some ((rd t212 1) == 2)) else (none)) else (some false)) else (none)) else (some false)) else (some false)) else (some false)) else (some false)) = some r := H
  have A2 := ak_ A20
  clear A20
  by_cases c3 : t215 = 0
  ·rw [if_pos c3] at H
   have c3b0 : (t215 == 0) = true := beq_iff_eq.mpr c3
   have c3b1 : (t215 != 0) = false := bne_eq_false_iff_eq.mpr c3
   clear c3
   by_cases c4 : t217 = 0
   ·rw [if_pos c4] at H
    have c4b0 : (t217 == 0) = true := beq_iff_eq.mpr c4
    have c4b1 : (t217 != 0) = false := bne_eq_false_iff_eq.mpr c4
    clear c4
    by_cases c5 : (t212.length : Int) = 47
    ·rw [if_pos c5] at H
     have c5b0 : ((t212.length : Int) == 47) = true := beq_iff_eq.mpr c5
     have c5b1 : ((t212.length : Int) != 47) = false := bne_eq_false_iff_eq.mpr c5
     clear c5
     by_cases c6 : t216 = 47
     ·rw [if_pos c6] at H
      have c6b0 : (t216 == 47) = true := beq_iff_eq.mpr c6
      have c6b1 : (t216 != 47) = false := bne_eq_false_iff_eq.mpr c6
      clear c6
      by_cases c7 : 0 < (t212.length : Int)
      ·rw [if_pos c7] at H
       have c7b0 := decide_eq_true c7
       have c7b1 : decide (0 < t212.length) = true := decide_eq_true (by omega)
       clear c7
       by_cases c8 : (rd t212 0) = 1
       ·rw [if_pos c8] at H
        have c8b0 : ((rd t212 0) == 1) = true := beq_iff_eq.mpr c8
        have c8b1 : ((rd t212 0) != 1) = false := bne_eq_false_iff_eq.mpr c8
        clear c8
        by_cases c9 : 1 < (t212.length : Int)
        ·rw [if_pos c9] at H
         have c9b0 := decide_eq_true c9
         have c9b1 : decide (1 < t212.length) = true := decide_eq_true (by omega)
         clear c9
         obtain rfl := Option.some.inj H
         go_enter func15, ntmps15
         go_wp2_with (first | ((with_reducible refine gate_callee (f := 17) rfl ?_); refine gl_ (some 8) func17 #[.agg #[.int .i64 2, .int .i64 3, .int .i64 1, .slice none 0 0, .bool false, .bool true, .int .u64 0, .int .u64 0, .int .u64 0, .int .u64 0, .int .u64 0, .int .u64 0, .int .i64 0]] ?_; (refine (head_Bytes.calls k 2 3 1 _ _ ([] : List (S41)) false true 0 0 0 0 0 0 0 t212 t215 _ ?side1 ?side2 A1.out).mono ?_); (case side1 => exact Kd.C_nil _ _); (case side2 => exact Nat.le_refl _); rintro e w10 ⟨v213, rfl, ho0, hb⟩; refine ⟨_, rfl, ?_⟩; have HO214 := ak_ (Kd.R_lower ho0 (bz_ (bl_ HB))); replace HB := ak_ (bt_ (bl_ HB) hb); (try clear hb); (try clear hk); (try clear ho0)) | ((with_reducible refine gate_callee (f := 18) rfl ?_); refine gl_ (some 12) func18 #[.int .i64 0] ?_; (with_reducible refine (head_Length.calls 0 t216 t217 _ A2.out).mono ?_); rintro e w' ⟨rfl, ⟨nd, rfl⟩⟩; refine ⟨_, rfl, ?_⟩; obtain ⟨Ao11, co11, eo11⟩ := Kd.R_slice HO214.out; subst eo11; have p218 : 0 ≤ (0 : Int) := (by omega); have q218 : 0 < (t212.length : Int) := od_ (by first | (with_reducible assumption) | assumption); obtain ⟨ad218, e218, hx218_0⟩ := Kd.at_int (Kd.R_reads' HO214.out).2.2 0 p218 q218; cases e218; have qi218 : (0 < t212.length) = True := eq_true (by omega); (try rw [show ((0 : Int)).toNat = 0 from rfl] at hx218_0); (try rw [Addr.add_zero'] at hx218_0); replace p218 := eq_true p218; replace q218 := eq_true q218; have p219 : 0 ≤ (1 : Int) := (by omega); have q219 : 1 < (t212.length : Int) := od_ (by first | (with_reducible assumption) | assumption); obtain ⟨ad219, e219, hx219_0⟩ := Kd.at_int (Kd.R_reads' HO214.out).2.2 1 p219 q219; obtain rfl : ad218 = ad219 := (by injection e219); (try simp only [show (1 : Int).toNat = 1 from rfl, Nat.reduceMul, Nat.reduceEqDiff, Go.Addr.add, ↓reduceIte] at hx219_0); have qi219 : (1 < t212.length) = True := eq_true (by omega); (try rw [show ((1 : Int)).toNat = 1 from rfl] at hx219_0); replace p219 := eq_true p219; replace q219 := eq_true q219))
         go_ret
         exact ea_ (bl_ HB)
        ·rw [if_neg c9] at H
         exact absurd H (by simp)
       ·rw [if_neg c8] at H
        have c8b0 : ((rd t212 0) == 1) = false := beq_eq_false_iff_ne.mpr c8
        have c8b1 : ((rd t212 0) != 1) = true := bne_iff_ne.mpr c8
        obtain rfl := Option.some.inj H
        go_enter func15, ntmps15
        go_wp2_with (first | ((with_reducible refine gate_callee (f := 17) rfl ?_); refine gl_ (some 8) func17 #[.agg #[.int .i64 2, .int .i64 3, .int .i64 1, .slice none 0 0, .bool false, .bool true, .int .u64 0, .int .u64 0, .int .u64 0, .int .u64 0, .int .u64 0, .int .u64 0, .int .i64 0]] ?_; (refine (head_Bytes.calls k 2 3 1 _ _ ([] : List (S41)) false true 0 0 0 0 0 0 0 t212 t215 _ ?side1 ?side2 A1.out).mono ?_); (case side1 => exact Kd.C_nil _ _); (case side2 => exact Nat.le_refl _); rintro e w12 ⟨v213, rfl, ho0, hb⟩; refine ⟨_, rfl, ?_⟩; have HO214 := ak_ (Kd.R_lower ho0 (bz_ (bl_ HB))); replace HB := ak_ (bt_ (bl_ HB) hb); (try clear hb); (try clear hk); (try clear ho0)) | ((with_reducible refine gate_callee (f := 18) rfl ?_); refine gl_ (some 12) func18 #[.int .i64 0] ?_; (with_reducible refine (head_Length.calls 0 t216 t217 _ A2.out).mono ?_); rintro e w' ⟨rfl, ⟨nd, rfl⟩⟩; refine ⟨_, rfl, ?_⟩; obtain ⟨Ao13, co13, eo13⟩ := Kd.R_slice HO214.out; subst eo13; have p218 : 0 ≤ (0 : Int) := (by omega); have q218 : 0 < (t212.length : Int) := od_ (by first | (with_reducible assumption) | assumption); obtain ⟨ad218, e218, hx218_0⟩ := Kd.at_int (Kd.R_reads' HO214.out).2.2 0 p218 q218; cases e218; have qi218 : (0 < t212.length) = True := eq_true (by omega); (try rw [show ((0 : Int)).toNat = 0 from rfl] at hx218_0); (try rw [Addr.add_zero'] at hx218_0); replace p218 := eq_true p218; replace q218 := eq_true q218))
        go_ret
        exact ea_ (bl_ HB)
      ·rw [if_neg c7] at H
       exact absurd H (by simp)
     ·rw [if_neg c6] at H
      have c6b0 : (t216 == 47) = false := beq_eq_false_iff_ne.mpr c6
      have c6b1 : (t216 != 47) = true := bne_iff_ne.mpr c6
      obtain rfl := Option.some.inj H
      go_enter func15, ntmps15
      go_wp2_with (first | ((with_reducible refine gate_callee (f := 17) rfl ?_); refine gl_ (some 8) func17 #[.agg #[.int .i64 2, .int .i64 3, .int .i64 1, .slice none 0 0, .bool false, .bool true, .int .u64 0, .int .u64 0, .int .u64 0, .int .u64 0, .int .u64 0, .int .u64 0, .int .i64 0]] ?_; (refine (head_Bytes.calls k 2 3 1 _ _ ([] : List (S41)) false true 0 0 0 0 0 0 0 t212 t215 _ ?side1 ?side2 A1.out).mono ?_); (case side1 => exact Kd.C_nil _ _); (case side2 => exact Nat.le_refl _); rintro e w14 ⟨v213, rfl, ho0, hb⟩; refine ⟨_, rfl, ?_⟩; have HO214 := ak_ (Kd.R_lower ho0 (bz_ (bl_ HB))); replace HB := ak_ (bt_ (bl_ HB) hb); (try clear hb); (try clear hk); (try clear ho0)) | ((with_reducible refine gate_callee (f := 18) rfl ?_); refine gl_ (some 12) func18 #[.int .i64 0] ?_; (with_reducible refine (head_Length.calls 0 t216 t217 _ A2.out).mono ?_); rintro e w' ⟨rfl, ⟨nd, rfl⟩⟩; refine ⟨_, rfl, ?_⟩; obtain ⟨Ao15, co15, eo15⟩ := Kd.R_slice HO214.out; subst eo15))
      go_ret
      exact ea_ (bl_ HB)
    ·rw [if_neg c5] at H
     have c5b0 : ((t212.length : Int) == 47) = false := beq_eq_false_iff_ne.mpr c5
     have c5b1 : ((t212.length : Int) != 47) = true := bne_iff_ne.mpr c5
     obtain rfl := Option.some.inj H
     go_enter func15, ntmps15
     go_wp2_with (first | ((with_reducible refine gate_callee (f := 17) rfl ?_); refine gl_ (some 8) func17 #[.agg #[.int .i64 2, .int .i64 3, .int .i64 1, .slice none 0 0, .bool false, .bool true, .int .u64 0, .int .u64 0, .int .u64 0, .int .u64 0, .int .u64 0, .int .u64 0, .int .i64 0]] ?_; (refine (head_Bytes.calls k 2 3 1 _ _ ([] : List (S41)) false true 0 0 0 0 0 0 0 t212 t215 _ ?side1 ?side2 A1.out).mono ?_); (case side1 => exact Kd.C_nil _ _); (case side2 => exact Nat.le_refl _); rintro e w16 ⟨v213, rfl, ho0, hb⟩; refine ⟨_, rfl, ?_⟩; have HO214 := ak_ (Kd.R_lower ho0 (bz_ (bl_ HB))); replace HB := ak_ (bt_ (bl_ HB) hb); (try clear hb); (try clear hk); (try clear ho0)) | ((with_reducible refine gate_callee (f := 18) rfl ?_); refine gl_ (some 12) func18 #[.int .i64 0] ?_; (with_reducible refine (head_Length.calls 0 t216 t217 _ A2.out).mono ?_); rintro e w' ⟨rfl, ⟨nd, rfl⟩⟩; refine ⟨_, rfl, ?_⟩; obtain ⟨Ao17, co17, eo17⟩ := Kd.R_slice HO214.out; subst eo17))
     go_ret
     exact ea_ (bl_ HB)
   ·rw [if_neg c4] at H
    have c4b0 : (t217 == 0) = false := beq_eq_false_iff_ne.mpr c4
    have c4b1 : (t217 != 0) = true := bne_iff_ne.mpr c4
    obtain rfl := Option.some.inj H
    go_enter func15, ntmps15
    go_wp2_with (first | ((with_reducible refine gate_callee (f := 17) rfl ?_); refine gl_ (some 8) func17 #[.agg #[.int .i64 2, .int .i64 3, .int .i64 1, .slice none 0 0, .bool false, .bool true, .int .u64 0, .int .u64 0, .int .u64 0, .int .u64 0, .int .u64 0, .int .u64 0, .int .i64 0]] ?_; (refine (head_Bytes.calls k 2 3 1 _ _ ([] : List (S41)) false true 0 0 0 0 0 0 0 t212 t215 _ ?side1 ?side2 A1.out).mono ?_); (case side1 => exact Kd.C_nil _ _); (case side2 => exact Nat.le_refl _); rintro e w18 ⟨v213, rfl, ho0, hb⟩; refine ⟨_, rfl, ?_⟩; have HO214 := ak_ (Kd.R_lower ho0 (bz_ (bl_ HB))); replace HB := ak_ (bt_ (bl_ HB) hb); (try clear hb); (try clear hk); (try clear ho0)) | ((with_reducible refine gate_callee (f := 18) rfl ?_); refine gl_ (some 12) func18 #[.int .i64 0] ?_; (with_reducible refine (head_Length.calls 0 t216 t217 _ A2.out).mono ?_); rintro e w' ⟨rfl, ⟨nd, rfl⟩⟩; refine ⟨_, rfl, ?_⟩))
    go_ret
    exact ea_ (bl_ HB)
  ·rw [if_neg c3] at H
   have c3b0 : (t215 == 0) = false := beq_eq_false_iff_ne.mpr c3
   have c3b1 : (t215 != 0) = true := bne_iff_ne.mpr c3
   obtain rfl := Option.some.inj H
   go_enter func15, ntmps15
   go_wp2_with (first | ((with_reducible refine gate_callee (f := 17) rfl ?_); refine gl_ (some 8) func17 #[.agg #[.int .i64 2, .int .i64 3, .int .i64 1, .slice none 0 0, .bool false, .bool true, .int .u64 0, .int .u64 0, .int .u64 0, .int .u64 0, .int .u64 0, .int .u64 0, .int .i64 0]] ?_; (refine (head_Bytes.calls k 2 3 1 _ _ ([] : List (S41)) false true 0 0 0 0 0 0 0 t212 t215 _ ?side1 ?side2 A1.out).mono ?_); (case side1 => exact Kd.C_nil _ _); (case side2 => exact Nat.le_refl _); rintro e w19 ⟨v213, rfl, ho0, hb⟩; refine ⟨_, rfl, ?_⟩; have HO214 := ak_ (Kd.R_lower ho0 (bz_ (bl_ HB))); replace HB := ak_ (bt_ (bl_ HB) hb); (try clear hb); (try clear hk); (try clear ho0)) | ((with_reducible refine gate_callee (f := 18) rfl ?_); refine gl_ (some 12) func18 #[.int .i64 0] ?_; (with_reducible refine (head_Length.calls 0 t216 t217 _ A2.out).mono ?_); rintro e w' ⟨rfl, ⟨nd, rfl⟩⟩; refine ⟨_, rfl, ?_⟩))
   go_ret
   exact ea_ (bl_ HB)
def mix_read.l0 : Nat → List Int → Int → Int → Int → Int → Option (Int × Int)
  | 0, _, _, _, _, _ => none
  | k + 1, l, x, y, n, i => if i < n then (if 0 ≤ i then (if i < (l.length : Int) then (if 0 ≤ (wrap64 ((Int.tmod i 8) * 8)) then (if (wrap64 (Int.tdiv i 8)) = 0 then (mix_read.l0 k l (Go.bits .or .u64 x (shl .u64 (IntKind.u64.wrap (rd l i)) (wrap64 ((Int.tmod i 8) * 8)))) y n (wrap64 (i + 1))) else (if (wrap64 (Int.tdiv i 8)) = 1 then (mix_read.l0 k l x (Go.bits .or .u64 y (shl .u64 (IntKind.u64.wrap (rd l i)) (wrap64 ((Int.tmod i 8) * 8)))) n (wrap64 (i + 1))) else none)) else none) else none) else none) else (some (x, y))
def mix_read.f (k : Nat) (l0 : List Int) : Option (Int × Int) := mix_read.l0 k l0 0 0 (l0.length : Int) 0
theorem mix_read.mono_l : ∀ k, (∀ y0 y1 y2 y3 y4, LeO (mix_read.l0 k y0 y1 y2 y3 y4) (mix_read.l0 (k + 1) y0 y1 y2 y3 y4))
  | 0 => fun _ _ _ _ _ r h => by simp [mix_read.l0] at h
  | k + 1 => by
   have ih0 := mix_read.mono_l k
   ·intro y0 y1 y2 y3 y4
    unfold mix_read.l0
    repeat' first
    | (with_reducible exact ih0 _ _ _ _ _)
    | (with_reducible exact LeO.refl _)
    | (with_reducible exact LeO.none _)
    | (with_reducible refine LeO.ite ?_ ?_)
    | exact ih0 _ _ _ _ _
    | exact LeO.none _
    | refine LeO.ite ?_ ?_
theorem mix_read.mono : ∀ a0 k, LeO (mix_read.f k a0) (mix_read.f (k + 1) a0) := fun _ k => mix_read.mono_l k _ _ _ _ _
set_option maxHeartbeats 8000000 in
set_option maxRecDepth 100000 in
theorem mix_read.calls (k : Nat) (A0 : Option Addr) (c0 : Nat) (l0 : List Int) (r1 : Int) (r2 : Int) (w : World) (hr0 : Kd.C (Kd.int .u8) w A0 l0.length l0) (hc0 : l0.length ≤ c0) (h : mix_read.f k l0 = some (r1, r2)) :
   Calls Try.prog 114 #[.slice A0 l0.length c0] w fun e w' => e = .returned (.agg #[.int .u64 r1, .int .u64 r2]) ∧ Below w.heap.size w w' := by
  have HR0 := ak_ hr0
  clear hr0 hc0
  have hu_b := underlying25
  have HB := ak_ (Below.refl w.heap.size w)
  have H : mix_read.l0 k l0 0 0 (l0.length : Int) 0 = some (r1, r2) := h
  clear h
  have H' := ak_ H
  clear H
  go_enter func114, ntmps114
  go_wp2_with (first | ((with_reducible refine gate_dst (N := 2) rfl ?_); refine bx_ 2 #[.int .u64 0, .int .u64 0] 25 ?_; intro g hg w1 hbox hb; have GE := ak_ (show w.heap.size ≤ g by rw [hg]; exact Nat.le_refl _); have n0_ := ak_ hb; have BK := ak_ hbox; clear HB; have HB := n0_; clear n0_ hb hbox hg))
  go_loopg [7] k (fun kq v7 w' => ∃ (x y i : Int), v7 = .int .i64 i ∧ Aside0 (mix_read.l0 kq l0 x y (l0.length : Int) i = some (r1, r2)) ∧ Aside0 (kq ≤ k) ∧ Aside0 (w'.heap[g]? = some (.cells #[.int .u64 x, .int .u64 y] 25 (0, 0))) ∧ Aside0 (Below w.heap.size w w'))
  case atStart => exact ⟨0, 0, 0, (by first | rfl | (simp; done)), H', ⟨Nat.le_refl _⟩, ⟨BK.out⟩, ⟨HB.out⟩⟩
  case round =>
   clear H' BK HB
   obtain ⟨x, y, i, rfl, HA, HK1, BK, HB⟩ := hrel
   have BK0 := ak_ BK.out
   cases gk with
   | zero => exact absurd HA.out (by simp [mix_read.l0])
   | succ k1 =>
    have H := HA.out
    clear HA
    simp only [mix_read.l0] at H
    have hx0 : wr.cell? ⟨g, 0, none⟩ = some (.int .u64 x) := (kc_ BK.out 0).trans rfl
    have hx1 : wr.cell? ⟨g, 1, none⟩ = some (.int .u64 y) := (kc_ BK.out 1).trans rfl
    have hf0 := kf_ BK.out 0
    have hf1 := kf_ BK.out 1
    by_cases c6 : i < (l0.length : Int)
    ·rw [if_pos c6] at H
     have c6b0 := decide_eq_true c6
     by_cases c7 : 0 ≤ i
     ·rw [if_pos c7, if_pos c6] at H
      obtain ⟨ad, e_, hxl⟩ := Kd.at_int HR0.out i c7 c6
      cases e_
      replace hxl := cx_ HB hxl
      have c7b := eq_true c7
      have c6b := eq_true c6
      clear c6 c7
      obtain ⟨ji, hji⟩ : ∃ j_ : Int, wrap64 ((Int.tmod i 8) * 8) = j_ := ⟨_, rfl⟩
      rw [hji] at H
      have hjiw : (IntKind.i64.wrap ((Int.tmod i 8) * 8)) = ji := (i64_w _).trans hji
      by_cases c8 : 0 ≤ ji
      ·rw [if_pos c8] at H
       have c8b0 := eq_true c8
       have c8b1 := decide_eq_true c8
       clear c8
       obtain ⟨jq, hjq⟩ : ∃ j_ : Int, wrap64 (Int.tdiv i 8) = j_ := ⟨_, rfl⟩
       rw [hjq] at H
       have hjqw : (IntKind.i64.wrap (Int.tdiv i 8)) = jq := (i64_w _).trans hjq
       by_cases c9 : jq = 0
       ·rw [if_pos c9] at H
        subst c9
        have H' := ak_ H
        clear H
        go_wp2
        go_region
        all_goals
         go_wp2
         go_roundg k1
         case measure => have := HK1.out; omega
         case rel => exact ⟨_, y, _, rfl, H', ⟨by have := HK1.out; omega⟩, ⟨blk_put BK0.out 0 _ rfl⟩, ⟨(below_set HB.out GE.out).drew⟩⟩
       ·rw [if_neg c9] at H
        by_cases c10 : jq = 1
        ·rw [if_pos c10] at H
         subst c10
         have H' := ak_ H
         clear H
         go_wp2
         go_region
         all_goals
          go_wp2
          go_roundg k1
          case measure => have := HK1.out; omega
          case rel => exact ⟨x, _, _, rfl, H', ⟨by have := HK1.out; omega⟩, ⟨blk_put BK0.out 1 _ rfl⟩, ⟨(below_set HB.out GE.out).drew⟩⟩
        ·rw [if_neg c10] at H
         exact absurd H (by simp)
      ·rw [if_neg c8] at H
       exact absurd H (by simp)
     ·rw [if_neg c7] at H
      exact absurd H (by simp)
    ·rw [if_neg c6] at H
     have c6b0 := decide_eq_false c6
     clear c6
     simp only [some.injEq, Prod.mk.injEq] at H
     obtain ⟨rfl, rfl⟩ := H
     go_wp2
     refine bodyPost_ret (results_cell_row rfl _ _ g 25 #[.int .u64 x, .int .u64 y] (0, 0) _ rfl (blk_put (blk_put BK.out 0 _ rfl) 1 _ rfl) underlying25 rfl (by kernel_rfl)) rfl ?_
     exact ⟨rfl, below_set (below_set HB.out GE.out) GE.out⟩
def mix_Of.f (k : Nat) (l0 : List Int) : Option (Int × Int × Int) := if (l0.length : Int) = 16 then ((mix_read.f k l0).bind fun bt221 => (some (bt221.1, bt221.2, 0))) else (some (0, 0, 2))
theorem mix_Of.mono : ∀ a0 k, LeO (mix_Of.f k a0) (mix_Of.f (k + 1) a0) := by
  intro a0 k
  unfold mix_Of.f
  repeat' first | (with_reducible first | exact mix_read.mono .. | exact LeO.refl _ | exact LeO.none _ | refine LeO.ite ?_ ?_ | refine LeO.bind ?_ (fun _ => ?_)) | exact mix_read.mono .. | refine LeO.ite ?_ ?_ | refine LeO.bind ?_ (fun _ => ?_)
set_option maxHeartbeats 8000000 in
set_option maxRecDepth 100000 in
theorem mix_Of.calls (k : Nat) (A0 : Option Addr) (c0 : Nat) (l0 : List Int) (r1 : Int) (r2 : Int) (r3 : Int) (w : World) (hr0 : Kd.C (Kd.int .u8) w A0 l0.length l0) (hc0 : l0.length ≤ c0) (h : mix_Of.f k l0 = some (r1, r2, r3)) :
   Calls Try.prog 79 #[.slice A0 l0.length c0] w fun e w' => e = .returned (.tuple #[.agg #[.int .u64 r1, .int .u64 r2], .int .i64 r3]) ∧ Below w.heap.size w w' := by
  have hu25 := underlying25
  have HR0 := ak_ hr0
  have HC0 := ak_ hc0
  clear hr0 hc0
  have HB := ak_ (Below.refl w.heap.size w)
  have H : (if (l0.length : Int) = 16 then ((mix_read.f k l0).bind fun bt221 => (some (bt221.1, bt221.2, 0))) else (some (0, 0, 2))) = some (r1, r2, r3) := h
  clear h
  by_cases c2 : (l0.length : Int) = 16
  ·rw [if_pos c2] at H
   have c2b0 : ((l0.length : Int) == 16) = true := beq_iff_eq.mpr c2
   have c2b1 : ((l0.length : Int) != 16) = false := bne_eq_false_iff_eq.mpr c2
   clear c2
   replace H := bind_eq_some_iff.mp H
   obtain ⟨⟨t221, t222⟩, A30, H⟩ := H
   replace H : (some (t221, t222, 0)) = some (r1, r2, r3) := H
   have A3 := ak_ A30
   clear A30
   simp only [some.injEq, Prod.mk.injEq] at H
   obtain ⟨rfl, rfl, rfl⟩ := H
   go_enter func79, ntmps79
   go_wp2_with (first | ((with_reducible refine gate_dst (N := 2) rfl ?_); refine bx_ 2 #[.int .u64 0, .int .u64 0] 25 ?_; intro gb220 hg w4 hbox hb; have BK220 := ak_ hbox; have GW220 := ak_ (gs_ hg HB); have GE220 := ak_ (gs_ hg HB); replace HB := ak_ (bt_ (bl_ HB) hb); clear hb hbox hg) | ((with_reducible refine gate_callee (f := 114) rfl ?_); refine gl_ (some 9) func114 #[.slice A0 l0.length c0] ?_; (with_reducible refine (mix_read.calls k _ _ l0 t221 t222 _ ?side1 ?side2 A3.out).mono ?_); (case side1 => repeat (first | exact (Kd.C_below HR0.out HB.out) | (with_reducible refine Kd.C_alloc ?_ _) | (with_reducible refine Kd.C_drewN ?_ _) | (with_reducible refine Kd.C_drew ?_))); (case side2 => exact HC0.out); rintro e w5 ⟨rfl, hb⟩; refine ⟨_, rfl, ?_⟩; replace BK220 := ak_ (kb_ (kl_ BK220) hb); replace HB := ak_ (bt_ (bw1_ HB GE220) hb); (try clear hb); (try clear hk); obtain ⟨hcz6_0, hcz6_1, hfz6_0, hfz6_1⟩ := kc2_ BK220.out))
   refine bodyPost_ret (results_ct rfl _ _ gb220 25 #[.int .u64 t221, .int .u64 t222] (0, 0) _ rfl (by (with_reducible repeat (first | refine kn_ ?_ _ | refine kd_ ?_ | refine ka_ ?_ _)); exact sC_blk BK220.out rfl rfl) underlying25 rfl (by kernel_rfl)) rfl ?_
   exact ea_ (bw1_ HB GE220)
  ·rw [if_neg c2] at H
   have c2b0 : ((l0.length : Int) == 16) = false := beq_eq_false_iff_ne.mpr c2
   have c2b1 : ((l0.length : Int) != 16) = true := bne_iff_ne.mpr c2
   simp only [some.injEq, Prod.mk.injEq] at H
   obtain ⟨rfl, rfl, rfl⟩ := H
   go_enter func79, ntmps79
   go_wp2_with (first | ((with_reducible refine gate_dst (N := 2) rfl ?_); refine bx_ 2 #[.int .u64 0, .int .u64 0] 25 ?_; intro gb220 hg w7 hbox hb; have BK220 := ak_ hbox; have GW220 := ak_ (gs_ hg HB); have GE220 := ak_ (gs_ hg HB); replace HB := ak_ (bt_ (bl_ HB) hb); clear hb hbox hg; obtain ⟨hcz8_0, hcz8_1, hfz8_0, hfz8_1⟩ := kc2_ BK220.out))
   refine bodyPost_ret (results_ct rfl _ _ gb220 25 #[.int .u64 0, .int .u64 0] (0, 0) _ rfl (by (with_reducible repeat (first | refine kn_ ?_ _ | refine kd_ ?_ | refine ka_ ?_ _)); exact sC_blk BK220.out rfl rfl) underlying25 rfl (by kernel_rfl)) rfl ?_
   exact ea_ (bw1_ HB GE220)
def seal_Of.f (k : Nat) (l0 : List Int) : Option (Int × Int × Int × Int × Int) := if (l0.length : Int) = 32 then (if 16 ≤ (l0.length : Int) then ((mix_Of.f k (l0.take 16)).bind fun bt225 => ((mix_Of.f k (l0.drop 16)).bind fun bt230 => (if bt225.2.2 = 0 then (if bt230.2.2 = 0 then (some (bt225.1, bt225.2.1, bt230.1, bt230.2.1, 0)) else (some (0, 0, 0, 0, 2))) else (some (0, 0, 0, 0, 2))))) else (none)) else (some (0, 0, 0, 0, 2))
theorem seal_Of.mono : ∀ a0 k, LeO (seal_Of.f k a0) (seal_Of.f (k + 1) a0) := by
  intro a0 k
  unfold seal_Of.f
  repeat' first | (with_reducible first | exact mix_Of.mono .. | exact LeO.refl _ | exact LeO.none _ | refine LeO.ite ?_ ?_ | refine LeO.bind ?_ (fun _ => ?_)) | exact mix_Of.mono .. | refine LeO.ite ?_ ?_ | refine LeO.bind ?_ (fun _ => ?_)
set_option maxHeartbeats 8000000 in
set_option maxRecDepth 100000 in
theorem seal_Of.calls (k : Nat) (A0 : Option Addr) (c0 : Nat) (l0 : List Int) (r1 : Int) (r2 : Int) (r3 : Int) (r4 : Int) (r5 : Int) (w : World) (hr0 : Kd.C (Kd.int .u8) w A0 l0.length l0) (hc0 : l0.length ≤ c0) (h : seal_Of.f k l0 = some (r1, r2, r3, r4, r5)) :
   Calls Try.prog 101 #[.slice A0 l0.length c0] w fun e w' => e = .returned (.tuple #[.agg #[.int .u64 r1, .int .u64 r2, .int .u64 r3, .int .u64 r4], .int .i64 r5]) ∧ Below w.heap.size w w' := by
  have hu27 := underlying27
  have hu25 := underlying25
  have HR0 := ak_ hr0
  have HC0 := ak_ hc0
  clear hr0 hc0
  have HB := ak_ (Below.refl w.heap.size w)
  have H : (if (l0.length : Int) = 32 then (if 16 ≤ (l0.length : Int) then ((mix_Of.f k (l0.take 16)).bind fun bt225 => ((mix_Of.f k (l0.drop 16)).bind fun bt230 => (if bt225.2.2 = 0 then (if bt230.2.2 = 0 then (some (bt225.1, bt225.2.1, bt230.1, bt230.2.1, 0)) else (some (0, 0, 0, 0, 2))) else (some (0, 0, 0, 0, 2))))) else (none)) else (some (0, 0, 0, 0, 2))) = some (r1, r2, r3, r4, r5) := h
  clear h
  by_cases c2 : (l0.length : Int) = 32
  ·rw [if_pos c2] at H
   have c2b0 : ((l0.length : Int) == 32) = true := beq_iff_eq.mpr c2
   have c2b1 : ((l0.length : Int) != 32) = false := bne_eq_false_iff_eq.mpr c2
   clear c2
   by_cases c3 : 16 ≤ (l0.length : Int)
   ·rw [if_pos c3] at H
    have c3b0 := eq_true c3
    have c3b1 := decide_eq_true c3
    clear c3
    replace H := bind_eq_some_iff.mp H
    obtain ⟨⟨t225, t226, t227⟩, A40, H⟩ := H
    replace H : ((mix_Of.f k (l0.drop 16)).bind fun bt230 => (if t227 = 0 then (if bt230.2.2 = 0 then (some (t225, t226, bt230.1, bt230.2.1, 0)) else (some (0, 0, 0, 0, 2))) else (some (0, 0, 0, 0, 2)))) = some (r1, r2, r3, r4, r5) := H
    have A4 := ak_ A40
    clear A40
    have c5b0 := eq_true (od_ (by first | (with_reducible assumption) | assumption) : 16 ≤ (l0.length : Int))
    replace H := bind_eq_some_iff.mp H
    obtain ⟨⟨t230, t231, t232⟩, A60, H⟩ := H
    replace H : (if t227 = 0 then (if t232 = 0 then (some (t225, t226, t230, t231, 0)) else (some (0, 0, 0, 0, 2))) else (some (0, 0, 0, 0, 2))) = some (r1, r2, r3, r4, r5) := H
    have A6 := ak_ A60
    clear A60
    by_cases c7 : t227 = 0
    ·rw [if_pos c7] at H
     have c7b0 : (t227 == 0) = true := beq_iff_eq.mpr c7
     have c7b1 : (t227 != 0) = false := bne_eq_false_iff_eq.mpr c7
     clear c7
     by_cases c8 : t232 = 0
     ·rw [if_pos c8] at H
      have c8b0 : (t232 == 0) = true := beq_iff_eq.mpr c8
      have c8b1 : (t232 != 0) = false := bne_eq_false_iff_eq.mpr c8
      clear c8
      simp only [some.injEq, Prod.mk.injEq] at H
      obtain ⟨rfl, rfl, rfl, rfl, rfl⟩ := H
      go_enter func101, ntmps101
      go_wp2_with (first | ((with_reducible refine gate_dst (N := 2) rfl ?_); refine bx_ 2 #[.int .u64 0, .int .u64 0, .int .u64 0, .int .u64 0] 27 ?_; intro gb223 hg w9 hbox hb; have BK223 := ak_ hbox; have GW223 := ak_ (gs_ hg HB); have GE223 := ak_ (gs_ hg HB); replace HB := ak_ (bt_ (bl_ HB) hb); clear hb hbox hg; obtain ⟨i010, hi010, _, hsz10, _⟩ := info_parts info5; obtain ⟨hcut10, hA10, hC10⟩ := print_take_of (P := Try.prog) (Value.int .u8) 0 35 5 .i64 underlying35 hi010 hsz10 A0 c0 l0 16 (by omega) (od_ (by first | (with_reducible assumption) | assumption)) HC0.out; have HR224 := ak_ (Kd.C_of_reads (h1 := fun _ => rfl) (hA10 _ (Kd.reads_of_C HR0.out))); have HC224 := ak_ hC10; clear hA10 hC10 hi010 hsz10) | ((with_reducible refine gate_callee (f := 79) rfl ?_); refine goesL_ (some 15) rfl rfl func79 (by kernel_rfl) rfl #[.slice A0 (l0.take 16).length c0] rfl (by (try simp only [map_toArray, map_cons, map_nil]); first | done | (rw [show (l0.take 16).length = 16 from (by rw [List.length_take]; have h_ : (16 : Int) ≤ (l0.length : Int) := od_ (by first | (with_reducible assumption) | assumption); omega)] <;> rfl) | rfl | (simp only [length_drop, length_take]; rfl)) ?_; (with_reducible refine (mix_Of.calls k _ _ (l0.take 16) t225 t226 t227 _ ?side1 ?side2 A4.out).mono ?_); (case side1 => repeat (first | exact (Kd.C_below HR224.out HB.out) | (with_reducible refine Kd.C_alloc ?_ _) | (with_reducible refine Kd.C_drewN ?_ _) | (with_reducible refine Kd.C_drew ?_))); (case side2 => exact HC224.out); rintro e w11 ⟨rfl, hb⟩; refine ⟨_, rfl, ?_⟩; replace BK223 := ak_ (kb_ (kl_ BK223) hb); replace HB := ak_ (bt_ (bw1_ HB GE223) hb); (try clear hb); (try clear hk)) | ((with_reducible refine gate_dst (N := 4) rfl ?_); refine bx_ 4 #[.int .u64 0, .int .u64 0] 25 ?_; intro gb228 hg w12 hbox hb; have BK228 := ak_ hbox; have GW228 := ak_ (gw1_ HB GE223 hg); have GE228 := ak_ (gw1_ HB GE223 hg); replace HB := ak_ (bt_ (bw1_ HB GE223) hb); have NB223_228 := ak_ (nl_ hg BK223); have NB228_223 := ak_ (nr_ hg BK223); replace BK223 := ak_ (kb_ (kl_ BK223) hb); clear hb hbox hg; have hnb13 := NB228_223.out; have hnc13 := NB223_228.out; obtain ⟨hcz14_0, hcz14_1, hfz14_0, hfz14_1⟩ := kc2_ BK228.out; obtain ⟨i015, hi015, _, hsz15, _⟩ := info_parts info5; obtain ⟨A15, hcut15, hA15, hC15⟩ := print_drop_of (P := Try.prog) (Value.int .u8) 0 35 5 .i64 underlying35 hi015 hsz15 A0 c0 l0 16 (by omega) (od_ (by first | (with_reducible assumption) | assumption)) HC0.out; have HR229 := ak_ (Kd.C_of_reads (h1 := fun _ => rfl) (hA15 _ (Kd.reads_of_C HR0.out))); have HC229 := ak_ hC15; clear hA15 hC15 hi015 hsz15) | ((with_reducible refine gate_callee (f := 79) rfl ?_); refine goesL_ (some 21) rfl rfl func79 (by kernel_rfl) rfl #[.slice A15 (l0.drop 16).length (c0 - 16)] rfl (by (try simp only [map_toArray, map_cons, map_nil]); first | done | (rw [show (l0.drop 16).length = (l0.length - 16) from List.length_drop] <;> rfl) | rfl | (simp only [length_drop, length_take]; rfl)) ?_; (with_reducible refine (mix_Of.calls k _ _ (l0.drop 16) t230 t231 t232 _ ?side1 ?side2 A6.out).mono ?_); (case side1 => exact Kd.C_below HR229.out (bw2_ HB GE223 GE228)); (case side2 => exact HC229.out); rintro e w16 ⟨rfl, hb⟩; refine ⟨_, rfl, ?_⟩; replace BK223 := ak_ (kb_ (g := gb223) (o := .cells #[.int .u64 0, .int .u64 0, .int .u64 0, .int .u64 0] 27 (0, 0)) (by (with_reducible repeat (first | refine kn_ ?_ _ | refine kd_ ?_ | refine ka_ ?_ _)); (iterate 2 refine blk_far ?_ NB223_228.out _); exact BK223.out) hb); replace BK228 := ak_ (kb_ (g := gb228) (o := .cells #[.int .u64 t225, .int .u64 t226] 25 (0, 0)) (by (with_reducible repeat (first | refine kn_ ?_ _ | refine kd_ ?_ | refine ka_ ?_ _)); exact sC_blk BK228.out rfl rfl) hb); replace HB := ak_ (bt_ (bw2_ HB GE223 GE228) hb); (try clear hb); (try clear hk)) | ((with_reducible refine gate_dst (N := 6) rfl ?_); refine bx_ 6 #[.int .u64 0, .int .u64 0] 25 ?_; intro gb233 hg w17 hbox hb; have BK233 := ak_ hbox; have GW233 := ak_ (gw2_ HB GE223 GE228 hg); have GE233 := ak_ (gw2_ HB GE223 GE228 hg); replace HB := ak_ (bt_ (bw2_ HB GE223 GE228) hb); have NB223_233 := ak_ (nl_ hg BK223); have NB233_223 := ak_ (nr_ hg BK223); replace BK223 := ak_ (kb_ (kl_ BK223) hb); have NB228_233 := ak_ (nl_ hg BK228); have NB233_228 := ak_ (nr_ hg BK228); replace BK228 := ak_ (kb_ (kl_ BK228) hb); clear hb hbox hg; have hnb18 := NB233_223.out; have hnc18 := NB223_233.out; have hnb19 := NB233_228.out; have hnc19 := NB228_233.out; obtain ⟨hcz20_0, hcz20_1, hfz20_0, hfz20_1⟩ := kc2_ BK233.out; obtain ⟨hcz21_0, hcz21_1, hfz21_0, hfz21_1⟩ := kc2_ BK228.out; obtain ⟨hcz22_0, hcz22_1, hcz22_2, hcz22_3, hfz22_0, hfz22_1, hfz22_2, hfz22_3⟩ := kc4_ BK223.out))
      refine bodyPost_ret (results_ct rfl _ _ gb223 27 #[.int .u64 t225, .int .u64 t226, .int .u64 t230, .int .u64 t231] (0, 0) _ rfl (by (with_reducible repeat (first | refine kn_ ?_ _ | refine kd_ ?_ | refine ka_ ?_ _)); exact bp_ (bp_ (bp_ (bp_ (blk_far (blk_far BK223.out NB223_233.out _) NB223_233.out _) 0 _) 1 _) 2 _) 3 _) underlying27 rfl (by kernel_rfl)) rfl ?_
      exact ea_ (bw3_ HB GE223 GE228 GE233)
     ·rw [if_neg c8] at H
      have c8b0 : (t232 == 0) = false := beq_eq_false_iff_ne.mpr c8
      have c8b1 : (t232 != 0) = true := bne_iff_ne.mpr c8
      simp only [some.injEq, Prod.mk.injEq] at H
      obtain ⟨rfl, rfl, rfl, rfl, rfl⟩ := H
      go_enter func101, ntmps101
      go_wp2_with (first | ((with_reducible refine gate_dst (N := 2) rfl ?_); refine bx_ 2 #[.int .u64 0, .int .u64 0, .int .u64 0, .int .u64 0] 27 ?_; intro gb223 hg w23 hbox hb; have BK223 := ak_ hbox; have GW223 := ak_ (gs_ hg HB); have GE223 := ak_ (gs_ hg HB); replace HB := ak_ (bt_ (bl_ HB) hb); clear hb hbox hg; obtain ⟨i024, hi024, _, hsz24, _⟩ := info_parts info5; obtain ⟨hcut24, hA24, hC24⟩ := print_take_of (P := Try.prog) (Value.int .u8) 0 35 5 .i64 underlying35 hi024 hsz24 A0 c0 l0 16 (by omega) (od_ (by first | (with_reducible assumption) | assumption)) HC0.out; have HR224 := ak_ (Kd.C_of_reads (h1 := fun _ => rfl) (hA24 _ (Kd.reads_of_C HR0.out))); have HC224 := ak_ hC24; clear hA24 hC24 hi024 hsz24) | ((with_reducible refine gate_callee (f := 79) rfl ?_); refine goesL_ (some 15) rfl rfl func79 (by kernel_rfl) rfl #[.slice A0 (l0.take 16).length c0] rfl (by (try simp only [map_toArray, map_cons, map_nil]); first | done | (rw [show (l0.take 16).length = 16 from (by rw [List.length_take]; have h_ : (16 : Int) ≤ (l0.length : Int) := od_ (by first | (with_reducible assumption) | assumption); omega)] <;> rfl) | rfl | (simp only [length_drop, length_take]; rfl)) ?_; (with_reducible refine (mix_Of.calls k _ _ (l0.take 16) t225 t226 t227 _ ?side1 ?side2 A4.out).mono ?_); (case side1 => repeat (first | exact (Kd.C_below HR224.out HB.out) | (with_reducible refine Kd.C_alloc ?_ _) | (with_reducible refine Kd.C_drewN ?_ _) | (with_reducible refine Kd.C_drew ?_))); (case side2 => exact HC224.out); rintro e w25 ⟨rfl, hb⟩; refine ⟨_, rfl, ?_⟩; replace BK223 := ak_ (kb_ (kl_ BK223) hb); replace HB := ak_ (bt_ (bw1_ HB GE223) hb); (try clear hb); (try clear hk)) | ((with_reducible refine gate_dst (N := 4) rfl ?_); refine bx_ 4 #[.int .u64 0, .int .u64 0] 25 ?_; intro gb228 hg w26 hbox hb; have BK228 := ak_ hbox; have GW228 := ak_ (gw1_ HB GE223 hg); have GE228 := ak_ (gw1_ HB GE223 hg); replace HB := ak_ (bt_ (bw1_ HB GE223) hb); have NB223_228 := ak_ (nl_ hg BK223); have NB228_223 := ak_ (nr_ hg BK223); replace BK223 := ak_ (kb_ (kl_ BK223) hb); clear hb hbox hg; have hnb27 := NB228_223.out; have hnc27 := NB223_228.out; obtain ⟨hcz28_0, hcz28_1, hfz28_0, hfz28_1⟩ := kc2_ BK228.out; obtain ⟨i029, hi029, _, hsz29, _⟩ := info_parts info5; obtain ⟨A29, hcut29, hA29, hC29⟩ := print_drop_of (P := Try.prog) (Value.int .u8) 0 35 5 .i64 underlying35 hi029 hsz29 A0 c0 l0 16 (by omega) (od_ (by first | (with_reducible assumption) | assumption)) HC0.out; have HR229 := ak_ (Kd.C_of_reads (h1 := fun _ => rfl) (hA29 _ (Kd.reads_of_C HR0.out))); have HC229 := ak_ hC29; clear hA29 hC29 hi029 hsz29) | ((with_reducible refine gate_callee (f := 79) rfl ?_); refine goesL_ (some 21) rfl rfl func79 (by kernel_rfl) rfl #[.slice A29 (l0.drop 16).length (c0 - 16)] rfl (by (try simp only [map_toArray, map_cons, map_nil]); first | done | (rw [show (l0.drop 16).length = (l0.length - 16) from List.length_drop] <;> rfl) | rfl | (simp only [length_drop, length_take]; rfl)) ?_; (with_reducible refine (mix_Of.calls k _ _ (l0.drop 16) t230 t231 t232 _ ?side1 ?side2 A6.out).mono ?_); (case side1 => exact Kd.C_below HR229.out (bw2_ HB GE223 GE228)); (case side2 => exact HC229.out); rintro e w30 ⟨rfl, hb⟩; refine ⟨_, rfl, ?_⟩; replace BK223 := ak_ (kb_ (g := gb223) (o := .cells #[.int .u64 0, .int .u64 0, .int .u64 0, .int .u64 0] 27 (0, 0)) (by (with_reducible repeat (first | refine kn_ ?_ _ | refine kd_ ?_ | refine ka_ ?_ _)); (iterate 2 refine blk_far ?_ NB223_228.out _); exact BK223.out) hb); replace BK228 := ak_ (kb_ (g := gb228) (o := .cells #[.int .u64 t225, .int .u64 t226] 25 (0, 0)) (by (with_reducible repeat (first | refine kn_ ?_ _ | refine kd_ ?_ | refine ka_ ?_ _)); exact sC_blk BK228.out rfl rfl) hb); replace HB := ak_ (bt_ (bw2_ HB GE223 GE228) hb); (try clear hb); (try clear hk)) | ((with_reducible refine gate_dst (N := 6) rfl ?_); refine bx_ 6 #[.int .u64 0, .int .u64 0] 25 ?_; intro gb233 hg w31 hbox hb; have BK233 := ak_ hbox; have GW233 := ak_ (gw2_ HB GE223 GE228 hg); have GE233 := ak_ (gw2_ HB GE223 GE228 hg); replace HB := ak_ (bt_ (bw2_ HB GE223 GE228) hb); have NB223_233 := ak_ (nl_ hg BK223); have NB233_223 := ak_ (nr_ hg BK223); replace BK223 := ak_ (kb_ (kl_ BK223) hb); have NB228_233 := ak_ (nl_ hg BK228); have NB233_228 := ak_ (nr_ hg BK228); replace BK228 := ak_ (kb_ (kl_ BK228) hb); clear hb hbox hg; have hnb32 := NB233_223.out; have hnc32 := NB223_233.out; have hnb33 := NB233_228.out; have hnc33 := NB228_233.out; obtain ⟨hcz34_0, hcz34_1, hfz34_0, hfz34_1⟩ := kc2_ BK233.out; obtain ⟨hcz35_0, hcz35_1, hcz35_2, hcz35_3, hfz35_0, hfz35_1, hfz35_2, hfz35_3⟩ := kc4_ BK223.out))
      refine bodyPost_ret (results_ct rfl _ _ gb223 27 #[.int .u64 0, .int .u64 0, .int .u64 0, .int .u64 0] (0, 0) _ rfl (by (with_reducible repeat (first | refine kn_ ?_ _ | refine kd_ ?_ | refine ka_ ?_ _)); exact bp_ (bp_ (bp_ (bp_ (blk_far (blk_far BK223.out NB223_233.out _) NB223_233.out _) 0 _) 1 _) 2 _) 3 _) underlying27 rfl (by kernel_rfl)) rfl ?_
      exact ea_ (bw3_ HB GE223 GE228 GE233)
    ·rw [if_neg c7] at H
     have c7b0 : (t227 == 0) = false := beq_eq_false_iff_ne.mpr c7
     have c7b1 : (t227 != 0) = true := bne_iff_ne.mpr c7
     simp only [some.injEq, Prod.mk.injEq] at H
     obtain ⟨rfl, rfl, rfl, rfl, rfl⟩ := H
     go_enter func101, ntmps101
     go_wp2_with (first | ((with_reducible refine gate_dst (N := 2) rfl ?_); refine bx_ 2 #[.int .u64 0, .int .u64 0, .int .u64 0, .int .u64 0] 27 ?_; intro gb223 hg w36 hbox hb; have BK223 := ak_ hbox; have GW223 := ak_ (gs_ hg HB); have GE223 := ak_ (gs_ hg HB); replace HB := ak_ (bt_ (bl_ HB) hb); clear hb hbox hg; obtain ⟨i037, hi037, _, hsz37, _⟩ := info_parts info5; obtain ⟨hcut37, hA37, hC37⟩ := print_take_of (P := Try.prog) (Value.int .u8) 0 35 5 .i64 underlying35 hi037 hsz37 A0 c0 l0 16 (by omega) (od_ (by first | (with_reducible assumption) | assumption)) HC0.out; have HR224 := ak_ (Kd.C_of_reads (h1 := fun _ => rfl) (hA37 _ (Kd.reads_of_C HR0.out))); have HC224 := ak_ hC37; clear hA37 hC37 hi037 hsz37) | ((with_reducible refine gate_callee (f := 79) rfl ?_); refine goesL_ (some 15) rfl rfl func79 (by kernel_rfl) rfl #[.slice A0 (l0.take 16).length c0] rfl (by (try simp only [map_toArray, map_cons, map_nil]); first | done | (rw [show (l0.take 16).length = 16 from (by rw [List.length_take]; have h_ : (16 : Int) ≤ (l0.length : Int) := od_ (by first | (with_reducible assumption) | assumption); omega)] <;> rfl) | rfl | (simp only [length_drop, length_take]; rfl)) ?_; (with_reducible refine (mix_Of.calls k _ _ (l0.take 16) t225 t226 t227 _ ?side1 ?side2 A4.out).mono ?_); (case side1 => repeat (first | exact (Kd.C_below HR224.out HB.out) | (with_reducible refine Kd.C_alloc ?_ _) | (with_reducible refine Kd.C_drewN ?_ _) | (with_reducible refine Kd.C_drew ?_))); (case side2 => exact HC224.out); rintro e w38 ⟨rfl, hb⟩; refine ⟨_, rfl, ?_⟩; replace BK223 := ak_ (kb_ (kl_ BK223) hb); replace HB := ak_ (bt_ (bw1_ HB GE223) hb); (try clear hb); (try clear hk)) | ((with_reducible refine gate_dst (N := 4) rfl ?_); refine bx_ 4 #[.int .u64 0, .int .u64 0] 25 ?_; intro gb228 hg w39 hbox hb; have BK228 := ak_ hbox; have GW228 := ak_ (gw1_ HB GE223 hg); have GE228 := ak_ (gw1_ HB GE223 hg); replace HB := ak_ (bt_ (bw1_ HB GE223) hb); have NB223_228 := ak_ (nl_ hg BK223); have NB228_223 := ak_ (nr_ hg BK223); replace BK223 := ak_ (kb_ (kl_ BK223) hb); clear hb hbox hg; have hnb40 := NB228_223.out; have hnc40 := NB223_228.out; obtain ⟨hcz41_0, hcz41_1, hfz41_0, hfz41_1⟩ := kc2_ BK228.out; obtain ⟨i042, hi042, _, hsz42, _⟩ := info_parts info5; obtain ⟨A42, hcut42, hA42, hC42⟩ := print_drop_of (P := Try.prog) (Value.int .u8) 0 35 5 .i64 underlying35 hi042 hsz42 A0 c0 l0 16 (by omega) (od_ (by first | (with_reducible assumption) | assumption)) HC0.out; have HR229 := ak_ (Kd.C_of_reads (h1 := fun _ => rfl) (hA42 _ (Kd.reads_of_C HR0.out))); have HC229 := ak_ hC42; clear hA42 hC42 hi042 hsz42) | ((with_reducible refine gate_callee (f := 79) rfl ?_); refine goesL_ (some 21) rfl rfl func79 (by kernel_rfl) rfl #[.slice A42 (l0.drop 16).length (c0 - 16)] rfl (by (try simp only [map_toArray, map_cons, map_nil]); first | done | (rw [show (l0.drop 16).length = (l0.length - 16) from List.length_drop] <;> rfl) | rfl | (simp only [length_drop, length_take]; rfl)) ?_; (with_reducible refine (mix_Of.calls k _ _ (l0.drop 16) t230 t231 t232 _ ?side1 ?side2 A6.out).mono ?_); (case side1 => exact Kd.C_below HR229.out (bw2_ HB GE223 GE228)); (case side2 => exact HC229.out); rintro e w43 ⟨rfl, hb⟩; refine ⟨_, rfl, ?_⟩; replace BK223 := ak_ (kb_ (g := gb223) (o := .cells #[.int .u64 0, .int .u64 0, .int .u64 0, .int .u64 0] 27 (0, 0)) (by (with_reducible repeat (first | refine kn_ ?_ _ | refine kd_ ?_ | refine ka_ ?_ _)); (iterate 2 refine blk_far ?_ NB223_228.out _); exact BK223.out) hb); replace BK228 := ak_ (kb_ (g := gb228) (o := .cells #[.int .u64 t225, .int .u64 t226] 25 (0, 0)) (by (with_reducible repeat (first | refine kn_ ?_ _ | refine kd_ ?_ | refine ka_ ?_ _)); exact sC_blk BK228.out rfl rfl) hb); replace HB := ak_ (bt_ (bw2_ HB GE223 GE228) hb); (try clear hb); (try clear hk)) | ((with_reducible refine gate_dst (N := 6) rfl ?_); refine bx_ 6 #[.int .u64 0, .int .u64 0] 25 ?_; intro gb233 hg w44 hbox hb; have BK233 := ak_ hbox; have GW233 := ak_ (gw2_ HB GE223 GE228 hg); have GE233 := ak_ (gw2_ HB GE223 GE228 hg); replace HB := ak_ (bt_ (bw2_ HB GE223 GE228) hb); have NB223_233 := ak_ (nl_ hg BK223); have NB233_223 := ak_ (nr_ hg BK223); replace BK223 := ak_ (kb_ (kl_ BK223) hb); have NB228_233 := ak_ (nl_ hg BK228); have NB233_228 := ak_ (nr_ hg BK228); replace BK228 := ak_ (kb_ (kl_ BK228) hb); clear hb hbox hg; have hnb45 := NB233_223.out; have hnc45 := NB223_233.out; have hnb46 := NB233_228.out; have hnc46 := NB228_233.out; obtain ⟨hcz47_0, hcz47_1, hfz47_0, hfz47_1⟩ := kc2_ BK233.out; obtain ⟨hcz48_0, hcz48_1, hcz48_2, hcz48_3, hfz48_0, hfz48_1, hfz48_2, hfz48_3⟩ := kc4_ BK223.out))
     refine bodyPost_ret (results_ct rfl _ _ gb223 27 #[.int .u64 0, .int .u64 0, .int .u64 0, .int .u64 0] (0, 0) _ rfl (by (with_reducible repeat (first | refine kn_ ?_ _ | refine kd_ ?_ | refine ka_ ?_ _)); exact bp_ (bp_ (bp_ (bp_ (blk_far (blk_far BK223.out NB223_233.out _) NB223_233.out _) 0 _) 1 _) 2 _) 3 _) underlying27 rfl (by kernel_rfl)) rfl ?_
     exact ea_ (bw3_ HB GE223 GE228 GE233)
   ·rw [if_neg c3] at H
    exact absurd H (by simp)
  ·rw [if_neg c2] at H
   have c2b0 : ((l0.length : Int) == 32) = false := beq_eq_false_iff_ne.mpr c2
   have c2b1 : ((l0.length : Int) != 32) = true := bne_iff_ne.mpr c2
   simp only [some.injEq, Prod.mk.injEq] at H
   obtain ⟨rfl, rfl, rfl, rfl, rfl⟩ := H
   go_enter func101, ntmps101
   go_wp2_with (first | ((with_reducible refine gate_dst (N := 2) rfl ?_); refine bx_ 2 #[.int .u64 0, .int .u64 0, .int .u64 0, .int .u64 0] 27 ?_; intro gb223 hg w49 hbox hb; have BK223 := ak_ hbox; have GW223 := ak_ (gs_ hg HB); have GE223 := ak_ (gs_ hg HB); replace HB := ak_ (bt_ (bl_ HB) hb); clear hb hbox hg; obtain ⟨hcz50_0, hcz50_1, hcz50_2, hcz50_3, hfz50_0, hfz50_1, hfz50_2, hfz50_3⟩ := kc4_ BK223.out))
   refine bodyPost_ret (results_ct rfl _ _ gb223 27 #[.int .u64 0, .int .u64 0, .int .u64 0, .int .u64 0] (0, 0) _ rfl (by (with_reducible repeat (first | refine kn_ ?_ _ | refine kd_ ?_ | refine ka_ ?_ _)); exact sC_blk BK223.out rfl rfl) underlying27 rfl (by kernel_rfl)) rfl ?_
   exact ea_ (bw1_ HB GE223)
def bytes_Equal.f (l0 : List Int) (l1 : List Int) : Option (Bool) := some ((strOfNums l0).toList == (strOfNums l1).toList)
set_option maxHeartbeats 8000000 in
set_option maxRecDepth 100000 in
theorem bytes_Equal.calls (A0 : Option Addr) (c0 : Nat) (l0 : List Int) (A1 : Option Addr) (c1 : Nat) (l1 : List Int) (r : Bool) (w : World) (hr0 : Kd.C (Kd.int .u8) w A0 l0.length l0) (hc0 : l0.length ≤ c0) (hr1 : Kd.C (Kd.int .u8) w A1 l1.length l1) (hc1 : l1.length ≤ c1) (h : bytes_Equal.f l0 l1 = some r) :
   Calls Try.prog 55 #[.slice A0 l0.length c0, .slice A1 l1.length c1] w fun e w' => e = .returned (.bool r) ∧ Drawn0 w w' := by
  have HR0 := ak_ hr0
  have HC0 := ak_ hc0
  clear hr0 hc0
  have HR1 := ak_ hr1
  have HC1 := ak_ hc1
  clear hr1 hc1
  have H : (some ((strOfNums l0).toList == (strOfNums l1).toList)) = some r := h
  clear h
  obtain rfl := Option.some.inj H
  have hcv3 := Kd.C_string (P := Try.prog) (A := A0) (c := c0) underlying35 underlying5 underlying9 HR0.out
  have hcv4 := Kd.C_string (P := Try.prog) (A := A1) (c := c1) underlying35 underlying5 underlying9 HR1.out
  go_enter func55, ntmps55
  go_wp2
  go_ret
  exact ⟨by first | rfl | (simp; done) | (simp [*]; done), by repeat (first | exact Drawn0.refl _ | apply Drawn0.step)⟩
end Go.Proofs.Ytoljdfgkkkpnbaa.MP
