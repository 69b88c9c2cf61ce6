-- written by a program of this session (wip/tools/mprint.sh) for this seat
import Derived.Test.YtoljdfgkkkpnbaaMPx0
import Derived.Test.YtoljdfgkkkpnbaaMPx1
namespace Go.Proofs.Ytoljdfgkkkpnbaa.MP
open Go.RowKit Go.Proofs.YtoljdfgkkkpnbaaW.PrintWords Go.Proofs.YtoljdfgkkkpnbaaW.PrintLast Go.Proofs.YtoljdfgkkkpnbaaW.PrintMore
open Option (bind_eq_some_iff some.injEq)
open _root_.Go.Proofs.Try
open List (setIfInBounds_toArray set_cons_zero set_cons_succ map_toArray map_cons map_nil length_drop length_take)
attribute [local go_sem] max2_int min2_int max_two min_two max_three min_three max_four min_four
set_option linter.unusedVariables false
set_option linter.unusedSimpArgs false
attribute [local go_sem high] eqA29 eqA75
def bA2 (k n : Nat) : Array Bool := (Array.range n).map fun i => decide (i < k)
def medlarref16_SameBytes.f (l0 : List Int) (l1 : List Int) : Option (Bool) := some ((strOfNums l0).toList == (strOfNums l1).toList)
set_option maxHeartbeats 8000000 in
set_option maxRecDepth 100000 in
theorem medlarref16_SameBytes.calls (A0 : Option Addr) (c0 : Nat) (l0 : List Int) (A1 : Option Addr) (c1 : Nat) (l1 : List Int) (r : Bool) (w : World) (hr0 : Kd.C (Kd.int .u8) w A0 l0.length l0) (hc0 : l0.length ≤ c0) (hr1 : Kd.C (Kd.int .u8) w A1 l1.length l1) (hc1 : l1.length ≤ c1) (h : medlarref16_SameBytes.f l0 l1 = some r) :
   Calls Try.prog 23 #[.slice A0 l0.length c0, .slice A1 l1.length c1] w fun e w' => e = .returned (.bool r) ∧ Drawn0 w w' := by
  have HR0 := ak_ hr0
  have HC0 := ak_ hc0
  clear hr0 hc0
  have HR1 := ak_ hr1
  have HC1 := ak_ hc1
  clear hr1 hc1
  have H : (some ((strOfNums l0).toList == (strOfNums l1).toList)) = some r := h
  clear h
  obtain rfl := Option.some.inj H
  have hcv3 := Kd.C_string (P := Try.prog) (A := A0) (c := c0) underlying35 underlying5 underlying9 HR0.out
  have hcv4 := Kd.C_string (P := Try.prog) (A := A1) (c := c1) underlying35 underlying5 underlying9 HR1.out
  go_enter func23, ntmps23
  go_wp2
  go_ret
  exact ⟨by first | rfl | (simp; done) | (simp [*]; done), by repeat (first | exact Drawn0.refl _ | apply Drawn0.step)⟩
def medlarref01_power.l0 : Nat → Int → Int → Int → Option (Int)
  | 0, _, _, _ => none
  | k + 1, x3, x4, x5 => if x5 < x4 then (medlarref01_power.l0 k (IntKind.u64.wrap (2 * x3)) x4 (wrap64 (x5 + 1))) else (some x3)
def medlarref01_power.f (k : Nat) (a0 : Int) : Option (Int) := medlarref01_power.l0 k 1 a0 0
theorem medlarref01_power.mono_l : ∀ k, (∀ y0 y1 y2, LeO (medlarref01_power.l0 k y0 y1 y2) (medlarref01_power.l0 (k + 1) y0 y1 y2))
  | 0 => fun _ _ _ r h => by simp [medlarref01_power.l0] at h
  | k + 1 => by
   have ih0 := medlarref01_power.mono_l k
   ·intro y0 y1 y2
    unfold medlarref01_power.l0
    repeat' first
    | (with_reducible exact ih0 _ _ _)
    | (with_reducible exact LeO.refl _)
    | (with_reducible exact LeO.none _)
    | (with_reducible refine LeO.ite ?_ ?_)
    | (with_reducible refine LeO.bind ?_ (fun _ => ?_))
    | exact ih0 _ _ _
    | exact LeO.none _
    | refine LeO.ite ?_ ?_
    | refine LeO.bind ?_ (fun _ => ?_)
theorem medlarref01_power.mono : ∀ a0 k, LeO (medlarref01_power.f k a0) (medlarref01_power.f (k + 1) a0) := by
  intro a0 k
  have ih0 := medlarref01_power.mono_l k
  unfold medlarref01_power.f
  repeat' first
    | (with_reducible exact ih0 _ _ _)
    | (with_reducible exact LeO.refl _)
    | (with_reducible exact LeO.none _)
    | (with_reducible refine LeO.ite ?_ ?_)
    | (with_reducible refine LeO.bind ?_ (fun _ => ?_))
    | exact ih0 _ _ _
    | exact LeO.none _
    | refine LeO.ite ?_ ?_
    | refine LeO.bind ?_ (fun _ => ?_)
set_option maxHeartbeats 8000000 in
set_option maxRecDepth 100000 in
theorem medlarref01_power.calls (k : Nat) (a0 : Int) (r : Int) (w : World) (h : medlarref01_power.f k a0 = some r) :
   Calls Try.prog 103 #[.int .i64 a0] w fun e w' => e = .returned (.int .u64 r) ∧ Drawn0 w w' := by
  have H : (medlarref01_power.l0 k 1 a0 0) = some r := h
  clear h
  have H' := ak_ H
  clear H
  go_enter func103, ntmps103
  go_wp2
  go_loopg [3, 5] k (fun kq v3 v5 w' => ∃ (x3_1 : Int) (x5_1 : Int), v3 = .int .u64 x3_1 ∧ v5 = .int .i64 x5_1 ∧ Aside0 (medlarref01_power.l0 kq x3_1 a0 x5_1 = some r) ∧ Aside0 (kq ≤ k) ∧ Drawn0 w w')
  case atStart => exact ⟨(1), (0), rf_, rf_, H', ⟨Nat.le_refl _⟩, by repeat (first | exact Drawn0.refl _ | apply Drawn0.step)⟩
  case round =>
   clear H'
   try clear c1
   obtain ⟨x3_1, x5_1, rfl, rfl, HA, HK1, ⟨m1, rfl⟩⟩ := hrel
   cases gk with
   | zero => exact absurd HA.out (by simp [medlarref01_power.l0])
   | succ k1 =>
    have H := HA.out
    clear HA
    simp only [medlarref01_power.l0] at H
    by_cases c2 : x5_1 < a0
    ·rw [if_pos c2] at H
     have c2b0 := decide_eq_true c2
     clear c2
     have H' := ak_ H
     clear H
     go_wp2
     go_roundg k1
     case measure => have := HK1.out; omega
     case rel => exact ⟨(IntKind.u64.wrap (2 * x3_1)), (wrap64 (x5_1 + 1)), rf_, rf_, H', ⟨by have := HK1.out; omega⟩, by repeat (first | exact Drawn0.refl _ | apply Drawn0.step)⟩
    ·rw [if_neg c2] at H
     have c2b0 := decide_eq_false c2
     clear c2
     obtain rfl := Option.some.inj H
     go_wp2
     go_ret
     exact ⟨by first | rfl | (simp; done) | (simp [*]; done), by repeat (first | exact Drawn0.refl _ | apply Drawn0.step)⟩
def medlarref01_May.f (k : Nat) (a0 : Int) (a1 : Int) : Option (Bool) := if a0 ≥ 1 then (if a0 ≤ 32 then (if a1 ≥ 1 then ((medlarref01_power.f k (wrap64 (a0 + 1))).bind fun t235 => (some (decide (a1 < t235)))) else (some false)) else (some false)) else (some false)
theorem medlarref01_May.mono : ∀ a0 a1 k, LeO (medlarref01_May.f k a0 a1) (medlarref01_May.f (k + 1) a0 a1) := by
  intro a0 a1 k
  unfold medlarref01_May.f
  repeat' first
    | (with_reducible exact medlarref01_power.mono _ _)
    | (with_reducible exact LeO.refl _)
    | (with_reducible exact LeO.none _)
    | (with_reducible refine LeO.ite ?_ ?_)
    | (with_reducible refine LeO.bind ?_ (fun _ => ?_))
    | exact medlarref01_power.mono _ _
    | exact LeO.none _
    | refine LeO.ite ?_ ?_
    | refine LeO.bind ?_ (fun _ => ?_)
set_option maxHeartbeats 8000000 in
set_option maxRecDepth 100000 in
theorem medlarref01_May.calls (k : Nat) (a0 : Int) (a1 : Int) (r : Bool) (w : World) (h : medlarref01_May.f k a0 a1 = some r) :
   Calls Try.prog 60 #[.int .i64 a0, .int .u64 a1] w fun e w' => e = .returned (.bool r) ∧ Drawn0 w w' := by
  have H : (if a0 ≥ 1 then (if a0 ≤ 32 then (if a1 ≥ 1 then ((medlarref01_power.f k (wrap64 (a0 + 1))).bind fun t235 => (some (decide (a1 < t235)))) else (some false)) else (some false)) else (some false)) = some r := h
  clear h
  by_cases c3 : a0 ≥ 1
  ·rw [if_pos c3] at H
   have c3b0 : decide (1 ≤ a0) = true := decide_eq_true c3
   clear c3
   by_cases c4 : a0 ≤ 32
   ·rw [if_pos c4] at H
    have c4b0 := decide_eq_true c4
    clear c4
    by_cases c5 : a1 ≥ 1
    ·rw [if_pos c5] at H
     have c5b0 : decide (1 ≤ a1) = true := decide_eq_true c5
     clear c5
     replace H := bind_eq_some_iff.mp H
     obtain ⟨t235, A60, H⟩ := H
     replace H : (some (decide (a1 < t235))) = some r := H
     have A6 := ak_ A60
     clear A60
     obtain rfl := Option.some.inj H
     go_enter func60, ntmps60
     go_wp2_with (first | (go_at_call 103; (with_reducible refine (medlarref01_power.calls k (wrap64 (a0 + 1)) t235 _ A6.out).mono ?_); rintro e w' ⟨rfl, ⟨nd, rfl⟩⟩))
     go_ret
     exact ⟨by first | rfl | (simp; done) | (simp [*]; done), by repeat (first | exact Drawn0.refl _ | apply Drawn0.step)⟩
    ·rw [if_neg c5] at H
     have c5b0 : decide (1 ≤ a1) = false := decide_eq_false c5
     clear c5
     obtain rfl := Option.some.inj H
     go_enter func60, ntmps60
     go_wp2
     go_ret
     exact ⟨by first | rfl | (simp; done) | (simp [*]; done), by repeat (first | exact Drawn0.refl _ | apply Drawn0.step)⟩
   ·rw [if_neg c4] at H
    have c4b0 := decide_eq_false c4
    clear c4
    obtain rfl := Option.some.inj H
    go_enter func60, ntmps60
    go_wp2
    go_ret
    exact ⟨by first | rfl | (simp; done) | (simp [*]; done), by repeat (first | exact Drawn0.refl _ | apply Drawn0.step)⟩
  ·rw [if_neg c3] at H
   have c3b0 : decide (1 ≤ a0) = false := decide_eq_false c3
   clear c3
   obtain rfl := Option.some.inj H
   go_enter func60, ntmps60
   go_wp2
   go_ret
   exact ⟨by first | rfl | (simp; done) | (simp [*]; done), by repeat (first | exact Drawn0.refl _ | apply Drawn0.step)⟩
def medlarref01_Chain.f : Nat → Int → Option (List Int)
  | 0, _ => none
  | k + 1, a0 => if a0 = 1 then (some (([1] : List Int))) else ((medlarref01_Chain.f k (IntKind.u64.wrap (Int.tdiv a0 2))).bind fun t239 => (if t239.length < 17592186044416 then (some (t239 ++ [a0])) else (none)))
theorem medlarref01_Chain.mono_l : ∀ k, (∀ y0, LeO (medlarref01_Chain.f k y0) (medlarref01_Chain.f (k + 1) y0))
  | 0 => fun _ r h => by simp [medlarref01_Chain.f] at h
  | k + 1 => by
   have ih0 := medlarref01_Chain.mono_l k
   ·intro y0
    unfold medlarref01_Chain.f
    repeat' first
    | (with_reducible exact ih0 _)
    | (with_reducible exact LeO.refl _)
    | (with_reducible exact LeO.none _)
    | (with_reducible refine LeO.ite ?_ ?_)
    | (with_reducible refine LeO.bind ?_ (fun _ => ?_))
    | exact ih0 _
    | exact LeO.none _
    | refine LeO.ite ?_ ?_
    | refine LeO.bind ?_ (fun _ => ?_)
theorem medlarref01_Chain.mono : ∀ a0 k, LeO (medlarref01_Chain.f k a0) (medlarref01_Chain.f (k + 1) a0) := by
  intro a0 k
  have ih0 := medlarref01_Chain.mono_l k
  exact ih0 a0
set_option maxHeartbeats 8000000 in
set_option maxRecDepth 100000 in
theorem medlarref01_Chain.calls (k : Nat) : ∀ (a0 : Int) (r : List Int) (w : World) (h : medlarref01_Chain.f k a0 = some r),
   Calls Try.prog 116 #[.int .u64 a0] w fun e w' => ∃ v0_ : Value, e = .returned (v0_) ∧ Kd.R (Kd.int .u64) 23 w' w.heap.size (fun _ => True) v0_ r ∧ Below w.heap.size w w' := by
  induction k using Nat.strongRecOn with
  | _ k ih =>
  intro a0 r w h
  cases k with
  | zero => exact absurd h (by simp [medlarref01_Chain.f])
  | succ k =>
  simp only [medlarref01_Chain.f] at h
  have HB := ak_ (Below.refl w.heap.size w)
  have H : (if a0 = 1 then (some (([1] : List Int))) else ((medlarref01_Chain.f k (IntKind.u64.wrap (Int.tdiv a0 2))).bind fun t239 => (if t239.length < 17592186044416 then (some (t239 ++ [a0])) else (none)))) = some r := h
  clear h
  by_cases c2 : a0 = 1
  ·rw [if_pos c2] at H
   have c2b0 : (a0 == 1) = true := beq_iff_eq.mpr c2
   have c2b1 : (a0 != 1) = false := bne_eq_false_iff_eq.mpr c2
   clear c2
   obtain ⟨y236, hy236⟩ : ∃ y_ : List Int, y_ = (([1] : List Int)) := ⟨_, rfl⟩
   replace H : (some y236) = some r := by first | (rw [hy236]; with_reducible exact H) | (have H2_ := (Option.bind_some _ _).symm.trans H; rw [hy236]; with_reducible exact H2_) | (have H2_ := (Option.bind_some _ _).symm.trans H; with_reducible exact H2_) | with_reducible exact H | (rw [hy236]; exact H) | exact H
   have Ny236 := ak_ hy236
   clear hy236
   obtain rfl := Option.some.inj H
   go_enter func116, ntmps116
   go_wp2_with (first | ((with_reducible refine gate_dst (N := 5) rfl ?_); refine Kd.R_lit (Kd.int .u64) _ 23 ?hg (N := 5) ?hd (xs := ([1] : List Int)) (inner := [.int .u64 1]) (ok := fun _ => True) (okp := fun _ => True) ?hr ?hp (fun _ hk => hk) trivial (Below.refl _ _) (Nat.le_refl _) (by simp) ?_; (case hd => rfl); (case hg => rfl); (case hr => first | (go_simp; done) | (go_simp; rfl)); (case hp => exact (Reps.one (show Kd.M (Kd.int .u64) _ _ _ 1 [.int .u64 1] from rfl) (Reps.none _ _))); intro v237 w3 ho4 hb hg_ hnew_; clear hg_ hnew_; (first | rw [← Ny236.out] at ho4 | (simp only [Int.reduceToNat] at ho4; rw [← Ny236.out] at ho4)); have HO238 := ak_ (Kd.R_lower ho4 (bz_ (bl_ HB))); replace HB := ak_ (bt_ (bl_ HB) hb); clear hb ho4))
   go_ret
   exact ⟨_, by first | rfl | (simp <;> rfl) | (simp [*] <;> rfl), by (with_reducible repeat (first | apply Kd.R_alloc | apply Kd.R_drewN | apply Kd.R_drew)); exact HO238.out, bl_ HB⟩
  ·rw [if_neg c2] at H
   have c2b0 : (a0 == 1) = false := beq_eq_false_iff_ne.mpr c2
   have c2b1 : (a0 != 1) = true := bne_iff_ne.mpr c2
   replace H := bind_eq_some_iff.mp H
   obtain ⟨t239, A50, H⟩ := H
   replace H : (if t239.length < 17592186044416 then (some (t239 ++ [a0])) else (none)) = some r := H
   have A5 := ak_ A50
   clear A50
   by_cases c6 : t239.length < 17592186044416
   ·rw [if_pos c6] at H
    have LMc6 := ak_ c6
    clear c6
    obtain ⟨y242, hy242⟩ : ∃ y_ : List Int, y_ = (t239 ++ [a0]) := ⟨_, rfl⟩
    replace H : (some y242) = some r := by first | (rw [hy242]; with_reducible exact H) | (have H2_ := (Option.bind_some _ _).symm.trans H; rw [hy242]; with_reducible exact H2_) | (have H2_ := (Option.bind_some _ _).symm.trans H; with_reducible exact H2_) | with_reducible exact H | (rw [hy242]; exact H) | exact H
    have Ny242 := ak_ hy242
    clear hy242
    obtain rfl := Option.some.inj H
    go_enter func116, ntmps116
    go_wp2_with (first | ((with_reducible refine gate_callee (f := 116) rfl ?_); refine gl_ (some 8) func116 #[.int .u64 (IntKind.u64.wrap (Int.tdiv a0 2))] ?_; (with_reducible refine (ih k (by omega) (IntKind.u64.wrap (Int.tdiv a0 2)) t239 _ A5.out).mono ?_); rintro e w7 ⟨v240, rfl, ho0, hb⟩; refine ⟨_, rfl, ?_⟩; have HO241 := ak_ (Kd.R_lower ho0 (bz_ (bl_ HB))); replace HB := ak_ (bt_ (bl_ HB) hb); (try clear hb); (try clear hk); (try clear ho0)) | ((with_reducible refine gate_builtin (b := .append) (xs := #[.tmp 8, .tmp 10]) rfl ?_); at_builtin; refine Kd.R_append (Kd.int .u64) (w0 := w) w.heap.size rfl (.tmp 8) (.tmp 10) 53 23 (.int .u64 0) 8 rfl underlying53 info23 rfl (by decide) (by omega) v240 t239 a0 [.int .u64 a0] (fun _ => True) (fun _ => False) rfl rfl ?aP (fun _ hk => hk.elim) ?aF ?aO ?aB ?aS ?aL ?_; (case aP => exact rfl); (case aB => exact (bl_ HB)); (case aF => exact (fun _ _ => trivial)); (case aO => exact (rl_ HO241)); (case aS => exact (bz_ (bl_ HB))); (case aL => have := LMc6.out; omega); intro v243 w8 ho hb hg hat; rw [← Ny242.out] at ho; replace HB := ak_ hb; have HO244 := ak_ ho; clear HO241; clear ho hb hg hat))
    go_ret
    exact ⟨_, by first | rfl | (simp <;> rfl) | (simp [*] <;> rfl), by (with_reducible repeat (first | apply Kd.R_alloc | apply Kd.R_drewN | apply Kd.R_drew)); exact HO244.out, bl_ HB⟩
   ·rw [if_neg c6] at H
    exact absurd H (by simp)
def medlarref01_Is.l0 : Nat → Int → List Int → Int → Int → Option (Bool)
  | 0, _, _, _, _ => none
  | k + 1, x0, x8, x9, x10 => if x10 < x9 then (if 0 ≤ x10 then (if x10 < (x8.length : Int) then (if (rd x8 x10) = x0 then (some true) else (medlarref01_Is.l0 k x0 x8 x9 (wrap64 (x10 + 1)))) else (none)) else (none)) else (some false)
def medlarref01_Is.f (k : Nat) (a0 : Int) (a1 : Int) : Option (Bool) := (medlarref01_Chain.f k a1).bind fun t245 => (medlarref01_Is.l0 k a0 t245 (t245.length : Int) 0)
theorem medlarref01_Is.mono_l : ∀ k, (∀ y0 y1 y2 y3, LeO (medlarref01_Is.l0 k y0 y1 y2 y3) (medlarref01_Is.l0 (k + 1) y0 y1 y2 y3))
  | 0 => fun _ _ _ _ r h => by simp [medlarref01_Is.l0] at h
  | k + 1 => by
   have ih0 := medlarref01_Is.mono_l k
   ·intro y0 y1 y2 y3
    unfold medlarref01_Is.l0
    repeat' first
    | (with_reducible exact ih0 _ _ _ _)
    | (with_reducible exact medlarref01_Chain.mono _ _)
    | (with_reducible exact LeO.refl _)
    | (with_reducible exact LeO.none _)
    | (with_reducible refine LeO.ite ?_ ?_)
    | (with_reducible refine LeO.bind ?_ (fun _ => ?_))
    | exact ih0 _ _ _ _
    | exact medlarref01_Chain.mono _ _
    | exact LeO.none _
    | refine LeO.ite ?_ ?_
    | refine LeO.bind ?_ (fun _ => ?_)
theorem medlarref01_Is.mono : ∀ a0 a1 k, LeO (medlarref01_Is.f k a0 a1) (medlarref01_Is.f (k + 1) a0 a1) := by
  intro a0 a1 k
  have ih0 := medlarref01_Is.mono_l k
  unfold medlarref01_Is.f
  repeat' first
    | (with_reducible exact ih0 _ _ _ _)
    | (with_reducible exact medlarref01_Chain.mono _ _)
    | (with_reducible exact LeO.refl _)
    | (with_reducible exact LeO.none _)
    | (with_reducible refine LeO.ite ?_ ?_)
    | (with_reducible refine LeO.bind ?_ (fun _ => ?_))
    | exact ih0 _ _ _ _
    | exact medlarref01_Chain.mono _ _
    | exact LeO.none _
    | refine LeO.ite ?_ ?_
    | refine LeO.bind ?_ (fun _ => ?_)
set_option maxHeartbeats 8000000 in
set_option maxRecDepth 100000 in
theorem medlarref01_Is.calls (k : Nat) (a0 : Int) (a1 : Int) (r : Bool) (w : World) (h : medlarref01_Is.f k a0 a1 = some r) :
   Calls Try.prog 139 #[.int .u64 a0, .int .u64 a1] w fun e w' => e = .returned (.bool r) ∧ Below w.heap.size w w' := by
  have HB := ak_ (Below.refl w.heap.size w)
  have H : ((medlarref01_Chain.f k a1).bind fun t245 => (medlarref01_Is.l0 k a0 t245 (t245.length : Int) 0)) = some r := h
  clear h
  replace H := bind_eq_some_iff.mp H
  obtain ⟨t245, A30, H⟩ := H
  replace H : (medlarref01_Is.l0 k a0 t245 (t245.length : Int) 0) = some r := H
  have A3 := ak_ A30
  clear A30
  have H' := ak_ H
  clear H
  go_enter func139, ntmps139
  go_wp2_with (first | ((with_reducible refine gate_callee (f := 116) rfl ?_); refine gl_ (some 8) func116 #[.int .u64 a1] ?_; (with_reducible refine (medlarref01_Chain.calls k a1 t245 _ A3.out).mono ?_); rintro e w4 ⟨v246, rfl, ho0, hb⟩; refine ⟨_, rfl, ?_⟩; have HO247 := ak_ (Kd.R_lower ho0 (bz_ (bl_ HB))); replace HB := ak_ (bt_ (bl_ HB) hb); (try clear hb); (try clear hk); (try clear ho0); obtain ⟨Ao5, co5, eo5⟩ := Kd.R_slice HO247.out; subst eo5))
  go_loopg [10] k (fun kq v10 w' => ∃ (x10_1 : Int), v10 = .int .i64 x10_1 ∧ Aside0 (medlarref01_Is.l0 kq a0 t245 (t245.length : Int) x10_1 = some r) ∧ Aside0 (kq ≤ k) ∧ Aside0 (Kd.R (Kd.int .u64) 23 w' w.heap.size (fun _ => True) (.slice Ao5 t245.length co5) t245) ∧ Aside0 (Below w.heap.size w w'))
  case atStart => exact ⟨(0), rf_, H', ⟨Nat.le_refl _⟩, ⟨rl_ HO247⟩, ⟨bl_ HB⟩⟩
  case round =>
   clear H'
   try clear c1
   try clear p2
   obtain ⟨x10_1, rfl, HA, HK1, HO_8, HB⟩ := hrel
   cases gk with
   | zero => exact absurd HA.out (by simp [medlarref01_Is.l0])
   | succ k1 =>
    have H := HA.out
    clear HA
    simp only [medlarref01_Is.l0] at H
    by_cases c6 : x10_1 < (t245.length : Int)
    ·rw [if_pos c6] at H
     have c6b0 := decide_eq_true c6
     clear c6
     by_cases c7 : 0 ≤ x10_1
     ·rw [if_pos c7] at H
      have c7b0 := decide_eq_true c7
      clear c7
      by_cases c8 : x10_1 < (t245.length : Int)
      ·rw [if_pos c8] at H
       have c8b0 := decide_eq_true c8
       clear c8
       by_cases c9 : (rd t245 x10_1) = a0
       ·rw [if_pos c9] at H
        have c9b0 : ((rd t245 x10_1) == a0) = true := beq_iff_eq.mpr c9
        have c9b1 : ((rd t245 x10_1) != a0) = false := bne_eq_false_iff_eq.mpr c9
        clear c9
        obtain rfl := Option.some.inj H
        have p248 : 0 ≤ (x10_1 : Int) := od_ (by first | (with_reducible assumption) | assumption)
        have q248 : x10_1 < (t245.length : Int) := od_ (by first | (with_reducible assumption) | assumption)
        obtain ⟨ad248, e248, hx248_0⟩ := Kd.at_int (Kd.R_reads' HO_8.out).2.2 x10_1 p248 q248
        cases e248
        replace p248 := eq_true p248
        replace q248 := eq_true q248
        go_wp2
        go_ret
        exact ea_ (bl_ HB)
       ·rw [if_neg c9] at H
        have c9b0 : ((rd t245 x10_1) == a0) = false := beq_eq_false_iff_ne.mpr c9
        have c9b1 : ((rd t245 x10_1) != a0) = true := bne_iff_ne.mpr c9
        have H' := ak_ H
        clear H
        have p248 : 0 ≤ (x10_1 : Int) := od_ (by first | (with_reducible assumption) | assumption)
        have q248 : x10_1 < (t245.length : Int) := od_ (by first | (with_reducible assumption) | assumption)
        obtain ⟨ad248, e248, hx248_0⟩ := Kd.at_int (Kd.R_reads' HO_8.out).2.2 x10_1 p248 q248
        cases e248
        replace p248 := eq_true p248
        replace q248 := eq_true q248
        go_wp2
        go_roundg k1
        case measure => have := HK1.out; omega
        case rel => exact ⟨(wrap64 (x10_1 + 1)), rf_, H', ⟨by have := HK1.out; omega⟩, ⟨rl_ HO_8⟩, ⟨bl_ HB⟩⟩
      ·rw [if_neg c8] at H
       exact absurd H (by simp)
     ·rw [if_neg c7] at H
      exact absurd H (by simp)
    ·rw [if_neg c6] at H
     have c6b0 := decide_eq_false c6
     clear c6
     obtain rfl := Option.some.inj H
     go_wp2
     go_ret
     exact ea_ (bl_ HB)
def medlarref08_Check.f (k : Nat) (a0 : Int) (a1_0 : Int) (a1_1 : Int) : Option (Int) := (medlarref01_May.f k a0 a1_0).bind fun t250 => (if t250 = true then (if a1_1 = 0 then (some 0) else ((medlarref01_May.f k a0 a1_1).bind fun t251 => (if t251 = true then (if a1_1 = a1_0 then (some 1) else ((medlarref01_Is.f k a1_0 a1_1).bind fun t252 => (if t252 = true then (some 0) else (some 1)))) else (some 1)))) else (some 1))
theorem medlarref08_Check.mono : ∀ a0 a1 a2 k, LeO (medlarref08_Check.f k a0 a1 a2) (medlarref08_Check.f (k + 1) a0 a1 a2) := by
  intro a0 a1 a2 k
  unfold medlarref08_Check.f
  repeat' first
    | (with_reducible exact medlarref01_Is.mono _ _ _)
    | (with_reducible exact medlarref01_May.mono _ _ _)
    | (with_reducible exact LeO.refl _)
    | (with_reducible exact LeO.none _)
    | (with_reducible refine LeO.ite ?_ ?_)
    | (with_reducible refine LeO.bind ?_ (fun _ => ?_))
    | exact medlarref01_Is.mono _ _ _
    | exact medlarref01_May.mono _ _ _
    | exact LeO.none _
    | refine LeO.ite ?_ ?_
    | refine LeO.bind ?_ (fun _ => ?_)
set_option maxHeartbeats 8000000 in
set_option maxRecDepth 100000 in
theorem medlarref08_Check.calls (k : Nat) (a0 : Int) (a1_0 : Int) (a1_1 : Int) (r : Int) (w : World) (h : medlarref08_Check.f k a0 a1_0 a1_1 = some r) :
   Calls Try.prog 105 #[.int .i64 a0, .agg #[.int .u64 a1_0, .int .u64 a1_1]] w fun e w' => e = .returned (.int .i64 r) ∧ Below w.heap.size w w' := by
  have hu39 := underlying39
  have HB := ak_ (Below.refl w.heap.size w)
  have H : ((medlarref01_May.f k a0 a1_0).bind fun t250 => (if t250 = true then (if a1_1 = 0 then (some 0) else ((medlarref01_May.f k a0 a1_1).bind fun t251 => (if t251 = true then (if a1_1 = a1_0 then (some 1) else ((medlarref01_Is.f k a1_0 a1_1).bind fun t252 => (if t252 = true then (some 0) else (some 1)))) else (some 1)))) else (some 1))) = some r := h
  clear h
  replace H := bind_eq_some_iff.mp H
  obtain ⟨t250, A30, H⟩ := H
  replace H : (if t250 = true then (if a1_1 = 0 then (some 0) else ((medlarref01_May.f k a0 a1_1).bind fun t251 => (if t251 = true then (if a1_1 = a1_0 then (some 1) else ((medlarref01_Is.f k a1_0 a1_1).bind fun t252 => (if t252 = true then (some 0) else (some 1)))) else (some 1)))) else (some 1)) = some r := H
  have A3 := ak_ A30
  clear A30
  by_cases c4 : t250 = true
  ·subst c4
   have H1 : (if a1_1 = 0 then (some 0) else ((medlarref01_May.f k a0 a1_1).bind fun t251 => (if t251 = true then (if a1_1 = a1_0 then (some 1) else ((medlarref01_Is.f k a1_0 a1_1).bind fun t252 => (if t252 = true then (some 0) else (some 1)))) else (some 1)))) = some r := by rw [if_pos rfl] at H; exact H
   clear H
   have H := H1
   clear H1
   by_cases c5 : a1_1 = 0
   ·rw [if_pos c5] at H
    have c5b0 : (a1_1 == 0) = true := beq_iff_eq.mpr c5
    have c5b1 : (a1_1 != 0) = false := bne_eq_false_iff_eq.mpr c5
    clear c5
    obtain rfl := Option.some.inj H
    go_enter func105, ntmps105
    go_wp2_with (first | ((with_reducible refine gate_dst (N := 3) rfl ?_); refine bx_ 3 #[.int .u64 a1_0, .int .u64 a1_1] 39 ?_; intro gb249 hg w6 hbox hb; have BK249 := ak_ hbox; have GW249 := ak_ (gs_ hg HB); have GE249 := ak_ (gs_ hg HB); replace HB := ak_ (bt_ (bl_ HB) hb); clear hb hbox hg; have hcz7_0 := kq_ BK249.out 0 rfl; have hcz7_1 := kq_ BK249.out 1 rfl; have hfz7_0 := kf_ BK249.out 0; have hfz7_1 := kf_ BK249.out 1) | ((with_reducible refine gate_callee (f := 60) rfl ?_); refine gl_ (some 8) func60 #[.int .i64 a0, .int .u64 a1_0] ?_; (with_reducible refine (medlarref01_May.calls k a0 a1_0 true _ A3.out).mono ?_); rintro e w' ⟨rfl, ⟨nd, rfl⟩⟩; refine ⟨_, rfl, ?_⟩))
    go_ret
    exact ea_ (by repeat (first | (with_reducible first | exact HB.out | apply ba_ | apply bn_ | apply bd_ | refine below_set ?_ GE249.out) | exact HB.out))
   ·rw [if_neg c5] at H
    have c5b0 : (a1_1 == 0) = false := beq_eq_false_iff_ne.mpr c5
    have c5b1 : (a1_1 != 0) = true := bne_iff_ne.mpr c5
    replace H := bind_eq_some_iff.mp H
    obtain ⟨t251, A80, H⟩ := H
    replace H : (if t251 = true then (if a1_1 = a1_0 then (some 1) else ((medlarref01_Is.f k a1_0 a1_1).bind fun t252 => (if t252 = true then (some 0) else (some 1)))) else (some 1)) = some r := H
    have A8 := ak_ A80
    clear A80
    by_cases c9 : t251 = true
    ·subst c9
     have H1 : (if a1_1 = a1_0 then (some 1) else ((medlarref01_Is.f k a1_0 a1_1).bind fun t252 => (if t252 = true then (some 0) else (some 1)))) = some r := by rw [if_pos rfl] at H; exact H
     clear H
     have H := H1
     clear H1
     by_cases c10 : a1_1 = a1_0
     ·rw [if_pos c10] at H
      have c10b0 : (a1_1 == a1_0) = true := beq_iff_eq.mpr c10
      have c10b1 : (a1_1 != a1_0) = false := bne_eq_false_iff_eq.mpr c10
      clear c10
      obtain rfl := Option.some.inj H
      go_enter func105, ntmps105
      go_wp2_with (first | ((with_reducible refine gate_dst (N := 3) rfl ?_); refine bx_ 3 #[.int .u64 a1_0, .int .u64 a1_1] 39 ?_; intro gb249 hg w11 hbox hb; have BK249 := ak_ hbox; have GW249 := ak_ (gs_ hg HB); have GE249 := ak_ (gs_ hg HB); replace HB := ak_ (bt_ (bl_ HB) hb); clear hb hbox hg; have hcz12_0 := kq_ BK249.out 0 rfl; have hcz12_1 := kq_ BK249.out 1 rfl; have hfz12_0 := kf_ BK249.out 0; have hfz12_1 := kf_ BK249.out 1) | ((with_reducible refine gate_callee (f := 60) rfl ?_); refine gl_ (some 8) func60 #[.int .i64 a0, .int .u64 a1_0] ?_; (with_reducible refine (medlarref01_May.calls k a0 a1_0 true _ A3.out).mono ?_); rintro e w' ⟨rfl, ⟨nd, rfl⟩⟩; refine ⟨_, rfl, ?_⟩) | (go_at_call 60; (with_reducible refine (medlarref01_May.calls k a0 a1_1 true _ A8.out).mono ?_); rintro e w' ⟨rfl, ⟨nd, rfl⟩⟩))
      go_ret
      exact ea_ (by repeat (first | (with_reducible first | exact HB.out | apply ba_ | apply bn_ | apply bd_ | refine below_set ?_ GE249.out) | exact HB.out))
     ·rw [if_neg c10] at H
      have c10b0 : (a1_1 == a1_0) = false := beq_eq_false_iff_ne.mpr c10
      have c10b1 : (a1_1 != a1_0) = true := bne_iff_ne.mpr c10
      replace H := bind_eq_some_iff.mp H
      obtain ⟨t252, A130, H⟩ := H
      replace H : (if t252 = true then (some 0) else (some 1)) = some r := H
      have A13 := ak_ A130
      clear A130
      by_cases c14 : t252 = true
      ·subst c14
       have H1 : (some 0) = some r := by rw [if_pos rfl] at H; exact H
       clear H
       have H := H1
       clear H1
       obtain rfl := Option.some.inj H
       go_enter func105, ntmps105
       go_wp2_with (first | ((with_reducible refine gate_dst (N := 3) rfl ?_); refine bx_ 3 #[.int .u64 a1_0, .int .u64 a1_1] 39 ?_; intro gb249 hg w15 hbox hb; have BK249 := ak_ hbox; have GW249 := ak_ (gs_ hg HB); have GE249 := ak_ (gs_ hg HB); replace HB := ak_ (bt_ (bl_ HB) hb); clear hb hbox hg; have hcz16_0 := kq_ BK249.out 0 rfl; have hcz16_1 := kq_ BK249.out 1 rfl; have hfz16_0 := kf_ BK249.out 0; have hfz16_1 := kf_ BK249.out 1) | ((with_reducible refine gate_callee (f := 60) rfl ?_); refine gl_ (some 8) func60 #[.int .i64 a0, .int .u64 a1_0] ?_; (with_reducible refine (medlarref01_May.calls k a0 a1_0 true _ A3.out).mono ?_); rintro e w' ⟨rfl, ⟨nd, rfl⟩⟩; refine ⟨_, rfl, ?_⟩) | (go_at_call 60; (with_reducible refine (medlarref01_May.calls k a0 a1_1 true _ A8.out).mono ?_); rintro e w' ⟨rfl, ⟨nd, rfl⟩⟩) | (go_at_call 139; (with_reducible refine (medlarref01_Is.calls k a1_0 a1_1 true _ A13.out).mono ?_); rintro e w17 ⟨rfl, hb⟩; replace BK249 := ak_ (kb_ (g := gb249) (o := .cells #[.int .u64 a1_0, .int .u64 a1_1] 39 (0, 0)) (kl_ BK249) hb); replace HB := ak_ (bt_ (by repeat (first | (with_reducible first | exact HB.out | apply ba_ | apply bn_ | apply bd_ | refine below_set ?_ GE249.out) | exact HB.out)) hb); (try clear hb); (try clear hk)))
       go_ret
       exact ea_ (by repeat (first | (with_reducible first | exact HB.out | apply ba_ | apply bn_ | apply bd_ | refine below_set ?_ GE249.out) | exact HB.out))
      ·replace c14 := Bool.eq_false_iff.mpr c14
       subst c14
       have H1 : (some 1) = some r := by rw [if_neg (show ¬ (false = true) by decide)] at H; exact H
       clear H
       have H := H1
       clear H1
       obtain rfl := Option.some.inj H
       go_enter func105, ntmps105
       go_wp2_with (first | ((with_reducible refine gate_dst (N := 3) rfl ?_); refine bx_ 3 #[.int .u64 a1_0, .int .u64 a1_1] 39 ?_; intro gb249 hg w18 hbox hb; have BK249 := ak_ hbox; have GW249 := ak_ (gs_ hg HB); have GE249 := ak_ (gs_ hg HB); replace HB := ak_ (bt_ (bl_ HB) hb); clear hb hbox hg; have hcz19_0 := kq_ BK249.out 0 rfl; have hcz19_1 := kq_ BK249.out 1 rfl; have hfz19_0 := kf_ BK249.out 0; have hfz19_1 := kf_ BK249.out 1) | ((with_reducible refine gate_callee (f := 60) rfl ?_); refine gl_ (some 8) func60 #[.int .i64 a0, .int .u64 a1_0] ?_; (with_reducible refine (medlarref01_May.calls k a0 a1_0 true _ A3.out).mono ?_); rintro e w' ⟨rfl, ⟨nd, rfl⟩⟩; refine ⟨_, rfl, ?_⟩) | (go_at_call 60; (with_reducible refine (medlarref01_May.calls k a0 a1_1 true _ A8.out).mono ?_); rintro e w' ⟨rfl, ⟨nd, rfl⟩⟩) | (go_at_call 139; (with_reducible refine (medlarref01_Is.calls k a1_0 a1_1 false _ A13.out).mono ?_); rintro e w20 ⟨rfl, hb⟩; replace BK249 := ak_ (kb_ (g := gb249) (o := .cells #[.int .u64 a1_0, .int .u64 a1_1] 39 (0, 0)) (kl_ BK249) hb); replace HB := ak_ (bt_ (by repeat (first | (with_reducible first | exact HB.out | apply ba_ | apply bn_ | apply bd_ | refine below_set ?_ GE249.out) | exact HB.out)) hb); (try clear hb); (try clear hk)))
       go_ret
       exact ea_ (by repeat (first | (with_reducible first | exact HB.out | apply ba_ | apply bn_ | apply bd_ | refine below_set ?_ GE249.out) | exact HB.out))
    ·replace c9 := Bool.eq_false_iff.mpr c9
     subst c9
     have H1 : (some 1) = some r := by rw [if_neg (show ¬ (false = true) by decide)] at H; exact H
     clear H
     have H := H1
     clear H1
     obtain rfl := Option.some.inj H
     go_enter func105, ntmps105
     go_wp2_with (first | ((with_reducible refine gate_dst (N := 3) rfl ?_); refine bx_ 3 #[.int .u64 a1_0, .int .u64 a1_1] 39 ?_; intro gb249 hg w21 hbox hb; have BK249 := ak_ hbox; have GW249 := ak_ (gs_ hg HB); have GE249 := ak_ (gs_ hg HB); replace HB := ak_ (bt_ (bl_ HB) hb); clear hb hbox hg; have hcz22_0 := kq_ BK249.out 0 rfl; have hcz22_1 := kq_ BK249.out 1 rfl; have hfz22_0 := kf_ BK249.out 0; have hfz22_1 := kf_ BK249.out 1) | ((with_reducible refine gate_callee (f := 60) rfl ?_); refine gl_ (some 8) func60 #[.int .i64 a0, .int .u64 a1_0] ?_; (with_reducible refine (medlarref01_May.calls k a0 a1_0 true _ A3.out).mono ?_); rintro e w' ⟨rfl, ⟨nd, rfl⟩⟩; refine ⟨_, rfl, ?_⟩) | (go_at_call 60; (with_reducible refine (medlarref01_May.calls k a0 a1_1 false _ A8.out).mono ?_); rintro e w' ⟨rfl, ⟨nd, rfl⟩⟩))
     go_ret
     exact ea_ (by repeat (first | (with_reducible first | exact HB.out | apply ba_ | apply bn_ | apply bd_ | refine below_set ?_ GE249.out) | exact HB.out))
  ·replace c4 := Bool.eq_false_iff.mpr c4
   subst c4
   have H1 : (some 1) = some r := by rw [if_neg (show ¬ (false = true) by decide)] at H; exact H
   clear H
   have H := H1
   clear H1
   obtain rfl := Option.some.inj H
   go_enter func105, ntmps105
   go_wp2_with (first | ((with_reducible refine gate_dst (N := 3) rfl ?_); refine bx_ 3 #[.int .u64 a1_0, .int .u64 a1_1] 39 ?_; intro gb249 hg w23 hbox hb; have BK249 := ak_ hbox; have GW249 := ak_ (gs_ hg HB); have GE249 := ak_ (gs_ hg HB); replace HB := ak_ (bt_ (bl_ HB) hb); clear hb hbox hg; have hcz24_0 := kq_ BK249.out 0 rfl; have hcz24_1 := kq_ BK249.out 1 rfl; have hfz24_0 := kf_ BK249.out 0; have hfz24_1 := kf_ BK249.out 1) | ((with_reducible refine gate_callee (f := 60) rfl ?_); refine gl_ (some 8) func60 #[.int .i64 a0, .int .u64 a1_0] ?_; (with_reducible refine (medlarref01_May.calls k a0 a1_0 false _ A3.out).mono ?_); rintro e w' ⟨rfl, ⟨nd, rfl⟩⟩; refine ⟨_, rfl, ?_⟩))
   go_ret
   exact ea_ (by repeat (first | (with_reducible first | exact HB.out | apply ba_ | apply bn_ | apply bd_ | refine below_set ?_ GE249.out) | exact HB.out))
mutual
def medlarref08_Step.j0 : Nat → Int → Bool → Option (Int × Int)
  | 0, _, _ => none
  | k + 1, x0, x10 => if x10 = true then (some (0, 1)) else (medlarref08_Step.l0 k x0 1)
def medlarref08_Step.l0 : Nat → Int → Int → Option (Int × Int)
  | 0, _, _ => none
  | k + 1, x0, x4 => if (wrap64 (x4 * x4)) < x0 then (medlarref08_Step.l0 k x0 (wrap64 (x4 + 1))) else (some (x4, 0))
end
def medlarref08_Step.f (k : Nat) (a0 : Int) : Option (Int × Int) := if a0 < 1 then (medlarref08_Step.j0 k a0 true) else (medlarref08_Step.j0 k a0 (decide (a0 > 32)))
theorem medlarref08_Step.mono_l : ∀ k, (∀ y0 y1, LeO (medlarref08_Step.j0 k y0 y1) (medlarref08_Step.j0 (k + 1) y0 y1)) ∧ (∀ y0 y1, LeO (medlarref08_Step.l0 k y0 y1) (medlarref08_Step.l0 (k + 1) y0 y1))
  | 0 => ⟨fun _ _ r h => by simp [medlarref08_Step.j0] at h, fun _ _ r h => by simp [medlarref08_Step.l0] at h⟩
  | k + 1 => by
   obtain ⟨ih0, ih1⟩ := medlarref08_Step.mono_l k
   refine ⟨?_, ?_⟩
   ·intro y0 y1
    unfold medlarref08_Step.j0
    repeat' first
    | (with_reducible exact ih0 _ _)
    | (with_reducible exact ih1 _ _)
    | (with_reducible exact LeO.refl _)
    | (with_reducible exact LeO.none _)
    | (with_reducible refine LeO.ite ?_ ?_)
    | (with_reducible refine LeO.bind ?_ (fun _ => ?_))
    | exact ih0 _ _
    | exact ih1 _ _
    | exact LeO.none _
    | refine LeO.ite ?_ ?_
    | refine LeO.bind ?_ (fun _ => ?_)
   ·intro y0 y1
    unfold medlarref08_Step.l0
    repeat' first
    | (with_reducible exact ih0 _ _)
    | (with_reducible exact ih1 _ _)
    | (with_reducible exact LeO.refl _)
    | (with_reducible exact LeO.none _)
    | (with_reducible refine LeO.ite ?_ ?_)
    | (with_reducible refine LeO.bind ?_ (fun _ => ?_))
    | exact ih0 _ _
    | exact ih1 _ _
    | exact LeO.none _
    | refine LeO.ite ?_ ?_
    | refine LeO.bind ?_ (fun _ => ?_)
theorem medlarref08_Step.mono : ∀ a0 k, LeO (medlarref08_Step.f k a0) (medlarref08_Step.f (k + 1) a0) := by
  intro a0 k
  obtain ⟨ih0, ih1⟩ := medlarref08_Step.mono_l k
  unfold medlarref08_Step.f
  repeat' first
    | (with_reducible exact ih0 _ _)
    | (with_reducible exact ih1 _ _)
    | (with_reducible exact LeO.refl _)
    | (with_reducible exact LeO.none _)
    | (with_reducible refine LeO.ite ?_ ?_)
    | (with_reducible refine LeO.bind ?_ (fun _ => ?_))
    | exact ih0 _ _
    | exact ih1 _ _
    | exact LeO.none _
    | refine LeO.ite ?_ ?_
    | refine LeO.bind ?_ (fun _ => ?_)
set_option maxHeartbeats 8000000 in
set_option maxRecDepth 100000 in
theorem medlarref08_Step.calls (k : Nat) (a0 : Int) (r1 : Int) (r2 : Int) (w : World) (h : medlarref08_Step.f k a0 = some (r1, r2)) :
   Calls Try.prog 156 #[.int .i64 a0] w fun e w' => e = .returned (.tuple #[.int .i64 r1, .int .i64 r2]) ∧ Drawn0 w w' := by
  have H : (if a0 < 1 then (medlarref08_Step.j0 k a0 true) else (medlarref08_Step.j0 k a0 (decide (a0 > 32)))) = some (r1, r2) := h
  clear h
  have HC2 := ak_ H
  clear H
  go_enter func156, ntmps156
  go_upto_region 1 with (fail)
  go_cut [10] (fun v10 wc => ∃ (kq : Nat) (x10_1 : Bool), v10 = .bool x10_1 ∧ Aside0 (medlarref08_Step.j0 kq a0 x10_1 = some (r1, r2)) ∧ Aside0 (kq ≤ k) ∧ Drawn0 w wc)
  case first =>
   have H := HC2.out
   clear HC2
   by_cases c3 : a0 < 1
   ·rw [if_pos c3] at H
    have c3b0 := decide_eq_true c3
    clear c3
    (first | rw [c3b0] | (simp only [i64_w, i32_w]; rw [c3b0]) | skip)
    have H' := ak_ H
    clear H
    go_wp2
    go_meet
    case rel => exact ⟨_, (true), rf_, H', ⟨by first | omega | exact Nat.le_refl _⟩, by repeat (first | exact Drawn0.refl _ | apply Drawn0.step)⟩
   ·rw [if_neg c3] at H
    have c3b0 := decide_eq_false c3
    clear c3
    (first | rw [c3b0] | (simp only [i64_w, i32_w]; rw [c3b0]) | skip)
    have H' := ak_ H
    clear H
    go_wp2
    go_meet
    case rel => exact ⟨_, (decide (a0 > 32)), rf_, H', ⟨by first | omega | exact Nat.le_refl _⟩, by repeat (first | exact Drawn0.refl _ | apply Drawn0.step)⟩
  case rest =>
   clear HC2
   try clear c1
   try clear p2
   try clear c3
   try clear c3b0
   obtain ⟨kq, x10_1, rfl, HA, HJ1, ⟨mc1, rfl⟩⟩ := hcut
   cases kq with
   | zero => exact absurd HA.out (by simp [medlarref08_Step.j0])
   | succ kj1 =>
    have H := HA.out
    clear HA
    simp only [medlarref08_Step.j0] at H
    by_cases c4 : x10_1 = true
    ·subst c4
     have H1 : (some (0, 1)) = some (r1, r2) := by rw [if_pos rfl] at H; exact H
     clear H
     have H := H1
     clear H1
     simp only [some.injEq, Prod.mk.injEq] at H
     obtain ⟨rfl, rfl⟩ := H
     go_wp2
     go_ret2
     exact ⟨by first | rfl | (simp; done) | (simp [*]; done), by repeat (first | exact Drawn0.refl _ | apply Drawn0.step)⟩
    ·replace c4 := Bool.eq_false_iff.mpr c4
     subst c4
     have H1 : (medlarref08_Step.l0 kj1 a0 1) = some (r1, r2) := by rw [if_neg (show ¬ (false = true) by decide)] at H; exact H
     clear H
     have H := H1
     clear H1
     have H' := ak_ H
     clear H
     go_wp2
     go_loopg [4] kj1 (fun kq v4 w' => ∃ (x4_2 : Int), v4 = .int .i64 x4_2 ∧ Aside0 (medlarref08_Step.l0 kq a0 x4_2 = some (r1, r2)) ∧ Aside0 (kq ≤ kj1) ∧ Drawn0 w w')
     case atStart => exact ⟨(1), rf_, H', ⟨Nat.le_refl _⟩, by repeat (first | exact Drawn0.refl _ | apply Drawn0.step)⟩
     case round =>
      clear H'
      try clear c1
      try clear p2
      try clear c3
      try clear c3b0
      try clear c4
      try clear p2
      obtain ⟨x4_2, rfl, HA, HK2, ⟨m2, rfl⟩⟩ := hrel
      cases gk with
      | zero => exact absurd HA.out (by simp [medlarref08_Step.l0])
      | succ k2 =>
       have H := HA.out
       clear HA
       simp only [medlarref08_Step.l0] at H
       by_cases c5 : (wrap64 (x4_2 * x4_2)) < a0
       ·rw [if_pos c5] at H
        have c5b0 := decide_eq_true c5
        clear c5
        have H' := ak_ H
        clear H
        go_wp2
        go_roundg k2
        case measure => have := HJ1.out; have := HK2.out; omega
        case rel => exact ⟨(wrap64 (x4_2 + 1)), rf_, H', ⟨by have := HJ1.out; have := HK2.out; omega⟩, by repeat (first | exact Drawn0.refl _ | apply Drawn0.step)⟩
       ·rw [if_neg c5] at H
        have c5b0 := decide_eq_false c5
        clear c5
        simp only [some.injEq, Prod.mk.injEq] at H
        obtain ⟨rfl, rfl⟩ := H
        go_wp2
        go_ret2
        exact ⟨by first | rfl | (simp; done) | (simp [*]; done), by repeat (first | exact Drawn0.refl _ | apply Drawn0.step)⟩
def medlarref08_special.f (k : Nat) (a0 : Int) (a1 : Int) : Option (Bool) := (medlarref08_Step.f k a0).bind fun bt253 => (if bt253.1 = 0 then (none) else (if (Int.tmod a1 bt253.1) = 0 then (some true) else (some (a1 == a0))))
theorem medlarref08_special.mono : ∀ a0 a1 k, LeO (medlarref08_special.f k a0 a1) (medlarref08_special.f (k + 1) a0 a1) := by
  intro a0 a1 k
  unfold medlarref08_special.f
  repeat' first
    | (with_reducible exact medlarref08_Step.mono _ _)
    | (with_reducible exact LeO.refl _)
    | (with_reducible exact LeO.none _)
    | (with_reducible refine LeO.ite ?_ ?_)
    | (with_reducible refine LeO.bind ?_ (fun _ => ?_))
    | exact medlarref08_Step.mono _ _
    | exact LeO.none _
    | refine LeO.ite ?_ ?_
    | refine LeO.bind ?_ (fun _ => ?_)
set_option maxHeartbeats 8000000 in
set_option maxRecDepth 100000 in
theorem medlarref08_special.calls (k : Nat) (a0 : Int) (a1 : Int) (r : Bool) (w : World) (h : medlarref08_special.f k a0 a1 = some r) :
   Calls Try.prog 140 #[.int .i64 a0, .int .i64 a1] w fun e w' => e = .returned (.bool r) ∧ Drawn0 w w' := by
  have H : ((medlarref08_Step.f k a0).bind fun bt253 => (if bt253.1 = 0 then (none) else (if (Int.tmod a1 bt253.1) = 0 then (some true) else (some (a1 == a0))))) = some r := h
  clear h
  replace H := bind_eq_some_iff.mp H
  obtain ⟨⟨t253, t254⟩, A30, H⟩ := H
  replace H : (if t253 = 0 then (none) else (if (Int.tmod a1 t253) = 0 then (some true) else (some (a1 == a0)))) = some r := H
  have A3 := ak_ A30
  clear A30
  by_cases c4 : t253 = 0
  ·rw [if_pos c4] at H
   exact absurd H (by simp)
  ·rw [if_neg c4] at H
   have c4b0 : (t253 == 0) = false := beq_eq_false_iff_ne.mpr c4
   have c4b1 : (t253 != 0) = true := bne_iff_ne.mpr c4
   by_cases c5 : (Int.tmod a1 t253) = 0
   ·rw [if_pos c5] at H
    have c5b0 : ((Int.tmod a1 t253) == 0) = true := beq_iff_eq.mpr c5
    have c5b1 : ((Int.tmod a1 t253) != 0) = false := bne_eq_false_iff_eq.mpr c5
    clear c5
    obtain rfl := Option.some.inj H
    go_enter func140, ntmps140
    go_wp2_with (first | ((with_reducible refine gate_callee (f := 156) rfl ?_); refine gl_ (some 9) func156 #[.int .i64 a0] ?_; (with_reducible refine (medlarref08_Step.calls k a0 t253 t254 _ A3.out).mono ?_); rintro e w' ⟨rfl, ⟨nd, rfl⟩⟩; refine ⟨_, rfl, ?_⟩))
    go_ret
    exact ⟨by first | rfl | (simp; done) | (simp [*]; done), by repeat (first | exact Drawn0.refl _ | apply Drawn0.step)⟩
   ·rw [if_neg c5] at H
    have c5b0 : ((Int.tmod a1 t253) == 0) = false := beq_eq_false_iff_ne.mpr c5
    have c5b1 : ((Int.tmod a1 t253) != 0) = true := bne_iff_ne.mpr c5
    obtain rfl := Option.some.inj H
    go_enter func140, ntmps140
    go_wp2_with (first | ((with_reducible refine gate_callee (f := 156) rfl ?_); refine gl_ (some 9) func156 #[.int .i64 a0] ?_; (with_reducible refine (medlarref08_Step.calls k a0 t253 t254 _ A3.out).mono ?_); rintro e w' ⟨rfl, ⟨nd, rfl⟩⟩; refine ⟨_, rfl, ?_⟩))
    go_ret
    exact ⟨by first | rfl | (simp; done) | (simp [*]; done), by repeat (first | exact Drawn0.refl _ | apply Drawn0.step)⟩
def medlarref08_depth.f (k : Nat) (a0 : Int) : Option (Int) := (medlarref01_Chain.f k a0).bind fun t255 => (some (wrap64 ((t255.length : Int) - 1)))
theorem medlarref08_depth.mono : ∀ a0 k, LeO (medlarref08_depth.f k a0) (medlarref08_depth.f (k + 1) a0) := by
  intro a0 k
  unfold medlarref08_depth.f
  repeat' first
    | (with_reducible exact medlarref01_Chain.mono _ _)
    | (with_reducible exact LeO.refl _)
    | (with_reducible exact LeO.none _)
    | (with_reducible refine LeO.ite ?_ ?_)
    | (with_reducible refine LeO.bind ?_ (fun _ => ?_))
    | exact medlarref01_Chain.mono _ _
    | exact LeO.none _
    | refine LeO.ite ?_ ?_
    | refine LeO.bind ?_ (fun _ => ?_)
set_option maxHeartbeats 8000000 in
set_option maxRecDepth 100000 in
theorem medlarref08_depth.calls (k : Nat) (a0 : Int) (r : Int) (w : World) (h : medlarref08_depth.f k a0 = some r) :
   Calls Try.prog 141 #[.int .u64 a0] w fun e w' => e = .returned (.int .i64 r) ∧ Below w.heap.size w w' := by
  have HB := ak_ (Below.refl w.heap.size w)
  have H : ((medlarref01_Chain.f k a0).bind fun t255 => (some (wrap64 ((t255.length : Int) - 1)))) = some r := h
  clear h
  replace H := bind_eq_some_iff.mp H
  obtain ⟨t255, A20, H⟩ := H
  replace H : (some (wrap64 ((t255.length : Int) - 1))) = some r := H
  have A2 := ak_ A20
  clear A20
  obtain rfl := Option.some.inj H
  go_enter func141, ntmps141
  go_wp2_with (first | ((with_reducible refine gate_callee (f := 116) rfl ?_); refine gl_ (some 4) func116 #[.int .u64 a0] ?_; (with_reducible refine (medlarref01_Chain.calls k a0 t255 _ A2.out).mono ?_); rintro e w3 ⟨v256, rfl, ho0, hb⟩; refine ⟨_, rfl, ?_⟩; have HO257 := ak_ (Kd.R_lower ho0 (bz_ (bl_ HB))); replace HB := ak_ (bt_ (bl_ HB) hb); (try clear hb); (try clear hk); (try clear ho0); obtain ⟨Ao4, co4, eo4⟩ := Kd.R_slice HO257.out; subst eo4))
  go_ret
  exact ea_ (bl_ HB)
def medlarref08_next.l0 : Nat → Int → Int → Option (Int)
  | 0, _, _ => none
  | k + 1, x0, x1 => (medlarref08_special.f k x0 x1).bind fun t258 => (if t258 = true then (some x1) else (medlarref08_next.l0 k x0 (wrap64 (x1 + 1))))
def medlarref08_next.f (k : Nat) (a0 : Int) (a1 : Int) : Option (Int) := medlarref08_next.l0 k a0 (wrap64 (a1 + 1))
theorem medlarref08_next.mono_l : ∀ k, (∀ y0 y1, LeO (medlarref08_next.l0 k y0 y1) (medlarref08_next.l0 (k + 1) y0 y1))
  | 0 => fun _ _ r h => by simp [medlarref08_next.l0] at h
  | k + 1 => by
   have ih0 := medlarref08_next.mono_l k
   ·intro y0 y1
    unfold medlarref08_next.l0
    repeat' first
    | (with_reducible exact ih0 _ _)
    | (with_reducible exact medlarref08_special.mono _ _ _)
    | (with_reducible exact LeO.refl _)
    | (with_reducible exact LeO.none _)
    | (with_reducible refine LeO.ite ?_ ?_)
    | (with_reducible refine LeO.bind ?_ (fun _ => ?_))
    | exact ih0 _ _
    | exact medlarref08_special.mono _ _ _
    | exact LeO.none _
    | refine LeO.ite ?_ ?_
    | refine LeO.bind ?_ (fun _ => ?_)
theorem medlarref08_next.mono : ∀ a0 a1 k, LeO (medlarref08_next.f k a0 a1) (medlarref08_next.f (k + 1) a0 a1) := by
  intro a0 a1 k
  have ih0 := medlarref08_next.mono_l k
  unfold medlarref08_next.f
  repeat' first
    | (with_reducible exact ih0 _ _)
    | (with_reducible exact medlarref08_special.mono _ _ _)
    | (with_reducible exact LeO.refl _)
    | (with_reducible exact LeO.none _)
    | (with_reducible refine LeO.ite ?_ ?_)
    | (with_reducible refine LeO.bind ?_ (fun _ => ?_))
    | exact ih0 _ _
    | exact medlarref08_special.mono _ _ _
    | exact LeO.none _
    | refine LeO.ite ?_ ?_
    | refine LeO.bind ?_ (fun _ => ?_)
set_option maxHeartbeats 8000000 in
set_option maxRecDepth 100000 in
theorem medlarref08_next.calls (k : Nat) (a0 : Int) (a1 : Int) (r : Int) (w : World) (h : medlarref08_next.f k a0 a1 = some r) :
   Calls Try.prog 142 #[.int .i64 a0, .int .i64 a1] w fun e w' => e = .returned (.int .i64 r) ∧ Drawn0 w w' := by
  have H : (medlarref08_next.l0 k a0 (wrap64 (a1 + 1))) = some r := h
  clear h
  have H' := ak_ H
  clear H
  go_enter func142, ntmps142
  go_wp2
  go_loopg [1] k (fun kq v1 w' => ∃ (x1_1 : Int), v1 = .int .i64 x1_1 ∧ Aside0 (medlarref08_next.l0 kq a0 x1_1 = some r) ∧ Aside0 (kq ≤ k) ∧ Drawn0 w w')
  case atStart => exact ⟨(wrap64 (a1 + 1)), rf_, H', ⟨Nat.le_refl _⟩, by repeat (first | exact Drawn0.refl _ | apply Drawn0.step)⟩
  case round =>
   clear H'
   try clear c1
   try clear p2
   obtain ⟨x1_1, rfl, HA, HK1, ⟨m1, rfl⟩⟩ := hrel
   cases gk with
   | zero => exact absurd HA.out (by simp [medlarref08_next.l0])
   | succ k1 =>
    have H := HA.out
    clear HA
    simp only [medlarref08_next.l0] at H
    replace H := bind_eq_some_iff.mp H
    obtain ⟨t258, A30, H⟩ := H
    replace H : (if t258 = true then (some x1_1) else (medlarref08_next.l0 k1 a0 (wrap64 (x1_1 + 1)))) = some r := H
    have A3 := ak_ A30
    clear A30
    by_cases c4 : t258 = true
    ·subst c4
     have H1 : (some x1_1) = some r := by rw [if_pos rfl] at H; exact H
     clear H
     have H := H1
     clear H1
     obtain rfl := Option.some.inj H
     go_wp2_with (first | ((with_reducible refine gate_callee (f := 140) rfl ?_); refine gl_ (some 9) func140 #[.int .i64 a0, .int .i64 x1_1] ?_; (with_reducible refine (medlarref08_special.calls k1 a0 x1_1 true _ A3.out).mono ?_); rintro e w' ⟨rfl, ⟨nd, rfl⟩⟩; refine ⟨_, rfl, ?_⟩))
     go_ret
     exact ⟨by first | rfl | (simp; done) | (simp [*]; done), by repeat (first | exact Drawn0.refl _ | apply Drawn0.step)⟩
    ·replace c4 := Bool.eq_false_iff.mpr c4
     subst c4
     have H1 : (medlarref08_next.l0 k1 a0 (wrap64 (x1_1 + 1))) = some r := by rw [if_neg (show ¬ (false = true) by decide)] at H; exact H
     clear H
     have H := H1
     clear H1
     have H' := ak_ H
     clear H
     go_wp2_with (first | ((with_reducible refine gate_callee (f := 140) rfl ?_); refine gl_ (some 9) func140 #[.int .i64 a0, .int .i64 x1_1] ?_; (with_reducible refine (medlarref08_special.calls k1 a0 x1_1 false _ A3.out).mono ?_); rintro e w' ⟨rfl, ⟨nd, rfl⟩⟩; refine ⟨_, rfl, ?_⟩))
     go_roundg k1
     case measure => have := HK1.out; omega
     case rel => exact ⟨(wrap64 (x1_1 + 1)), rf_, H', ⟨by have := HK1.out; omega⟩, by repeat (first | exact Drawn0.refl _ | apply Drawn0.step)⟩
def medlarref08_Useful.f (k : Nat) (a0 : Int) (a1_0 : Int) (a1_1 : Int) : Option (Bool × Int) := (medlarref08_Check.f k a0 a1_0 a1_1).bind fun t260 => (if t260 = 0 then (if a1_1 = 0 then (some ((a1_0 == 1), 0)) else ((medlarref08_depth.f k a1_0).bind fun t261 => ((medlarref08_special.f k a0 t261).bind fun t262 => (if t262 = true then (some (true, 0)) else ((medlarref08_depth.f k a1_0).bind fun t263 => ((medlarref08_next.f k a0 t263).bind fun t264 => ((medlarref08_depth.f k a1_1).bind fun t265 => (some (decide (t264 ≥ t265), 0))))))))) else (some (false, 1)))
theorem medlarref08_Useful.mono : ∀ a0 a1 a2 k, LeO (medlarref08_Useful.f k a0 a1 a2) (medlarref08_Useful.f (k + 1) a0 a1 a2) := by
  intro a0 a1 a2 k
  unfold medlarref08_Useful.f
  repeat' first
    | (with_reducible exact medlarref08_Check.mono _ _ _ _)
    | (with_reducible exact medlarref08_depth.mono _ _)
    | (with_reducible exact medlarref08_next.mono _ _ _)
    | (with_reducible exact medlarref08_special.mono _ _ _)
    | (with_reducible exact LeO.refl _)
    | (with_reducible exact LeO.none _)
    | (with_reducible refine LeO.ite ?_ ?_)
    | (with_reducible refine LeO.bind ?_ (fun _ => ?_))
    | exact medlarref08_Check.mono _ _ _ _
    | exact medlarref08_depth.mono _ _
    | exact medlarref08_next.mono _ _ _
    | exact medlarref08_special.mono _ _ _
    | exact LeO.none _
    | refine LeO.ite ?_ ?_
    | refine LeO.bind ?_ (fun _ => ?_)
def medlarref08_Useful.T5 : Bool × List (List Nat × List Nat) := (true, [([], []), ([], []), ([1], [1]), ([2], [2]), ([0, 3, 3], [0, 3]), ([4, 4], [4]), ([5], [5]), ([5], [5]), ([7, 5], [5, 7]), ([8, 5, 5], [5, 8]), ([6, 9, 9, 5], [5, 6, 9]), ([5], [5]), ([11, 5], [5, 11]), ([12, 10, 5], [5, 12]), ([10, 13, 5], [5, 10, 13]), ([5, 14], [5, 14]), ([15, 13, 0, 1, 2, 3, 4, 5, 6, 7, 8, 9, 10, 11, 12, 13, 14, 15], [15]), ([16, 0, 1, 2, 3, 4, 5, 6, 7, 8, 9, 10, 11, 12, 13, 14, 15, 16], [])])
def medlarref08_Useful.B5 : List Nat := [0, 0, 2, 6, 15, 31, 63, 63, 191, 447, 1023, 63, 2111, 8191, 16383, 32767, 65535, 131071]
theorem medlarref08_Useful.tab5 : rtab .any (opsOf Try.f106 5) = medlarref08_Useful.T5 := by kernel_rfl
theorem medlarref08_Useful.bits5 : waitsOk medlarref08_Useful.T5.2 medlarref08_Useful.B5 = true := by kernel_rfl
set_option maxHeartbeats 8000000 in
set_option maxRecDepth 100000 in
theorem medlarref08_Useful.calls (k : Nat) (a0 : Int) (a1_0 : Int) (a1_1 : Int) (r1 : Bool) (r2 : Int) (w : World) (h : medlarref08_Useful.f k a0 a1_0 a1_1 = some (r1, r2)) :
   Calls Try.prog 106 #[.int .i64 a0, .agg #[.int .u64 a1_0, .int .u64 a1_1]] w fun e w' => e = .returned (.tuple #[.bool r1, .int .i64 r2]) ∧ Below w.heap.size w w' := by
  have hu39 := underlying39
  have HB := ak_ (Below.refl w.heap.size w)
  have H : ((medlarref08_Check.f k a0 a1_0 a1_1).bind fun t260 => (if t260 = 0 then (if a1_1 = 0 then (some ((a1_0 == 1), 0)) else ((medlarref08_depth.f k a1_0).bind fun t261 => ((medlarref08_special.f k a0 t261).bind fun t262 => (if t262 = true then (some (true, 0)) else ((medlarref08_depth.f k a1_0).bind fun t263 => ((medlarref08_next.f k a0 t263).bind fun t264 => ((medlarref08_depth.f k a1_1).bind fun t265 => (some (decide (t264 ≥ t265), 0))))))))) else (some (false, 1)))) = some (r1, r2) := h
  clear h
  replace H := bind_eq_some_iff.mp H
  obtain ⟨t260, A30, H⟩ := H
  replace H : (if t260 = 0 then (if a1_1 = 0 then (some ((a1_0 == 1), 0)) else ((medlarref08_depth.f k a1_0).bind fun t261 => ((medlarref08_special.f k a0 t261).bind fun t262 => (if t262 = true then (some (true, 0)) else ((medlarref08_depth.f k a1_0).bind fun t263 => ((medlarref08_next.f k a0 t263).bind fun t264 => ((medlarref08_depth.f k a1_1).bind fun t265 => (some (decide (t264 ≥ t265), 0))))))))) else (some (false, 1))) = some (r1, r2) := H
  have A3 := ak_ A30
  clear A30
  by_cases c4 : t260 = 0
  ·rw [if_pos c4] at H
   have c4b0 : (t260 == 0) = true := beq_iff_eq.mpr c4
   have c4b1 : (t260 != 0) = false := bne_eq_false_iff_eq.mpr c4
   clear c4
   by_cases c5 : a1_1 = 0
   ·rw [if_pos c5] at H
    have c5b0 : (a1_1 == 0) = true := beq_iff_eq.mpr c5
    have c5b1 : (a1_1 != 0) = false := bne_eq_false_iff_eq.mpr c5
    clear c5
    simp only [some.injEq, Prod.mk.injEq] at H
    obtain ⟨rfl, rfl⟩ := H
    go_enter func106, ntmps106
    go_wp2_with (first | ((with_reducible refine gate_dst (N := 3) rfl ?_); refine bx_ 3 #[.int .u64 a1_0, .int .u64 a1_1] 39 ?_; intro gb259 hg w6 hbox hb; have BK259 := ak_ hbox; have GW259 := ak_ (gs_ hg HB); have GE259 := ak_ (gs_ hg HB); replace HB := ak_ (bt_ (bl_ HB) hb); clear hb hbox hg; have hcz7_0 := kq_ BK259.out 0 rfl; have hcz7_1 := kq_ BK259.out 1 rfl; have hfz7_0 := kf_ BK259.out 0; have hfz7_1 := kf_ BK259.out 1) | ((with_reducible refine gate_callee (f := 105) rfl ?_); refine gl_ (some 8) func105 #[.int .i64 a0, .agg #[.int .u64 a1_0, .int .u64 a1_1]] ?_; (with_reducible refine (medlarref08_Check.calls k a0 a1_0 a1_1 t260 _ A3.out).mono ?_); rintro e w8 ⟨rfl, hb⟩; refine ⟨_, rfl, ?_⟩; replace BK259 := ak_ (kb_ (g := gb259) (o := .cells #[.int .u64 a1_0, .int .u64 a1_1] 39 (0, 0)) (kl_ BK259) hb); replace HB := ak_ (bt_ (by repeat (first | (with_reducible first | exact HB.out | apply ba_ | apply bn_ | apply bd_ | refine below_set ?_ GE259.out) | exact HB.out)) hb); (try clear hb); (try clear hk); have hcz9_0 := kq_ BK259.out 0 rfl; have hcz9_1 := kq_ BK259.out 1 rfl; have hfz9_0 := kf_ BK259.out 0; have hfz9_1 := kf_ BK259.out 1))
    go_ret2
    exact ea_ (by repeat (first | (with_reducible first | exact HB.out | apply ba_ | apply bn_ | apply bd_ | refine below_set ?_ GE259.out) | exact HB.out))
   ·rw [if_neg c5] at H
    have c5b0 : (a1_1 == 0) = false := beq_eq_false_iff_ne.mpr c5
    have c5b1 : (a1_1 != 0) = true := bne_iff_ne.mpr c5
    replace H := bind_eq_some_iff.mp H
    obtain ⟨t261, A100, H⟩ := H
    replace H : ((medlarref08_special.f k a0 t261).bind fun t262 => (if t262 = true then (some (true, 0)) else ((medlarref08_depth.f k a1_0).bind fun t263 => ((medlarref08_next.f k a0 t263).bind fun t264 => ((medlarref08_depth.f k a1_1).bind fun t265 => (some (decide (t264 ≥ t265), 0))))))) = some (r1, r2) := H
    have A10 := ak_ A100
    clear A100
    replace H := bind_eq_some_iff.mp H
    obtain ⟨t262, A110, H⟩ := H
    replace H : (if t262 = true then (some (true, 0)) else ((medlarref08_depth.f k a1_0).bind fun t263 => ((medlarref08_next.f k a0 t263).bind fun t264 => ((medlarref08_depth.f k a1_1).bind fun t265 => (some (decide (t264 ≥ t265), 0)))))) = some (r1, r2) := H
    have A11 := ak_ A110
    clear A110
    by_cases c12 : t262 = true
    ·subst c12
     have H1 : (some (true, 0)) = some (r1, r2) := by rw [if_pos rfl] at H; exact H
     clear H
     have H := H1
     clear H1
     simp only [some.injEq, Prod.mk.injEq] at H
     obtain ⟨rfl, rfl⟩ := H
     go_enter func106, ntmps106
     try go_wp2_with (first | ((with_reducible refine gate_dst (N := 3) rfl ?_); refine bx_ 3 #[.int .u64 a1_0, .int .u64 a1_1] 39 ?_; intro gb259 hg w13 hbox hb; have BK259 := ak_ hbox; have GW259 := ak_ (gs_ hg HB); have GE259 := ak_ (gs_ hg HB); replace HB := ak_ (bt_ (bl_ HB) hb); clear hb hbox hg; have hcz14_0 := kq_ BK259.out 0 rfl; have hcz14_1 := kq_ BK259.out 1 rfl; have hfz14_0 := kf_ BK259.out 0; have hfz14_1 := kf_ BK259.out 1) | ((with_reducible refine gate_callee (f := 105) rfl ?_); refine gl_ (some 8) func105 #[.int .i64 a0, .agg #[.int .u64 a1_0, .int .u64 a1_1]] ?_; (with_reducible refine (medlarref08_Check.calls k a0 a1_0 a1_1 t260 _ A3.out).mono ?_); rintro e w15 ⟨rfl, hb⟩; refine ⟨_, rfl, ?_⟩; replace BK259 := ak_ (kb_ (g := gb259) (o := .cells #[.int .u64 a1_0, .int .u64 a1_1] 39 (0, 0)) (kl_ BK259) hb); replace HB := ak_ (bt_ (by repeat (first | (with_reducible first | exact HB.out | apply ba_ | apply bn_ | apply bd_ | refine below_set ?_ GE259.out) | exact HB.out)) hb); (try clear hb); (try clear hk); have hcz16_0 := kq_ BK259.out 0 rfl; have hcz16_1 := kq_ BK259.out 1 rfl; have hfz16_0 := kf_ BK259.out 0; have hfz16_1 := kf_ BK259.out 1))
     replace BK259 := ak_ (kd_ BK259.out)
     replace HB := ak_ (bd_ HB.out)
     refine start_ (n := 18) (S := fun w' => w'.cell? ⟨gb259, 0, none⟩ = some (.int .u64 a1_0) ∧ w'.cell? ⟨gb259, 1, none⟩ = some (.int .u64 a1_1)) (ds := []) #[false, false, false, false, false, false, false, false, false, false, false, false, false, false, false, false, false, false] (by kernel_rfl) rfl rfl ⟨(kc_ BK259.out 0).trans rfl, (kc_ BK259.out 1).trans rfl⟩ (fun hHeld => ?_); refine with_tabW medlarref08_Useful.tab5 medlarref08_Useful.bits5 (fun HT_ HW_ => ?_)
     generalize w15.drew = w17 at BK259 HB hHeld ⊢
     refine pu_ HT_ 0 (some 16) (bA2 1 18) ?_
     refine pu_ HT_ 1 (some 17) (bA2 2 18) ?_
     refine tk_ HT_ HW_ hHeld 2 (some 18) (bA2 3 18) rfl (by rintro w' ⟨s0, s1⟩; go_simp; with_reducible rfl) ?_
     refine one_ (i := 3) (N := some 19) (bA2 4 18) rfl rfl (one_of HT_.out (by kernel_rfl)) (by decide) (fun K hK => ?_)
     refine goes_ func141 (by kernel_rfl) rfl #[.int .u64 a1_0] (by rfl) rfl rfl (by (try simp only [map_toArray, map_cons, map_nil]); first | done | rfl | (simp only [length_drop, length_take]; rfl)) ?_
     with_reducible refine (medlarref08_depth.calls k a1_0 t261 _ A10.out).mono ?_
     rintro e w18 ⟨rfl, hb⟩
     refine ⟨_, rfl, ?_⟩
     replace BK259 := ak_ (kb_ (g := gb259) (o := .cells #[.int .u64 a1_0, .int .u64 a1_1] 39 (0, 0)) (kl_ BK259) hb)
     replace HB := ak_ (bt_ (by repeat (first | (with_reducible first | exact HB.out | apply ba_ | apply bn_ | apply bd_ | refine below_set ?_ GE259.out) | exact HB.out)) hb)
     (try clear hb)
     (try clear hb2)
     (try clear hk)
     (try clear hi)
     refine hK.out _ _ ⟨(kc_ BK259.out 0).trans rfl, (kc_ BK259.out 1).trans rfl⟩ (fun hHeld => ?_)
     clear hK K
     refine norm_ (a' := ?_) ?_ ?_
     rotate_left
     ·show Act.put _ (some 19) _ = _
      simp only [Act.put, setIfInBounds_toArray, set_cons_zero, set_cons_succ, i64_w, i32_w]
      rfl
     refine one_ (i := 4) (N := some 20) (bA2 5 18) rfl rfl (one_of HT_.out (by kernel_rfl)) (by decide) (fun K hK => ?_)
     refine goes_ func140 (by kernel_rfl) rfl #[.int .i64 a0, .int .i64 t261] (by rfl) rfl rfl (by (try simp only [map_toArray, map_cons, map_nil]); first | done | rfl | (simp only [length_drop, length_take]; rfl)) ?_
     with_reducible refine (medlarref08_special.calls k a0 t261 true _ A11.out).mono ?_
     rintro e w' ⟨rfl, ⟨nd, rfl⟩⟩
     refine ⟨_, rfl, ?_⟩
     refine hK.out _ _ ⟨(kc_ BK259.out 0).trans rfl, (kc_ BK259.out 1).trans rfl⟩ (fun hHeld => ?_)
     clear hK K
     refine norm_ (a' := ?_) ?_ ?_
     rotate_left
     ·show Act.put _ (some 20) _ = _
      simp only [Act.put, setIfInBounds_toArray, set_cons_zero, set_cons_succ, i64_w, i32_w]
      rfl
     refine pu_ HT_ 5 (some 21) (bA2 6 18) ?_
     refine pure_ (i := 6) (N := some 22) (v := undef) (a' := ?_) (bA2 7 18) rfl rfl (any_of HT_.out (by kernel_rfl)) (fun _ _ _ h => h) (Or.inr ⟨by rfl, rfl⟩) ?_ ?_
     rotate_left
     ·simp only [Act.put, setIfInBounds_toArray, set_cons_zero, set_cons_succ, i64_w, i32_w]
      rfl
     refine pure_ (i := 7) (N := some 23) (v := undef) (a' := ?_) (bA2 8 18) rfl rfl (any_of HT_.out (by kernel_rfl)) (fun _ _ _ h => h) (Or.inr ⟨by rfl, rfl⟩) ?_ ?_
     rotate_left
     ·simp only [Act.put, setIfInBounds_toArray, set_cons_zero, set_cons_succ, i64_w, i32_w]
      rfl
     refine pure_ (i := 8) (N := some 24) (v := undef) (a' := ?_) (bA2 9 18) rfl rfl (any_of HT_.out (by kernel_rfl)) (fun _ _ _ h => h) (Or.inr ⟨by rfl, rfl⟩) ?_ ?_
     rotate_left
     ·simp only [Act.put, setIfInBounds_toArray, set_cons_zero, set_cons_succ, i64_w, i32_w]
      rfl
     refine pure_ (i := 9) (N := some 25) (v := undef) (a' := ?_) (bA2 10 18) rfl rfl (any_of HT_.out (by kernel_rfl)) (fun _ _ _ h => h) (Or.inr ⟨by rfl, rfl⟩) ?_ ?_
     rotate_left
     ·simp only [Act.put, setIfInBounds_toArray, set_cons_zero, set_cons_succ, i64_w, i32_w]
      rfl
     refine pure_ (i := 10) (N := some 26) (v := undef) (a' := ?_) (bA2 11 18) rfl rfl (any_of HT_.out (by kernel_rfl)) (fun _ _ _ h => h) (Or.inr ⟨by rfl, rfl⟩) ?_ ?_
     rotate_left
     ·simp only [Act.put, setIfInBounds_toArray, set_cons_zero, set_cons_succ, i64_w, i32_w]
      rfl
     refine pure_ (i := 11) (N := some 27) (v := undef) (a' := ?_) (bA2 12 18) rfl rfl (any_of HT_.out (by kernel_rfl)) (fun _ _ _ h => h) (Or.inr ⟨by rfl, rfl⟩) ?_ ?_
     rotate_left
     ·simp only [Act.put, setIfInBounds_toArray, set_cons_zero, set_cons_succ, i64_w, i32_w]
      rfl
     refine pure_ (i := 12) (N := some 28) (v := undef) (a' := ?_) (bA2 13 18) rfl rfl (any_of HT_.out (by kernel_rfl)) (fun _ _ _ h => h) (Or.inr ⟨by rfl, rfl⟩) ?_ ?_
     rotate_left
     ·simp only [Act.put, setIfInBounds_toArray, set_cons_zero, set_cons_succ, i64_w, i32_w]
      rfl
     refine pure_ (i := 13) (N := some 29) (v := undef) (a' := ?_) (bA2 14 18) rfl rfl (any_of HT_.out (by kernel_rfl)) (fun _ _ _ h => h) (Or.inr ⟨by rfl, rfl⟩) ?_ ?_
     rotate_left
     ·simp only [Act.put, setIfInBounds_toArray, set_cons_zero, set_cons_succ, i64_w, i32_w]
      rfl
     refine pure_ (i := 14) (N := some 30) (v := undef) (a' := ?_) (bA2 15 18) rfl rfl (any_of HT_.out (by kernel_rfl)) (fun _ _ _ h => h) (Or.inr ⟨by rfl, rfl⟩) ?_ ?_
     rotate_left
     ·simp only [Act.put, setIfInBounds_toArray, set_cons_zero, set_cons_succ, i64_w, i32_w]
      rfl
     refine pu_ HT_ 15 (some 31) (bA2 16 18) ?_
     refine pu_ HT_ 16 (some 4) (bA2 17 18) ?_
     refine pu_ HT_ 17 (some 5) (bA2 18 18) ?_
     refine done_ (done_of HT_.out (by kernel_rfl)) ?_
     try go_wp2
     go_ret2
     exact ea_ (by repeat (first | (with_reducible first | exact HB.out | apply ba_ | apply bn_ | apply bd_ | refine below_set ?_ GE259.out) | exact HB.out))
    ·replace c12 := Bool.eq_false_iff.mpr c12
     subst c12
     have H1 : ((medlarref08_depth.f k a1_0).bind fun t263 => ((medlarref08_next.f k a0 t263).bind fun t264 => ((medlarref08_depth.f k a1_1).bind fun t265 => (some (decide (t264 ≥ t265), 0))))) = some (r1, r2) := by rw [if_neg (show ¬ (false = true) by decide)] at H; exact H
     clear H
     have H := H1
     clear H1
     replace H := bind_eq_some_iff.mp H
     obtain ⟨t263, A190, H⟩ := H
     replace H : ((medlarref08_next.f k a0 t263).bind fun t264 => ((medlarref08_depth.f k a1_1).bind fun t265 => (some (decide (t264 ≥ t265), 0)))) = some (r1, r2) := H
     have A19 := ak_ A190
     clear A190
     replace H := bind_eq_some_iff.mp H
     obtain ⟨t264, A200, H⟩ := H
     replace H : ((medlarref08_depth.f k a1_1).bind fun t265 => (some (decide (t264 ≥ t265), 0))) = some (r1, r2) := H
     have A20 := ak_ A200
     clear A200
     replace H := bind_eq_some_iff.mp H
     obtain ⟨t265, A210, H⟩ := H
     replace H : (some (decide (t264 ≥ t265), 0)) = some (r1, r2) := H
     have A21 := ak_ A210
     clear A210
     simp only [some.injEq, Prod.mk.injEq] at H
     obtain ⟨rfl, rfl⟩ := H
     go_enter func106, ntmps106
     try go_wp2_with (first | ((with_reducible refine gate_dst (N := 3) rfl ?_); refine bx_ 3 #[.int .u64 a1_0, .int .u64 a1_1] 39 ?_; intro gb259 hg w22 hbox hb; have BK259 := ak_ hbox; have GW259 := ak_ (gs_ hg HB); have GE259 := ak_ (gs_ hg HB); replace HB := ak_ (bt_ (bl_ HB) hb); clear hb hbox hg; have hcz23_0 := kq_ BK259.out 0 rfl; have hcz23_1 := kq_ BK259.out 1 rfl; have hfz23_0 := kf_ BK259.out 0; have hfz23_1 := kf_ BK259.out 1) | ((with_reducible refine gate_callee (f := 105) rfl ?_); refine gl_ (some 8) func105 #[.int .i64 a0, .agg #[.int .u64 a1_0, .int .u64 a1_1]] ?_; (with_reducible refine (medlarref08_Check.calls k a0 a1_0 a1_1 t260 _ A3.out).mono ?_); rintro e w24 ⟨rfl, hb⟩; refine ⟨_, rfl, ?_⟩; replace BK259 := ak_ (kb_ (g := gb259) (o := .cells #[.int .u64 a1_0, .int .u64 a1_1] 39 (0, 0)) (kl_ BK259) hb); replace HB := ak_ (bt_ (by repeat (first | (with_reducible first | exact HB.out | apply ba_ | apply bn_ | apply bd_ | refine below_set ?_ GE259.out) | exact HB.out)) hb); (try clear hb); (try clear hk); have hcz25_0 := kq_ BK259.out 0 rfl; have hcz25_1 := kq_ BK259.out 1 rfl; have hfz25_0 := kf_ BK259.out 0; have hfz25_1 := kf_ BK259.out 1))
     replace BK259 := ak_ (kd_ BK259.out)
     replace HB := ak_ (bd_ HB.out)
     refine start_ (n := 18) (S := fun w' => w'.cell? ⟨gb259, 0, none⟩ = some (.int .u64 a1_0) ∧ w'.cell? ⟨gb259, 1, none⟩ = some (.int .u64 a1_1)) (ds := []) #[false, false, false, false, false, false, false, false, false, false, false, false, false, false, false, false, false, false] (by kernel_rfl) rfl rfl ⟨(kc_ BK259.out 0).trans rfl, (kc_ BK259.out 1).trans rfl⟩ (fun hHeld => ?_); refine with_tabW medlarref08_Useful.tab5 medlarref08_Useful.bits5 (fun HT_ HW_ => ?_)
     generalize w24.drew = w26 at BK259 HB hHeld ⊢
     refine pu_ HT_ 0 (some 16) (bA2 1 18) ?_
     refine pu_ HT_ 1 (some 17) (bA2 2 18) ?_
     refine tk_ HT_ HW_ hHeld 2 (some 18) (bA2 3 18) rfl (by rintro w' ⟨s0, s1⟩; go_simp; with_reducible rfl) ?_
     refine one_ (i := 3) (N := some 19) (bA2 4 18) rfl rfl (one_of HT_.out (by kernel_rfl)) (by decide) (fun K hK => ?_)
     refine goes_ func141 (by kernel_rfl) rfl #[.int .u64 a1_0] (by rfl) rfl rfl (by (try simp only [map_toArray, map_cons, map_nil]); first | done | rfl | (simp only [length_drop, length_take]; rfl)) ?_
     with_reducible refine (medlarref08_depth.calls k a1_0 t261 _ A10.out).mono ?_
     rintro e w27 ⟨rfl, hb⟩
     refine ⟨_, rfl, ?_⟩
     replace BK259 := ak_ (kb_ (g := gb259) (o := .cells #[.int .u64 a1_0, .int .u64 a1_1] 39 (0, 0)) (kl_ BK259) hb)
     replace HB := ak_ (bt_ (by repeat (first | (with_reducible first | exact HB.out | apply ba_ | apply bn_ | apply bd_ | refine below_set ?_ GE259.out) | exact HB.out)) hb)
     (try clear hb)
     (try clear hb2)
     (try clear hk)
     (try clear hi)
     refine hK.out _ _ ⟨(kc_ BK259.out 0).trans rfl, (kc_ BK259.out 1).trans rfl⟩ (fun hHeld => ?_)
     clear hK K
     refine norm_ (a' := ?_) ?_ ?_
     rotate_left
     ·show Act.put _ (some 19) _ = _
      simp only [Act.put, setIfInBounds_toArray, set_cons_zero, set_cons_succ, i64_w, i32_w]
      rfl
     refine one_ (i := 4) (N := some 20) (bA2 5 18) rfl rfl (one_of HT_.out (by kernel_rfl)) (by decide) (fun K hK => ?_)
     refine goes_ func140 (by kernel_rfl) rfl #[.int .i64 a0, .int .i64 t261] (by rfl) rfl rfl (by (try simp only [map_toArray, map_cons, map_nil]); first | done | rfl | (simp only [length_drop, length_take]; rfl)) ?_
     with_reducible refine (medlarref08_special.calls k a0 t261 false _ A11.out).mono ?_
     rintro e w' ⟨rfl, ⟨nd, rfl⟩⟩
     refine ⟨_, rfl, ?_⟩
     refine hK.out _ _ ⟨(kc_ BK259.out 0).trans rfl, (kc_ BK259.out 1).trans rfl⟩ (fun hHeld => ?_)
     clear hK K
     refine norm_ (a' := ?_) ?_ ?_
     rotate_left
     ·show Act.put _ (some 20) _ = _
      simp only [Act.put, setIfInBounds_toArray, set_cons_zero, set_cons_succ, i64_w, i32_w]
      rfl
     refine pu_ HT_ 5 (some 21) (bA2 6 18) ?_
     refine pu_ HT_ 6 (some 22) (bA2 7 18) ?_
     refine pu_ HT_ 7 (some 23) (bA2 8 18) ?_
     refine pu_ HT_ 11 (some 27) #[true, true, true, true, true, true, true, true, false, false, false, true, false, false, false, false, false, false] ?_
     refine tk_ HT_ HW_ hHeld 8 (some 24) #[true, true, true, true, true, true, true, true, true, false, false, true, false, false, false, false, false, false] rfl (by rintro w' ⟨s0, s1⟩; go_simp; with_reducible rfl) ?_
     refine tk_ HT_ HW_ hHeld 12 (some 28) #[true, true, true, true, true, true, true, true, true, false, false, true, true, false, false, false, false, false] rfl (by rintro w' ⟨s0, s1⟩; go_simp; with_reducible rfl) ?_
     refine one_ (i := 9) (N := some 25) #[true, true, true, true, true, true, true, true, true, true, false, true, true, false, false, false, false, false] rfl rfl (one_of HT_.out (by kernel_rfl)) (by decide) (fun K hK => ?_)
     refine goes_ func141 (by kernel_rfl) rfl #[.int .u64 a1_0] (by rfl) rfl rfl (by (try simp only [map_toArray, map_cons, map_nil]); first | done | rfl | (simp only [length_drop, length_take]; rfl)) ?_
     with_reducible refine (medlarref08_depth.calls k a1_0 t263 _ A19.out).mono ?_
     rintro e w28 ⟨rfl, hb⟩
     refine ⟨_, rfl, ?_⟩
     replace BK259 := ak_ (kb_ (g := gb259) (o := .cells #[.int .u64 a1_0, .int .u64 a1_1] 39 (0, 0)) (kl_ BK259) hb)
     replace HB := ak_ (bt_ (by repeat (first | (with_reducible first | exact HB.out | apply ba_ | apply bn_ | apply bd_ | refine below_set ?_ GE259.out) | exact HB.out)) hb)
     (try clear hb)
     (try clear hb2)
     (try clear hk)
     (try clear hi)
     refine hK.out _ _ ⟨(kc_ BK259.out 0).trans rfl, (kc_ BK259.out 1).trans rfl⟩ (fun hHeld => ?_)
     clear hK K
     refine norm_ (a' := ?_) ?_ ?_
     rotate_left
     ·show Act.put _ (some 25) _ = _
      simp only [Act.put, setIfInBounds_toArray, set_cons_zero, set_cons_succ, i64_w, i32_w]
      rfl
     refine one_ (i := 10) (N := some 26) (bA2 13 18) rfl rfl (one_of HT_.out (by kernel_rfl)) (by decide) (fun K hK => ?_)
     refine goes_ func142 (by kernel_rfl) rfl #[.int .i64 a0, .int .i64 t263] (by rfl) rfl rfl (by (try simp only [map_toArray, map_cons, map_nil]); first | done | rfl | (simp only [length_drop, length_take]; rfl)) ?_
     with_reducible refine (medlarref08_next.calls k a0 t263 t264 _ A20.out).mono ?_
     rintro e w' ⟨rfl, ⟨nd, rfl⟩⟩
     refine ⟨_, rfl, ?_⟩
     refine hK.out _ _ ⟨(kc_ BK259.out 0).trans rfl, (kc_ BK259.out 1).trans rfl⟩ (fun hHeld => ?_)
     clear hK K
     refine norm_ (a' := ?_) ?_ ?_
     rotate_left
     ·show Act.put _ (some 26) _ = _
      simp only [Act.put, setIfInBounds_toArray, set_cons_zero, set_cons_succ, i64_w, i32_w]
      rfl
     refine one_ (i := 13) (N := some 29) (bA2 14 18) rfl rfl (one_of HT_.out (by kernel_rfl)) (by decide) (fun K hK => ?_)
     refine goes_ func141 (by kernel_rfl) rfl #[.int .u64 a1_1] (by rfl) rfl rfl (by (try simp only [map_toArray, map_cons, map_nil]); first | done | rfl | (simp only [length_drop, length_take]; rfl)) ?_
     with_reducible refine (medlarref08_depth.calls k a1_1 t265 _ A21.out).mono ?_
     rintro e w29 ⟨rfl, hb⟩
     refine ⟨_, rfl, ?_⟩
     replace BK259 := ak_ (kb_ (g := gb259) (o := .cells #[.int .u64 a1_0, .int .u64 a1_1] 39 (0, 0)) (kl_ BK259) hb)
     replace HB := ak_ (bt_ (by repeat (first | (with_reducible first | exact HB.out | apply ba_ | apply bn_ | apply bd_ | refine below_set ?_ GE259.out) | exact HB.out)) hb)
     (try clear hb)
     (try clear hb2)
     (try clear hk)
     (try clear hi)
     refine hK.out _ _ ⟨(kc_ BK259.out 0).trans rfl, (kc_ BK259.out 1).trans rfl⟩ (fun hHeld => ?_)
     clear hK K
     refine norm_ (a' := ?_) ?_ ?_
     rotate_left
     ·show Act.put _ (some 29) _ = _
      simp only [Act.put, setIfInBounds_toArray, set_cons_zero, set_cons_succ, i64_w, i32_w]
      rfl
     refine pu_ HT_ 14 (some 30) (bA2 15 18) ?_
     refine pu_ HT_ 15 (some 31) (bA2 16 18) ?_
     refine pu_ HT_ 16 (some 4) (bA2 17 18) ?_
     refine pu_ HT_ 17 (some 5) (bA2 18 18) ?_
     refine done_ (done_of HT_.out (by kernel_rfl)) ?_
     try go_wp2
     go_ret2
     exact ea_ (by repeat (first | (with_reducible first | exact HB.out | apply ba_ | apply bn_ | apply bd_ | refine below_set ?_ GE259.out) | exact HB.out))
  ·rw [if_neg c4] at H
   have c4b0 : (t260 == 0) = false := beq_eq_false_iff_ne.mpr c4
   have c4b1 : (t260 != 0) = true := bne_iff_ne.mpr c4
   simp only [some.injEq, Prod.mk.injEq] at H
   obtain ⟨rfl, rfl⟩ := H
   go_enter func106, ntmps106
   go_wp2_with (first | ((with_reducible refine gate_dst (N := 3) rfl ?_); refine bx_ 3 #[.int .u64 a1_0, .int .u64 a1_1] 39 ?_; intro gb259 hg w30 hbox hb; have BK259 := ak_ hbox; have GW259 := ak_ (gs_ hg HB); have GE259 := ak_ (gs_ hg HB); replace HB := ak_ (bt_ (bl_ HB) hb); clear hb hbox hg; have hcz31_0 := kq_ BK259.out 0 rfl; have hcz31_1 := kq_ BK259.out 1 rfl; have hfz31_0 := kf_ BK259.out 0; have hfz31_1 := kf_ BK259.out 1) | ((with_reducible refine gate_callee (f := 105) rfl ?_); refine gl_ (some 8) func105 #[.int .i64 a0, .agg #[.int .u64 a1_0, .int .u64 a1_1]] ?_; (with_reducible refine (medlarref08_Check.calls k a0 a1_0 a1_1 t260 _ A3.out).mono ?_); rintro e w32 ⟨rfl, hb⟩; refine ⟨_, rfl, ?_⟩; replace BK259 := ak_ (kb_ (g := gb259) (o := .cells #[.int .u64 a1_0, .int .u64 a1_1] 39 (0, 0)) (kl_ BK259) hb); replace HB := ak_ (bt_ (by repeat (first | (with_reducible first | exact HB.out | apply ba_ | apply bn_ | apply bd_ | refine below_set ?_ GE259.out) | exact HB.out)) hb); (try clear hb); (try clear hk)))
   go_ret2
   exact ea_ (by repeat (first | (with_reducible first | exact HB.out | apply ba_ | apply bn_ | apply bd_ | refine below_set ?_ GE259.out) | exact HB.out))
def medlarref01_Leaf.j0 : Nat → Int → Int → Bool → Option (Int × Int)
  | 0, _, _, _ => none
  | k + 1, x0, x1, x11 => if x11 = true then (some (0, 1)) else ((medlarref01_power.f k x0).bind fun t266 => (if x1 ≥ t266 then (some (0, 4)) else ((medlarref01_power.f k x0).bind fun t267 => (some (IntKind.u64.wrap (t267 + x1), 0)))))
def medlarref01_Leaf.f (k : Nat) (a0 : Int) (a1 : Int) : Option (Int × Int) := if a0 < 1 then (medlarref01_Leaf.j0 k a0 a1 true) else (medlarref01_Leaf.j0 k a0 a1 (decide (a0 > 32)))
theorem medlarref01_Leaf.mono_l : ∀ k, (∀ y0 y1 y2, LeO (medlarref01_Leaf.j0 k y0 y1 y2) (medlarref01_Leaf.j0 (k + 1) y0 y1 y2))
  | 0 => fun _ _ _ r h => by simp [medlarref01_Leaf.j0] at h
  | k + 1 => by
   have ih0 := medlarref01_Leaf.mono_l k
   ·intro y0 y1 y2
    unfold medlarref01_Leaf.j0
    repeat' first
    | (with_reducible exact ih0 _ _ _)
    | (with_reducible exact medlarref01_power.mono _ _)
    | (with_reducible exact LeO.refl _)
    | (with_reducible exact LeO.none _)
    | (with_reducible refine LeO.ite ?_ ?_)
    | (with_reducible refine LeO.bind ?_ (fun _ => ?_))
    | exact ih0 _ _ _
    | exact medlarref01_power.mono _ _
    | exact LeO.none _
    | refine LeO.ite ?_ ?_
    | refine LeO.bind ?_ (fun _ => ?_)
theorem medlarref01_Leaf.mono : ∀ a0 a1 k, LeO (medlarref01_Leaf.f k a0 a1) (medlarref01_Leaf.f (k + 1) a0 a1) := by
  intro a0 a1 k
  have ih0 := medlarref01_Leaf.mono_l k
  unfold medlarref01_Leaf.f
  repeat' first
    | (with_reducible exact ih0 _ _ _)
    | (with_reducible exact medlarref01_power.mono _ _)
    | (with_reducible exact LeO.refl _)
    | (with_reducible exact LeO.none _)
    | (with_reducible refine LeO.ite ?_ ?_)
    | (with_reducible refine LeO.bind ?_ (fun _ => ?_))
    | exact ih0 _ _ _
    | exact medlarref01_power.mono _ _
    | exact LeO.none _
    | refine LeO.ite ?_ ?_
    | refine LeO.bind ?_ (fun _ => ?_)
set_option maxHeartbeats 8000000 in
set_option maxRecDepth 100000 in
theorem medlarref01_Leaf.calls (k : Nat) (a0 : Int) (a1 : Int) (r1 : Int) (r2 : Int) (w : World) (h : medlarref01_Leaf.f k a0 a1 = some (r1, r2)) :
   Calls Try.prog 115 #[.int .i64 a0, .int .u64 a1] w fun e w' => e = .returned (.tuple #[.int .u64 r1, .int .i64 r2]) ∧ Drawn0 w w' := by
  have H : (if a0 < 1 then (medlarref01_Leaf.j0 k a0 a1 true) else (medlarref01_Leaf.j0 k a0 a1 (decide (a0 > 32)))) = some (r1, r2) := h
  clear h
  have HC3 := ak_ H
  clear H
  go_enter func115, ntmps115
  go_upto_region 1 with (fail)
  go_cut [11] (fun v11 wc => ∃ (kq : Nat) (x11_2 : Bool), v11 = .bool x11_2 ∧ Aside0 (medlarref01_Leaf.j0 kq a0 a1 x11_2 = some (r1, r2)) ∧ Aside0 (kq ≤ k) ∧ Drawn0 w wc)
  case first =>
   have H := HC3.out
   clear HC3
   by_cases c4 : a0 < 1
   ·rw [if_pos c4] at H
    have c4b0 := decide_eq_true c4
    clear c4
    (first | rw [c4b0] | (simp only [i64_w, i32_w]; rw [c4b0]) | skip)
    have H' := ak_ H
    clear H
    go_wp2
    go_meet
    case rel => exact ⟨_, (true), rf_, H', ⟨by first | omega | exact Nat.le_refl _⟩, by repeat (first | exact Drawn0.refl _ | apply Drawn0.step)⟩
   ·rw [if_neg c4] at H
    have c4b0 := decide_eq_false c4
    clear c4
    (first | rw [c4b0] | (simp only [i64_w, i32_w]; rw [c4b0]) | skip)
    have H' := ak_ H
    clear H
    go_wp2
    go_meet
    case rel => exact ⟨_, (decide (a0 > 32)), rf_, H', ⟨by first | omega | exact Nat.le_refl _⟩, by repeat (first | exact Drawn0.refl _ | apply Drawn0.step)⟩
  case rest =>
   clear HC3
   try clear c1
   try clear p2
   try clear c4
   try clear c4b0
   obtain ⟨kq, x11_2, rfl, HA, HJ2, ⟨mc2, rfl⟩⟩ := hcut
   cases kq with
   | zero => exact absurd HA.out (by simp [medlarref01_Leaf.j0])
   | succ kj2 =>
    have H := HA.out
    clear HA
    simp only [medlarref01_Leaf.j0] at H
    by_cases c5 : x11_2 = true
    ·subst c5
     have H1 : (some (0, 1)) = some (r1, r2) := by rw [if_pos rfl] at H; exact H
     clear H
     have H := H1
     clear H1
     simp only [some.injEq, Prod.mk.injEq] at H
     obtain ⟨rfl, rfl⟩ := H
     go_wp2
     go_ret2
     exact ⟨by first | rfl | (simp; done) | (simp [*]; done), by repeat (first | exact Drawn0.refl _ | apply Drawn0.step)⟩
    ·replace c5 := Bool.eq_false_iff.mpr c5
     subst c5
     have H1 : ((medlarref01_power.f kj2 a0).bind fun t266 => (if a1 ≥ t266 then (some (0, 4)) else ((medlarref01_power.f kj2 a0).bind fun t267 => (some (IntKind.u64.wrap (t267 + a1), 0))))) = some (r1, r2) := by rw [if_neg (show ¬ (false = true) by decide)] at H; exact H
     clear H
     have H := H1
     clear H1
     replace H := bind_eq_some_iff.mp H
     obtain ⟨t266, A60, H⟩ := H
     replace H : (if a1 ≥ t266 then (some (0, 4)) else ((medlarref01_power.f kj2 a0).bind fun t267 => (some (IntKind.u64.wrap (t267 + a1), 0)))) = some (r1, r2) := H
     have A6 := ak_ A60
     clear A60
     by_cases c7 : a1 ≥ t266
     ·rw [if_pos c7] at H
      have c7b0 : decide (t266 ≤ a1) = true := decide_eq_true c7
      clear c7
      simp only [some.injEq, Prod.mk.injEq] at H
      obtain ⟨rfl, rfl⟩ := H
      go_wp2_with (first | ((with_reducible refine gate_callee (f := 103) rfl ?_); refine gl_ (some 14) func103 #[.int .i64 a0] ?_; (with_reducible refine (medlarref01_power.calls kj2 a0 t266 _ A6.out).mono ?_); rintro e w' ⟨rfl, ⟨nd, rfl⟩⟩; refine ⟨_, rfl, ?_⟩))
      go_ret2
      exact ⟨by first | rfl | (simp; done) | (simp [*]; done), by repeat (first | exact Drawn0.refl _ | apply Drawn0.step)⟩
     ·rw [if_neg c7] at H
      have c7b0 : decide (t266 ≤ a1) = false := decide_eq_false c7
      clear c7
      replace H := bind_eq_some_iff.mp H
      obtain ⟨t267, A80, H⟩ := H
      replace H : (some (IntKind.u64.wrap (t267 + a1), 0)) = some (r1, r2) := H
      have A8 := ak_ A80
      clear A80
      simp only [some.injEq, Prod.mk.injEq] at H
      obtain ⟨rfl, rfl⟩ := H
      go_wp2_with (first | ((with_reducible refine gate_callee (f := 103) rfl ?_); refine gl_ (some 14) func103 #[.int .i64 a0] ?_; (with_reducible refine (medlarref01_power.calls kj2 a0 t266 _ A6.out).mono ?_); rintro e w' ⟨rfl, ⟨nd, rfl⟩⟩; refine ⟨_, rfl, ?_⟩) | ((with_reducible refine gate_callee (f := 103) rfl ?_); refine gl_ (some 17) func103 #[.int .i64 a0] ?_; (with_reducible refine (medlarref01_power.calls kj2 a0 t267 _ A8.out).mono ?_); rintro e w' ⟨rfl, ⟨nd, rfl⟩⟩; refine ⟨_, rfl, ?_⟩))
      go_ret2
      exact ⟨by first | rfl | (simp; done) | (simp [*]; done), by repeat (first | exact Drawn0.refl _ | apply Drawn0.step)⟩
def medlarref01_Other.f (k : Nat) (a0 : Int) (a1 : Int) : Option (Int × Int) := (medlarref01_May.f k a0 a1).bind fun t268 => (if t268 = true then (if a1 = 1 then (some (0, 4)) else (if (Int.tmod a1 2) = 0 then (some (IntKind.u64.wrap (a1 + 1), 0)) else (some (IntKind.u64.wrap (a1 - 1), 0)))) else (some (0, 1)))
theorem medlarref01_Other.mono : ∀ a0 a1 k, LeO (medlarref01_Other.f k a0 a1) (medlarref01_Other.f (k + 1) a0 a1) := by
  intro a0 a1 k
  unfold medlarref01_Other.f
  repeat' first
    | (with_reducible exact medlarref01_May.mono _ _ _)
    | (with_reducible exact LeO.refl _)
    | (with_reducible exact LeO.none _)
    | (with_reducible refine LeO.ite ?_ ?_)
    | (with_reducible refine LeO.bind ?_ (fun _ => ?_))
    | exact medlarref01_May.mono _ _ _
    | exact LeO.none _
    | refine LeO.ite ?_ ?_
    | refine LeO.bind ?_ (fun _ => ?_)
set_option maxHeartbeats 8000000 in
set_option maxRecDepth 100000 in
theorem medlarref01_Other.calls (k : Nat) (a0 : Int) (a1 : Int) (r1 : Int) (r2 : Int) (w : World) (h : medlarref01_Other.f k a0 a1 = some (r1, r2)) :
   Calls Try.prog 117 #[.int .i64 a0, .int .u64 a1] w fun e w' => e = .returned (.tuple #[.int .u64 r1, .int .i64 r2]) ∧ Drawn0 w w' := by
  have H : ((medlarref01_May.f k a0 a1).bind fun t268 => (if t268 = true then (if a1 = 1 then (some (0, 4)) else (if (Int.tmod a1 2) = 0 then (some (IntKind.u64.wrap (a1 + 1), 0)) else (some (IntKind.u64.wrap (a1 - 1), 0)))) else (some (0, 1)))) = some (r1, r2) := h
  clear h
  replace H := bind_eq_some_iff.mp H
  obtain ⟨t268, A30, H⟩ := H
  replace H : (if t268 = true then (if a1 = 1 then (some (0, 4)) else (if (Int.tmod a1 2) = 0 then (some (IntKind.u64.wrap (a1 + 1), 0)) else (some (IntKind.u64.wrap (a1 - 1), 0)))) else (some (0, 1))) = some (r1, r2) := H
  have A3 := ak_ A30
  clear A30
  by_cases c4 : t268 = true
  ·subst c4
   have H1 : (if a1 = 1 then (some (0, 4)) else (if (Int.tmod a1 2) = 0 then (some (IntKind.u64.wrap (a1 + 1), 0)) else (some (IntKind.u64.wrap (a1 - 1), 0)))) = some (r1, r2) := by rw [if_pos rfl] at H; exact H
   clear H
   have H := H1
   clear H1
   by_cases c5 : a1 = 1
   ·rw [if_pos c5] at H
    have c5b0 : (a1 == 1) = true := beq_iff_eq.mpr c5
    have c5b1 : (a1 != 1) = false := bne_eq_false_iff_eq.mpr c5
    clear c5
    simp only [some.injEq, Prod.mk.injEq] at H
    obtain ⟨rfl, rfl⟩ := H
    go_enter func117, ntmps117
    go_wp2_with (first | ((with_reducible refine gate_callee (f := 60) rfl ?_); refine gl_ (some 8) func60 #[.int .i64 a0, .int .u64 a1] ?_; (with_reducible refine (medlarref01_May.calls k a0 a1 true _ A3.out).mono ?_); rintro e w' ⟨rfl, ⟨nd, rfl⟩⟩; refine ⟨_, rfl, ?_⟩))
    go_ret2
    exact ⟨by first | rfl | (simp; done) | (simp [*]; done), by repeat (first | exact Drawn0.refl _ | apply Drawn0.step)⟩
   ·rw [if_neg c5] at H
    have c5b0 : (a1 == 1) = false := beq_eq_false_iff_ne.mpr c5
    have c5b1 : (a1 != 1) = true := bne_iff_ne.mpr c5
    by_cases c6 : (Int.tmod a1 2) = 0
    ·rw [if_pos c6] at H
     have c6b0 : ((Int.tmod a1 2) == 0) = true := beq_iff_eq.mpr c6
     have c6b1 : ((Int.tmod a1 2) != 0) = false := bne_eq_false_iff_eq.mpr c6
     clear c6
     simp only [some.injEq, Prod.mk.injEq] at H
     obtain ⟨rfl, rfl⟩ := H
     go_enter func117, ntmps117
     go_wp2_with (first | ((with_reducible refine gate_callee (f := 60) rfl ?_); refine gl_ (some 8) func60 #[.int .i64 a0, .int .u64 a1] ?_; (with_reducible refine (medlarref01_May.calls k a0 a1 true _ A3.out).mono ?_); rintro e w' ⟨rfl, ⟨nd, rfl⟩⟩; refine ⟨_, rfl, ?_⟩))
     go_ret2
     exact ⟨by first | rfl | (simp; done) | (simp [*]; done), by repeat (first | exact Drawn0.refl _ | apply Drawn0.step)⟩
    ·rw [if_neg c6] at H
     have c6b0 : ((Int.tmod a1 2) == 0) = false := beq_eq_false_iff_ne.mpr c6
     have c6b1 : ((Int.tmod a1 2) != 0) = true := bne_iff_ne.mpr c6
     simp only [some.injEq, Prod.mk.injEq] at H
     obtain ⟨rfl, rfl⟩ := H
     go_enter func117, ntmps117
     go_wp2_with (first | ((with_reducible refine gate_callee (f := 60) rfl ?_); refine gl_ (some 8) func60 #[.int .i64 a0, .int .u64 a1] ?_; (with_reducible refine (medlarref01_May.calls k a0 a1 true _ A3.out).mono ?_); rintro e w' ⟨rfl, ⟨nd, rfl⟩⟩; refine ⟨_, rfl, ?_⟩))
     go_ret2
     exact ⟨by first | rfl | (simp; done) | (simp [*]; done), by repeat (first | exact Drawn0.refl _ | apply Drawn0.step)⟩
  ·replace c4 := Bool.eq_false_iff.mpr c4
   subst c4
   have H1 : (some (0, 1)) = some (r1, r2) := by rw [if_neg (show ¬ (false = true) by decide)] at H; exact H
   clear H
   have H := H1
   clear H1
   simp only [some.injEq, Prod.mk.injEq] at H
   obtain ⟨rfl, rfl⟩ := H
   go_enter func117, ntmps117
   go_wp2_with (first | ((with_reducible refine gate_callee (f := 60) rfl ?_); refine gl_ (some 8) func60 #[.int .i64 a0, .int .u64 a1] ?_; (with_reducible refine (medlarref01_May.calls k a0 a1 false _ A3.out).mono ?_); rintro e w' ⟨rfl, ⟨nd, rfl⟩⟩; refine ⟨_, rfl, ?_⟩))
   go_ret2
   exact ⟨by first | rfl | (simp; done) | (simp [*]; done), by repeat (first | exact Drawn0.refl _ | apply Drawn0.step)⟩
mutual
def medlarref14_Pairs.j0 : Nat → Int → Int → Int → Bool → Option ((List (S39)) × Int)
  | 0, _, _, _, _ => none
  | k + 1, x0, x1, x8, x38 => if x38 = true then (some (([] : List (S39)), 1)) else ((medlarref01_Chain.f k x8).bind fun t271 => (if x1 = 1 then (medlarref14_Pairs.l0 k ([] : List (S39)) t271 (t271.length : Int) 0) else (if ([] : List (S39)).length < 8796093022208 then (medlarref14_Pairs.l1 k x0 x1 t271 (([] : List (S39)) ++ [(⟨1, 0⟩ : S39)]) t271 (t271.length : Int) 0) else (none))))
def medlarref14_Pairs.l0 : Nat → List (S39) → List Int → Int → Int → Option ((List (S39)) × Int)
  | 0, _, _, _, _ => none
  | k + 1, x11, x43, x44, x45 => if x45 < x44 then (if 0 ≤ x45 then (if x45 < (x43.length : Int) then (if x11.length < 8796093022208 then (medlarref14_Pairs.l0 k (x11 ++ [(⟨rd x43 x45, 0⟩ : S39)]) x43 x44 (wrap64 (x45 + 1))) else (none)) else (none)) else (none)) else (some (x11, 0))
def medlarref14_Pairs.l1 : Nat → Int → Int → List Int → List (S39) → List Int → Int → Int → Option ((List (S39)) × Int)
  | 0, _, _, _, _, _, _, _ => none
  | k + 1, x0, x1, x10, x11, x60, x61, x62 => if x62 < x61 then (if 0 ≤ x62 then (if x62 < (x60.length : Int) then (if 0 ≤ (wrap64 (x62 + 1)) then (if (wrap64 (x62 + 1)) ≤ (x10.length : Int) then ((some (x10.drop ((wrap64 (x62 + 1)) : Int).toNat : List Int)).bind fun y282 => (medlarref14_Pairs.l2 k x0 x1 x10 x11 (rd x60 x62) x60 x61 x62 y282 (y282.length : Int) 0)) else (none)) else (none)) else (none)) else (none)) else (some (x11, 0))
def medlarref14_Pairs.l2 : Nat → Int → Int → List Int → List (S39) → Int → List Int → Int → Int → List Int → Int → Int → Option ((List (S39)) × Int)
  | 0, _, _, _, _, _, _, _, _, _, _, _ => none
  | k + 1, x0, x1, x10, x11, x15, x60, x61, x62, x70, x71, x72 => if x72 < x71 then (if 0 ≤ x72 then (if x72 < (x70.length : Int) then ((medlarref01_Other.f k x0 (rd x70 x72)).bind fun bt287 => ((medlarref08_Useful.f k x0 x15 bt287.1).bind fun bt290 => (if x1 = 2 then (if x11.length < 8796093022208 then (medlarref14_Pairs.l2 k x0 x1 x10 (x11 ++ [(⟨x15, bt287.1⟩ : S39)]) x15 x60 x61 x62 x70 x71 (wrap64 (x72 + 1))) else (none)) else (if bt290.1 = true then (if x11.length < 8796093022208 then (medlarref14_Pairs.l2 k x0 x1 x10 (x11 ++ [(⟨x15, bt287.1⟩ : S39)]) x15 x60 x61 x62 x70 x71 (wrap64 (x72 + 1))) else (none)) else (medlarref14_Pairs.l2 k x0 x1 x10 x11 x15 x60 x61 x62 x70 x71 (wrap64 (x72 + 1))))))) else (none)) else (none)) else (medlarref14_Pairs.l1 k x0 x1 x10 x11 x60 x61 (wrap64 (x62 + 1)))
end
def medlarref14_Pairs.f (k : Nat) (a0 : Int) (a1 : Int) (a2 : Int) : Option ((List (S39)) × Int) := (medlarref01_Leaf.f k a0 a2).bind fun bt269 => (if bt269.2 = 0 then (if a1 < 1 then (medlarref14_Pairs.j0 k a0 a1 bt269.1 true) else (medlarref14_Pairs.j0 k a0 a1 bt269.1 (decide (a1 > 3)))) else (medlarref14_Pairs.j0 k a0 a1 bt269.1 true))
theorem medlarref14_Pairs.mono_l : ∀ k, (∀ y0 y1 y2 y3, LeO (medlarref14_Pairs.j0 k y0 y1 y2 y3) (medlarref14_Pairs.j0 (k + 1) y0 y1 y2 y3)) ∧ (∀ y0 y1 y2 y3, LeO (medlarref14_Pairs.l0 k y0 y1 y2 y3) (medlarref14_Pairs.l0 (k + 1) y0 y1 y2 y3)) ∧ (∀ y0 y1 y2 y3 y4 y5 y6, LeO (medlarref14_Pairs.l1 k y0 y1 y2 y3 y4 y5 y6) (medlarref14_Pairs.l1 (k + 1) y0 y1 y2 y3 y4 y5 y6)) ∧ (∀ y0 y1 y2 y3 y4 y5 y6 y7 y8 y9 y10, LeO (medlarref14_Pairs.l2 k y0 y1 y2 y3 y4 y5 y6 y7 y8 y9 y10) (medlarref14_Pairs.l2 (k + 1) y0 y1 y2 y3 y4 y5 y6 y7 y8 y9 y10))
  | 0 => ⟨fun _ _ _ _ r h => by simp [medlarref14_Pairs.j0] at h, fun _ _ _ _ r h => by simp [medlarref14_Pairs.l0] at h, fun _ _ _ _ _ _ _ r h => by simp [medlarref14_Pairs.l1] at h, fun _ _ _ _ _ _ _ _ _ _ _ r h => by simp [medlarref14_Pairs.l2] at h⟩
  | k + 1 => by
   obtain ⟨ih0, ih1, ih2, ih3⟩ := medlarref14_Pairs.mono_l k
   refine ⟨?_, ?_, ?_, ?_⟩
   ·intro y0 y1 y2 y3
    unfold medlarref14_Pairs.j0
    repeat' first
    | (with_reducible exact ih0 _ _ _ _)
    | (with_reducible exact ih1 _ _ _ _)
    | (with_reducible exact ih2 _ _ _ _ _ _ _)
    | (with_reducible exact ih3 _ _ _ _ _ _ _ _ _ _ _)
    | (with_reducible exact medlarref01_Chain.mono _ _)
    | (with_reducible exact medlarref01_Leaf.mono _ _ _)
    | (with_reducible exact medlarref01_Other.mono _ _ _)
    | (with_reducible exact medlarref08_Useful.mono _ _ _ _)
    | (with_reducible exact LeO.refl _)
    | (with_reducible exact LeO.none _)
    | (with_reducible refine LeO.ite ?_ ?_)
    | (with_reducible refine LeO.bind ?_ (fun _ => ?_))
    | exact ih0 _ _ _ _
    | exact ih1 _ _ _ _
    | exact ih2 _ _ _ _ _ _ _
    | exact ih3 _ _ _ _ _ _ _ _ _ _ _
    | exact medlarref01_Chain.mono _ _
    | exact medlarref01_Leaf.mono _ _ _
    | exact medlarref01_Other.mono _ _ _
    | exact medlarref08_Useful.mono _ _ _ _
    | exact LeO.none _
    | refine LeO.ite ?_ ?_
    | refine LeO.bind ?_ (fun _ => ?_)
   ·intro y0 y1 y2 y3
    unfold medlarref14_Pairs.l0
    repeat' first
    | (with_reducible exact ih0 _ _ _ _)
    | (with_reducible exact ih1 _ _ _ _)
    | (with_reducible exact ih2 _ _ _ _ _ _ _)
    | (with_reducible exact ih3 _ _ _ _ _ _ _ _ _ _ _)
    | (with_reducible exact medlarref01_Chain.mono _ _)
    | (with_reducible exact medlarref01_Leaf.mono _ _ _)
    | (with_reducible exact medlarref01_Other.mono _ _ _)
    | (with_reducible exact medlarref08_Useful.mono _ _ _ _)
    | (with_reducible exact LeO.refl _)
    | (with_reducible exact LeO.none _)
    | (with_reducible refine LeO.ite ?_ ?_)
    | (with_reducible refine LeO.bind ?_ (fun _ => ?_))
    | exact ih0 _ _ _ _
    | exact ih1 _ _ _ _
    | exact ih2 _ _ _ _ _ _ _
    | exact ih3 _ _ _ _ _ _ _ _ _ _ _
    | exact medlarref01_Chain.mono _ _
    | exact medlarref01_Leaf.mono _ _ _
    | exact medlarref01_Other.mono _ _ _
    | exact medlarref08_Useful.mono _ _ _ _
    | exact LeO.none _
    | refine LeO.ite ?_ ?_
    | refine LeO.bind ?_ (fun _ => ?_)
   ·intro y0 y1 y2 y3 y4 y5 y6
    unfold medlarref14_Pairs.l1
    repeat' first
    | (with_reducible exact ih0 _ _ _ _)
    | (with_reducible exact ih1 _ _ _ _)
    | (with_reducible exact ih2 _ _ _ _ _ _ _)
    | (with_reducible exact ih3 _ _ _ _ _ _ _ _ _ _ _)
    | (with_reducible exact medlarref01_Chain.mono _ _)
    | (with_reducible exact medlarref01_Leaf.mono _ _ _)
    | (with_reducible exact medlarref01_Other.mono _ _ _)
    | (with_reducible exact medlarref08_Useful.mono _ _ _ _)
    | (with_reducible exact LeO.refl _)
    | (with_reducible exact LeO.none _)
    | (with_reducible refine LeO.ite ?_ ?_)
    | (with_reducible refine LeO.bind ?_ (fun _ => ?_))
    | exact ih0 _ _ _ _
    | exact ih1 _ _ _ _
    | exact ih2 _ _ _ _ _ _ _
    | exact ih3 _ _ _ _ _ _ _ _ _ _ _
    | exact medlarref01_Chain.mono _ _
    | exact medlarref01_Leaf.mono _ _ _
    | exact medlarref01_Other.mono _ _ _
    | exact medlarref08_Useful.mono _ _ _ _
    | exact LeO.none _
    | refine LeO.ite ?_ ?_
    | refine LeO.bind ?_ (fun _ => ?_)
   ·intro y0 y1 y2 y3 y4 y5 y6 y7 y8 y9 y10
    unfold medlarref14_Pairs.l2
    repeat' first
    | (with_reducible exact ih0 _ _ _ _)
    | (with_reducible exact ih1 _ _ _ _)
    | (with_reducible exact ih2 _ _ _ _ _ _ _)
    | (with_reducible exact ih3 _ _ _ _ _ _ _ _ _ _ _)
    | (with_reducible exact medlarref01_Chain.mono _ _)
    | (with_reducible exact medlarref01_Leaf.mono _ _ _)
    | (with_reducible exact medlarref01_Other.mono _ _ _)
    | (with_reducible exact medlarref08_Useful.mono _ _ _ _)
    | (with_reducible exact LeO.refl _)
    | (with_reducible exact LeO.none _)
    | (with_reducible refine LeO.ite ?_ ?_)
    | (with_reducible refine LeO.bind ?_ (fun _ => ?_))
    | exact ih0 _ _ _ _
    | exact ih1 _ _ _ _
    | exact ih2 _ _ _ _ _ _ _
    | exact ih3 _ _ _ _ _ _ _ _ _ _ _
    | exact medlarref01_Chain.mono _ _
    | exact medlarref01_Leaf.mono _ _ _
    | exact medlarref01_Other.mono _ _ _
    | exact medlarref08_Useful.mono _ _ _ _
    | exact LeO.none _
    | refine LeO.ite ?_ ?_
    | refine LeO.bind ?_ (fun _ => ?_)
theorem medlarref14_Pairs.mono : ∀ a0 a1 a2 k, LeO (medlarref14_Pairs.f k a0 a1 a2) (medlarref14_Pairs.f (k + 1) a0 a1 a2) := by
  intro a0 a1 a2 k
  obtain ⟨ih0, ih1, ih2, ih3⟩ := medlarref14_Pairs.mono_l k
  unfold medlarref14_Pairs.f
  repeat' first
    | (with_reducible exact ih0 _ _ _ _)
    | (with_reducible exact ih1 _ _ _ _)
    | (with_reducible exact ih2 _ _ _ _ _ _ _)
    | (with_reducible exact ih3 _ _ _ _ _ _ _ _ _ _ _)
    | (with_reducible exact medlarref01_Chain.mono _ _)
    | (with_reducible exact medlarref01_Leaf.mono _ _ _)
    | (with_reducible exact medlarref01_Other.mono _ _ _)
    | (with_reducible exact medlarref08_Useful.mono _ _ _ _)
    | (with_reducible exact LeO.refl _)
    | (with_reducible exact LeO.none _)
    | (with_reducible refine LeO.ite ?_ ?_)
    | (with_reducible refine LeO.bind ?_ (fun _ => ?_))
    | exact ih0 _ _ _ _
    | exact ih1 _ _ _ _
    | exact ih2 _ _ _ _ _ _ _
    | exact ih3 _ _ _ _ _ _ _ _ _ _ _
    | exact medlarref01_Chain.mono _ _
    | exact medlarref01_Leaf.mono _ _ _
    | exact medlarref01_Other.mono _ _ _
    | exact medlarref08_Useful.mono _ _ _ _
    | exact LeO.none _
    | refine LeO.ite ?_ ?_
    | refine LeO.bind ?_ (fun _ => ?_)
set_option maxHeartbeats 8000000 in
set_option maxRecDepth 100000 in
theorem medlarref14_Pairs.calls (k : Nat) (a0 : Int) (a1 : Int) (a2 : Int) (r1 : List (S39)) (r2 : Int) (w : World) (h : medlarref14_Pairs.f k a0 a1 a2 = some (r1, r2)) :
   Calls Try.prog 80 #[.int .i64 a0, .int .i64 a1, .int .u64 a2] w fun e w' => ∃ v0_ : Value, e = .returned (.tuple #[v0_, .int .i64 r2]) ∧ Kd.R k39 39 w' w.heap.size (fun _ => True) v0_ r1 ∧ Below w.heap.size w w' := by
  have hu39 := underlying39
  have HB := ak_ (Below.refl w.heap.size w)
  have H : ((medlarref01_Leaf.f k a0 a2).bind fun bt269 => (if bt269.2 = 0 then (if a1 < 1 then (medlarref14_Pairs.j0 k a0 a1 bt269.1 true) else (medlarref14_Pairs.j0 k a0 a1 bt269.1 (decide (a1 > 3)))) else (medlarref14_Pairs.j0 k a0 a1 bt269.1 true))) = some (r1, r2) := h
  clear h
  replace H := bind_eq_some_iff.mp H
  obtain ⟨⟨t269, t270⟩, A40, H⟩ := H
  replace H : (if t270 = 0 then (if a1 < 1 then (medlarref14_Pairs.j0 k a0 a1 t269 true) else (medlarref14_Pairs.j0 k a0 a1 t269 (decide (a1 > 3)))) else (medlarref14_Pairs.j0 k a0 a1 t269 true)) = some (r1, r2) := H
  have A4 := ak_ A40
  clear A40
  have HC5 := ak_ H
  clear H
  go_enter func80, ntmps80
  go_upto_region 2 with (first | ((with_reducible refine gate_callee (f := 115) rfl ?_); refine gl_ (some 26) func115 #[.int .i64 a0, .int .u64 a2] ?_; (with_reducible refine (medlarref01_Leaf.calls k a0 a2 t269 t270 _ A4.out).mono ?_); rintro e w' ⟨rfl, ⟨nd, rfl⟩⟩; refine ⟨_, rfl, ?_⟩))
  (try simp only [Act.put, setIfInBounds_toArray, set_cons_zero, set_cons_succ])
  go_cut [38] (fun v38 wc => ∃ (kq : Nat) (x38_4 : Bool), v38 = .bool x38_4 ∧ Aside0 (medlarref14_Pairs.j0 kq a0 a1 t269 x38_4 = some (r1, r2)) ∧ Aside0 (kq ≤ k) ∧ Aside0 (Below w.heap.size w wc))
  case first =>
   have H := HC5.out
   clear HC5
   by_cases c6 : t270 = 0
   ·rw [if_pos c6] at H
    have c6b0 : (t270 == 0) = true := beq_iff_eq.mpr c6
    have c6b1 : (t270 != 0) = false := bne_eq_false_iff_eq.mpr c6
    clear c6
    (first | rw [c6b0] | (simp only [i64_w, i32_w]; rw [c6b0]) | skip)
    by_cases c7 : a1 < 1
    ·rw [if_pos c7] at H
     have c7b0 := decide_eq_true c7
     clear c7
     have H' := ak_ H
     clear H
     go_wp2
     go_meet
     case rel => exact ⟨_, (true), rf_, H', ⟨by first | omega | exact Nat.le_refl _⟩, ⟨bl_ HB⟩⟩
    ·rw [if_neg c7] at H
     have c7b0 := decide_eq_false c7
     clear c7
     have H' := ak_ H
     clear H
     go_wp2
     go_meet
     case rel => exact ⟨_, (decide (a1 > 3)), rf_, H', ⟨by first | omega | exact Nat.le_refl _⟩, ⟨bl_ HB⟩⟩
   ·rw [if_neg c6] at H
    have c6b0 : (t270 == 0) = false := beq_eq_false_iff_ne.mpr c6
    have c6b1 : (t270 != 0) = true := bne_iff_ne.mpr c6
    (first | rw [c6b0] | (simp only [i64_w, i32_w]; rw [c6b0]) | skip)
    have H' := ak_ H
    clear H
    go_wp2
    go_meet
    case rel => exact ⟨_, (true), rf_, H', ⟨by first | omega | exact Nat.le_refl _⟩, ⟨bl_ HB⟩⟩
  case rest =>
   clear HC5
   try clear c1
   try clear p2
   try clear c6
   try clear c6b0
   try clear c6b1
   try clear c7
   try clear c7b0
   obtain ⟨kq, x38_4, rfl, HA, HJ4, HB⟩ := hcut
   cases kq with
   | zero => exact absurd HA.out (by simp [medlarref14_Pairs.j0])
   | succ kj4 =>
    have H := HA.out
    clear HA
    simp only [medlarref14_Pairs.j0] at H
    by_cases c8 : x38_4 = true
    ·subst c8
     have H1 : (some (([] : List (S39)), 1)) = some (r1, r2) := by rw [if_pos rfl] at H; exact H
     clear H
     have H := H1
     clear H1
     simp only [some.injEq, Prod.mk.injEq] at H
     obtain ⟨rfl, rfl⟩ := H
     go_wp2
     go_ret2
     exact ⟨_, by first | rfl | (simp <;> rfl) | (simp [*] <;> rfl), by first | exact Kd.R_nil _ _ _ _ _ | exact Kd.N_nil _ _ _ _ _ | exact Kd.V_nil _ _ _ _ _ | exact Kd.Q_nil _ _ _ _ _ | exact Kd.S_nil _ _ _ _ _, bl_ HB⟩
    ·replace c8 := Bool.eq_false_iff.mpr c8
     subst c8
     have H1 : ((medlarref01_Chain.f kj4 t269).bind fun t271 => (if a1 = 1 then (medlarref14_Pairs.l0 kj4 ([] : List (S39)) t271 (t271.length : Int) 0) else (if ([] : List (S39)).length < 8796093022208 then (medlarref14_Pairs.l1 kj4 a0 a1 t271 (([] : List (S39)) ++ [(⟨1, 0⟩ : S39)]) t271 (t271.length : Int) 0) else (none)))) = some (r1, r2) := by rw [if_neg (show ¬ (false = true) by decide)] at H; exact H
     clear H
     have H := H1
     clear H1
     replace H := bind_eq_some_iff.mp H
     obtain ⟨t271, A90, H⟩ := H
     replace H : (if a1 = 1 then (medlarref14_Pairs.l0 kj4 ([] : List (S39)) t271 (t271.length : Int) 0) else (if ([] : List (S39)).length < 8796093022208 then (medlarref14_Pairs.l1 kj4 a0 a1 t271 (([] : List (S39)) ++ [(⟨1, 0⟩ : S39)]) t271 (t271.length : Int) 0) else (none))) = some (r1, r2) := H
     have A9 := ak_ A90
     clear A90
     by_cases c10 : a1 = 1
     ·rw [if_pos c10] at H
      have c10b0 : (a1 == 1) = true := beq_iff_eq.mpr c10
      have c10b1 : (a1 != 1) = false := bne_eq_false_iff_eq.mpr c10
      clear c10
      have H' := ak_ H
      clear H
      go_wp2_with (first | ((with_reducible refine gate_callee (f := 116) rfl ?_); refine gl_ (some 40) func116 #[.int .u64 t269] ?_; (with_reducible refine (medlarref01_Chain.calls kj4 t269 t271 _ A9.out).mono ?_); rintro e w11 ⟨v272, rfl, ho0, hb⟩; refine ⟨_, rfl, ?_⟩; have HO273 := ak_ (Kd.R_lower ho0 (bz_ (bl_ HB))); replace HB := ak_ (bt_ (bl_ HB) hb); (try clear hb); (try clear hk); (try clear ho0); obtain ⟨Ao12, co12, eo12⟩ := Kd.R_slice HO273.out; subst eo12))
      go_loopg [11, 45] kj4 (fun kq v11 v45 w' => ∃ (x11_2 : List (S39)) (x45_2 : Int), v45 = .int .i64 x45_2 ∧ Aside0 (medlarref14_Pairs.l0 kq x11_2 t271 (t271.length : Int) x45_2 = some (r1, r2)) ∧ Aside0 (kq ≤ kj4) ∧ Aside0 (Kd.R k39 39 w' w.heap.size (fun _ => True) v11 x11_2) ∧ Aside0 (Kd.R (Kd.int .u64) 23 w' w.heap.size (fun _ => True) (.slice Ao12 t271.length co12) t271) ∧ Aside0 (Below w.heap.size w w'))
      case atStart => exact ⟨(([] : List (S39))), (0), rf_, H', ⟨Nat.le_refl _⟩, ⟨by first | exact Kd.R_nil _ _ _ _ _ | exact Kd.N_nil _ _ _ _ _ | exact Kd.V_nil _ _ _ _ _ | exact Kd.Q_nil _ _ _ _ _ | exact Kd.S_nil _ _ _ _ _⟩, ⟨rl_ HO273⟩, ⟨bl_ HB⟩⟩
      case round =>
       clear H'
       try clear c1
       try clear p2
       try clear c6
       try clear c6b0
       try clear c6b1
       try clear c7
       try clear c7b0
       try clear c8
       try clear c10
       try clear c10b0
       try clear c10b1
       try clear c11
       try clear p2
       obtain ⟨x11_2, x45_2, rfl, HA, HK2, HO_11, HO_43, HB⟩ := hrel
       cases gk with
       | zero => exact absurd HA.out (by simp [medlarref14_Pairs.l0])
       | succ k2 =>
        have H := HA.out
        clear HA
        simp only [medlarref14_Pairs.l0] at H
        by_cases c13 : x45_2 < (t271.length : Int)
        ·rw [if_pos c13] at H
         have c13b0 := decide_eq_true c13
         clear c13
         by_cases c14 : 0 ≤ x45_2
         ·rw [if_pos c14] at H
          have c14b0 := decide_eq_true c14
          clear c14
          by_cases c15 : x45_2 < (t271.length : Int)
          ·rw [if_pos c15] at H
           have c15b0 := decide_eq_true c15
           clear c15
           by_cases c16 : x11_2.length < 8796093022208
           ·rw [if_pos c16] at H
            have LMc16 := ak_ c16
            clear c16
            obtain ⟨y275, hy275⟩ : ∃ y_ : List (S39), y_ = (x11_2 ++ [(⟨rd t271 x45_2, 0⟩ : S39)]) := ⟨_, rfl⟩
            replace H : (medlarref14_Pairs.l0 k2 y275 t271 (t271.length : Int) (wrap64 (x45_2 + 1))) = some (r1, r2) := by first | (rw [hy275]; with_reducible exact H) | (have H2_ := (Option.bind_some _ _).symm.trans H; rw [hy275]; with_reducible exact H2_) | (have H2_ := (Option.bind_some _ _).symm.trans H; with_reducible exact H2_) | with_reducible exact H | (rw [hy275]; exact H) | exact H
            have Ny275 := ak_ hy275
            clear hy275
            have H' := ak_ H
            clear H
            have p274 : 0 ≤ (x45_2 : Int) := od_ (by first | (with_reducible assumption) | assumption)
            have q274 : x45_2 < (t271.length : Int) := od_ (by first | (with_reducible assumption) | assumption)
            obtain ⟨ad274, e274, hx274_0⟩ := Kd.at_int (Kd.R_reads' HO_43.out).2.2 x45_2 p274 q274
            cases e274
            replace p274 := eq_true p274
            replace q274 := eq_true q274
            go_wp2_with (first | ((with_reducible refine gate_builtin (b := .append) (xs := #[.tmp 49, .tmp 52]) rfl ?_); at_builtin; refine Kd.R_append k39 (w0 := w) w.heap.size rfl (.tmp 49) (.tmp 52) 108 39 (.agg #[(.int .u64 0), (.int .u64 0)]) 16 rfl underlying108 info39 rfl (by decide) (by omega) u11 x11_2 (⟨rd t271 x45_2, 0⟩ : S39) [.int .u64 (rd t271 x45_2), .int .u64 0] (fun _ => True) (fun _ => False) rfl rfl ?aP (fun _ hk => hk.elim) ?aF ?aO ?aB ?aS ?aL ?_; (case aP => exact k39_mkM _ _ _ (⟨rd t271 x45_2, 0⟩ : S39)); (case aB => exact (bl_ HB)); (case aF => exact (fun _ _ => trivial)); (case aO => exact (rl_ HO_11)); (case aS => exact (bz_ (bl_ HB))); (case aL => have := LMc16.out; omega); intro v276 w17 ho hb hg hat; rw [← Ny275.out] at ho; replace HO_43 := ak_ (Kd.R_over' (rl_ HO_43) (Kd.R_typed (rl_ HO_11)) (by decide) hg); replace HB := ak_ hb; have HO277 := ak_ ho; clear HO_11; clear ho hb hg hat))
            go_roundg k2
            case measure => have := HJ4.out; have := HK2.out; omega
            case rel => exact ⟨(y275), (wrap64 (x45_2 + 1)), rf_, H', ⟨by have := HJ4.out; have := HK2.out; omega⟩, ⟨rl_ HO277⟩, ⟨rl_ HO_43⟩, ⟨bl_ HB⟩⟩
           ·rw [if_neg c16] at H
            exact absurd H (by simp)
          ·rw [if_neg c15] at H
           exact absurd H (by simp)
         ·rw [if_neg c14] at H
          exact absurd H (by simp)
        ·rw [if_neg c13] at H
         have c13b0 := decide_eq_false c13
         clear c13
         simp only [some.injEq, Prod.mk.injEq] at H
         obtain ⟨rfl, rfl⟩ := H
         go_wp2
         go_ret2
         exact ⟨_, by first | rfl | (simp <;> rfl) | (simp [*] <;> rfl), by (with_reducible repeat (first | apply Kd.R_alloc | apply Kd.R_drewN | apply Kd.R_drew)); exact HO_11.out, bl_ HB⟩
     ·rw [if_neg c10] at H
      have c10b0 : (a1 == 1) = false := beq_eq_false_iff_ne.mpr c10
      have c10b1 : (a1 != 1) = true := bne_iff_ne.mpr c10
      by_cases c18 : ([] : List (S39)).length < 8796093022208
      ·rw [if_pos c18] at H
       have LMc18 := ak_ c18
       clear c18
       obtain ⟨y278, hy278⟩ : ∃ y_ : List (S39), y_ = (([] : List (S39)) ++ [(⟨1, 0⟩ : S39)]) := ⟨_, rfl⟩
       replace H : (medlarref14_Pairs.l1 kj4 a0 a1 t271 y278 t271 (t271.length : Int) 0) = some (r1, r2) := by first | (rw [hy278]; with_reducible exact H) | (have H2_ := (Option.bind_some _ _).symm.trans H; rw [hy278]; with_reducible exact H2_) | (have H2_ := (Option.bind_some _ _).symm.trans H; with_reducible exact H2_) | with_reducible exact H | (rw [hy278]; exact H) | exact H
       have Ny278 := ak_ hy278
       clear hy278
       have H' := ak_ H
       clear H
       go_wp2_with (first | ((with_reducible refine gate_callee (f := 116) rfl ?_); refine gl_ (some 40) func116 #[.int .u64 t269] ?_; (with_reducible refine (medlarref01_Chain.calls kj4 t269 t271 _ A9.out).mono ?_); rintro e w19 ⟨v272, rfl, ho0, hb⟩; refine ⟨_, rfl, ?_⟩; have HO273 := ak_ (Kd.R_lower ho0 (bz_ (bl_ HB))); replace HB := ak_ (bt_ (bl_ HB) hb); (try clear hb); (try clear hk); (try clear ho0)) | ((with_reducible refine gate_builtin (b := .append) (xs := #[.tmp 56, .tmp 58]) rfl ?_); at_builtin; refine Kd.R_append k39 (w0 := w) w.heap.size rfl (.tmp 56) (.tmp 58) 108 39 (.agg #[(.int .u64 0), (.int .u64 0)]) 16 rfl underlying108 info39 rfl (by decide) (by omega) (.slice none 0 0) ([] : List (S39)) (⟨1, 0⟩ : S39) [.int .u64 1, .int .u64 0] (fun _ => True) (fun _ => False) rfl rfl ?aP (fun _ hk => hk.elim) ?aF ?aO ?aB ?aS ?aL ?_; (case aP => exact k39_mkM _ _ _ (⟨1, 0⟩ : S39)); (case aB => exact (bl_ HB)); (case aF => exact (fun _ _ => trivial)); (case aO => exact ((Kd.R_nil _ _ _ _ (fun _ => True)))); (case aS => exact (bz_ (bl_ HB))); (case aL => have := LMc18.out; omega); intro v279 w20 ho hb hg hat; rw [← Ny278.out] at ho; replace HO273 := ak_ (Kd.R_grown (rl_ HO273) hg (fun _ _ => by simp [Value.ownBlock])); replace HB := ak_ hb; have HO280 := ak_ ho; clear ho hb hg hat; obtain ⟨Ao21, co21, eo21⟩ := Kd.R_slice HO273.out; subst eo21))
       go_loopg [11, 62] kj4 (fun kq v11 v62 w' => ∃ (x11_2 : List (S39)) (x62_2 : Int), v62 = .int .i64 x62_2 ∧ Aside0 (medlarref14_Pairs.l1 kq a0 a1 t271 x11_2 t271 (t271.length : Int) x62_2 = some (r1, r2)) ∧ Aside0 (kq ≤ kj4) ∧ Aside0 (Kd.R (Kd.int .u64) 23 w' w.heap.size (fun _ => True) (.slice Ao21 t271.length co21) t271) ∧ Aside0 (Kd.R k39 39 w' w.heap.size (fun _ => True) v11 x11_2) ∧ Aside0 (Kd.R (Kd.int .u64) 23 w' w.heap.size (fun _ => True) (.slice Ao21 t271.length co21) t271) ∧ Aside0 (Below w.heap.size w w'))
       case atStart => exact ⟨(y278), (0), rf_, H', ⟨Nat.le_refl _⟩, ⟨rl_ HO273⟩, ⟨rl_ HO280⟩, ⟨rl_ HO273⟩, ⟨bl_ HB⟩⟩
       case round =>
        clear H'
        try clear c1
        try clear p2
        try clear q2
        try clear hx2
        try clear c6
        try clear c6b0
        try clear c6b1
        try clear p6
        try clear c7
        try clear c7b0
        try clear c8
        try clear c10
        try clear c10b0
        try clear c10b1
        try clear c11
        try clear c13
        try clear c13b0
        try clear c14
        try clear c14b0
        try clear c15
        try clear c15b0
        try clear c16
        try clear c18
        try clear hx274_0
        try clear p2
        try clear p274
        try clear q274
        obtain ⟨x11_2, x62_2, rfl, HA, HK2, HO_10, HO_11, HO_60, HB⟩ := hrel
        cases gk with
        | zero => exact absurd HA.out (by simp [medlarref14_Pairs.l1])
        | succ k2 =>
         have H := HA.out
         clear HA
         simp only [medlarref14_Pairs.l1] at H
         by_cases c22 : x62_2 < (t271.length : Int)
         ·rw [if_pos c22] at H
          have c22b0 := decide_eq_true c22
          clear c22
          by_cases c23 : 0 ≤ x62_2
          ·rw [if_pos c23] at H
           have c23b0 := decide_eq_true c23
           clear c23
           by_cases c24 : x62_2 < (t271.length : Int)
           ·rw [if_pos c24] at H
            have c24b0 := decide_eq_true c24
            clear c24
            obtain ⟨ji25, hji25⟩ : ∃ j_ : Int, (wrap64 (x62_2 + 1)) = j_ := ⟨_, rfl⟩
            replace H : (if 0 ≤ (ji25) then (if (ji25) ≤ (t271.length : Int) then ((some (t271.drop ((ji25) : Int).toNat : List Int)).bind fun y282 => (medlarref14_Pairs.l2 k2 a0 a1 t271 x11_2 (rd t271 x62_2) t271 (t271.length : Int) x62_2 y282 (y282.length : Int) 0)) else (none)) else (none)) = some (r1, r2) := by first | (rw [hji25] at H; exact H) | (simp only [hji25] at H ⊢; exact H)
            have hji25w : (IntKind.i64.wrap (x62_2 + 1)) = ji25 := (i64_w _).trans hji25
            by_cases c26 : 0 ≤ (ji25)
            ·rw [if_pos c26] at H
             have c26b0 := eq_true c26
             have c26b1 := decide_eq_true c26
             clear c26
             by_cases c27 : (ji25) ≤ (t271.length : Int)
             ·rw [if_pos c27] at H
              have c27b0 := eq_true c27
              have c27b1 := decide_eq_true c27
              clear c27
              obtain ⟨y282, hy282⟩ : ∃ y_ : List Int, y_ = (t271.drop ((ji25) : Int).toNat) := ⟨_, rfl⟩
              replace H : (medlarref14_Pairs.l2 k2 a0 a1 t271 x11_2 (rd t271 x62_2) t271 (t271.length : Int) x62_2 y282 (y282.length : Int) 0) = some (r1, r2) := by first | (rw [hy282]; with_reducible exact H) | (have H2_ := (Option.bind_some _ _).symm.trans H; rw [hy282]; with_reducible exact H2_) | (have H2_ := (Option.bind_some _ _).symm.trans H; with_reducible exact H2_) | with_reducible exact H | (rw [hy282]; exact H) | exact H
              have Ny282 := ak_ hy282
              clear hy282
              have H' := ak_ H
              clear H
              have p281 : 0 ≤ (x62_2 : Int) := od_ (by first | (with_reducible assumption) | assumption)
              have q281 : x62_2 < (t271.length : Int) := od_ (by first | (with_reducible assumption) | assumption)
              obtain ⟨ad281, e281, hx281_0⟩ := Kd.at_int (Kd.R_reads' HO_60.out).2.2 x62_2 p281 q281
              cases e281
              replace p281 := eq_true p281
              replace q281 := eq_true q281
              have q28 : ((ji25) : Int) ≤ ((t271.length : Int) : Int) := od_ (by first | (with_reducible assumption) | assumption)
              obtain ⟨i028, hi028, _, hsz28, _⟩ := info_parts info23
              have hroom28 : t271.length ≤ co21 := (Kd.R_reads' HO_10.out).2.1
              have hC28 : Kd.C (Kd.int .u64) _ (some ad281) t271.length t271 := (Kd.R_reads' HO_10.out).2.2
              have q028 : (0 : Int) ≤ ((ji25) : Int) := od_ (by first | (with_reducible assumption) | assumption)
              have hcut28 := cut_from (P := Try.prog) 53 23 .i64 underlying53 hi028 1 hsz28 (some ad281) t271.length co21 (ji25) q028 q28
              have hr28 := Kd.C_drop (m := ((ji25) : Int).toNat) (c := co21) hC28 (by omega) hroom28
              obtain ⟨A28, hA28⟩ : ∃ A1, A1 = (if co21 = ((ji25) : Int).toNat then (some ad281) else ((some ad281) : Option Addr).map (·.add (((ji25) : Int).toNat * 1))) := ⟨_, rfl⟩
              obtain ⟨c28, hc28⟩ : ∃ c1, c1 = co21 - ((ji25) : Int).toNat := ⟨_, rfl⟩
              have hy28 : y282.length = t271.length - ((ji25) : Int).toNat := (by rw [Ny282.out, List.length_drop] <;> omega)
              rw [show (t271).drop ((ji25) : Int).toNat = y282 from Ny282.out.symm] at hr28
              replace hr28 : Kd.C (Kd.int .u64) _ A28 y282.length y282 := (by rw [hA28]; exact hr28)
              rw [← hy28, ← hA28, ← hc28] at hcut28
              have HR285 := ak_ hr28
              have HC285 := ak_ (show y282.length ≤ c28 from by rw [hy28, hc28]; exact Nat.sub_le_sub_right hroom28 _)
              clear hr28 hC28 hroom28 hi028 hsz28 hc28
              have KY28 := ak_ hy28
              have KA28 := ak_ hA28
              clear hy28 hA28
              have KL28 := ak_ (show ((ji25) : Int).toNat ≤ t271.length from by omega)
              replace q28 := eq_true q28
              go_wp2
              go_loopg [11, 72] k2 (fun kq v11 v72 w' => ∃ (x11_3 : List (S39)) (x72_3 : Int), v72 = .int .i64 x72_3 ∧ Aside0 (medlarref14_Pairs.l2 kq a0 a1 t271 x11_3 (rd t271 x62_2) t271 (t271.length : Int) x62_2 y282 (y282.length : Int) x72_3 = some (r1, r2)) ∧ Aside0 (kq ≤ k2) ∧ Aside0 (Kd.R (Kd.int .u64) 23 w' w.heap.size (fun _ => True) (.slice (some ad281) t271.length co21) t271) ∧ Aside0 (Kd.R k39 39 w' w.heap.size (fun _ => True) v11 x11_3) ∧ Aside0 (Kd.R (Kd.int .u64) 23 w' w.heap.size (fun _ => True) (.slice (some ad281) t271.length co21) t271) ∧ Aside0 (Kd.C (Kd.int .u64) w' A28 y282.length y282) ∧ Aside0 (Below w.heap.size w w'))
              case atStart => exact ⟨(x11_2), (0), rf_, H', ⟨Nat.le_refl _⟩, ⟨rl_ HO_10⟩, ⟨rl_ HO_11⟩, ⟨rl_ HO_60⟩, ⟨by repeat (first | (with_reducible exact HR285.out) | (with_reducible refine Kd.C_alloc ?_ _) | (with_reducible refine Kd.C_drewN ?_ _) | (with_reducible refine Kd.C_drew ?_) | exact HR285.out)⟩, ⟨bl_ HB⟩⟩
              case round =>
               clear H'
               try clear c1
               try clear c2
               try clear p2
               try clear q2
               try clear hx2
               try clear c6
               try clear c6b0
               try clear c6b1
               try clear p6
               try clear c7
               try clear c7b0
               try clear c8
               try clear c10
               try clear c10b0
               try clear c10b1
               try clear c11
               try clear c13
               try clear c13b0
               try clear c14
               try clear c14b0
               try clear c15
               try clear c15b0
               try clear c16
               try clear c18
               try clear c22
               try clear c22b0
               try clear c23
               try clear c23b0
               try clear c24
               try clear c24b0
               try clear c26
               try clear c26b0
               try clear c26b1
               try clear c27
               try clear c27b0
               try clear c27b1
               try clear p27
               try clear q27
               try clear hx27
               try clear c28
               try clear p28
               try clear q28
               try clear hx28
               try clear hx274_0
               try clear hx281_0
               try clear p2
               try clear p274
               try clear p281
               try clear p6
               try clear q028
               try clear q2
               try clear q274
               try clear q28
               try clear q281
               obtain ⟨x11_3, x72_3, rfl, HA, HK3, HO_10, HO_11, HO_60, HR285, HB⟩ := hrel
               cases gk with
               | zero => exact absurd HA.out (by simp [medlarref14_Pairs.l2])
               | succ k3 =>
                have H := HA.out
                clear HA
                simp only [medlarref14_Pairs.l2] at H
                by_cases c29 : x72_3 < (y282.length : Int)
                ·rw [if_pos c29] at H
                 have c29b0 := decide_eq_true c29
                 clear c29
                 by_cases c30 : 0 ≤ x72_3
                 ·rw [if_pos c30] at H
                  have c30b0 := decide_eq_true c30
                  clear c30
                  by_cases c31 : x72_3 < (y282.length : Int)
                  ·rw [if_pos c31] at H
                   have c31b0 := decide_eq_true c31
                   clear c31
                   replace H := bind_eq_some_iff.mp H
                   obtain ⟨⟨t287, t288⟩, A320, H⟩ := H
                   replace H : ((medlarref08_Useful.f k3 a0 (rd t271 x62_2) t287).bind fun bt290 => (if a1 = 2 then (if x11_3.length < 8796093022208 then (medlarref14_Pairs.l2 k3 a0 a1 t271 (x11_3 ++ [(⟨(rd t271 x62_2), t287⟩ : S39)]) (rd t271 x62_2) t271 (t271.length : Int) x62_2 y282 (y282.length : Int) (wrap64 (x72_3 + 1))) else (none)) else (if bt290.1 = true then (if x11_3.length < 8796093022208 then (medlarref14_Pairs.l2 k3 a0 a1 t271 (x11_3 ++ [(⟨(rd t271 x62_2), t287⟩ : S39)]) (rd t271 x62_2) t271 (t271.length : Int) x62_2 y282 (y282.length : Int) (wrap64 (x72_3 + 1))) else (none)) else (medlarref14_Pairs.l2 k3 a0 a1 t271 x11_3 (rd t271 x62_2) t271 (t271.length : Int) x62_2 y282 (y282.length : Int) (wrap64 (x72_3 + 1)))))) = some (r1, r2) := H
                   have A32 := ak_ A320
                   clear A320
                   replace H := bind_eq_some_iff.mp H
                   obtain ⟨⟨t290, t291⟩, A330, H⟩ := H
                   replace H : (if a1 = 2 then (if x11_3.length < 8796093022208 then (medlarref14_Pairs.l2 k3 a0 a1 t271 (x11_3 ++ [(⟨(rd t271 x62_2), t287⟩ : S39)]) (rd t271 x62_2) t271 (t271.length : Int) x62_2 y282 (y282.length : Int) (wrap64 (x72_3 + 1))) else (none)) else (if t290 = true then (if x11_3.length < 8796093022208 then (medlarref14_Pairs.l2 k3 a0 a1 t271 (x11_3 ++ [(⟨(rd t271 x62_2), t287⟩ : S39)]) (rd t271 x62_2) t271 (t271.length : Int) x62_2 y282 (y282.length : Int) (wrap64 (x72_3 + 1))) else (none)) else (medlarref14_Pairs.l2 k3 a0 a1 t271 x11_3 (rd t271 x62_2) t271 (t271.length : Int) x62_2 y282 (y282.length : Int) (wrap64 (x72_3 + 1))))) = some (r1, r2) := H
                   have A33 := ak_ A330
                   clear A330
                   by_cases c34 : a1 = 2
                   ·rw [if_pos c34] at H
                    have c34b0 : (a1 == 2) = true := beq_iff_eq.mpr c34
                    have c34b1 : (a1 != 2) = false := bne_eq_false_iff_eq.mpr c34
                    clear c34
                    by_cases c35 : x11_3.length < 8796093022208
                    ·rw [if_pos c35] at H
                     have LMc35 := ak_ c35
                     clear c35
                     obtain ⟨y292, hy292⟩ : ∃ y_ : List (S39), y_ = (x11_3 ++ [(⟨(rd t271 x62_2), t287⟩ : S39)]) := ⟨_, rfl⟩
                     replace H : (medlarref14_Pairs.l2 k3 a0 a1 t271 y292 (rd t271 x62_2) t271 (t271.length : Int) x62_2 y282 (y282.length : Int) (wrap64 (x72_3 + 1))) = some (r1, r2) := by first | (rw [hy292]; with_reducible exact H) | (have H2_ := (Option.bind_some _ _).symm.trans H; rw [hy292]; with_reducible exact H2_) | (have H2_ := (Option.bind_some _ _).symm.trans H; with_reducible exact H2_) | with_reducible exact H | (rw [hy292]; exact H) | exact H
                     have Ny292 := ak_ hy292
                     clear hy292
                     have H' := ak_ H
                     clear H
                     have p286 : 0 ≤ (x72_3 : Int) := od_ (by first | (with_reducible assumption) | assumption)
                     have q286 : x72_3 < (y282.length : Int) := od_ (by first | (with_reducible assumption) | assumption)
                     obtain ⟨ad286, e286, hx286_0⟩ := Kd.at_int HR285.out x72_3 p286 q286
                     cases e286
                     replace p286 := eq_true p286
                     replace q286 := eq_true q286
                     go_wp2_with (first | ((with_reducible refine gate_callee (f := 117) rfl ?_); refine gl_ (some 79) func117 #[.int .i64 a0, .int .u64 (rd y282 x72_3)] ?_; (with_reducible refine (medlarref01_Other.calls k3 a0 (rd y282 x72_3) t287 t288 _ A32.out).mono ?_); rintro e w' ⟨rfl, ⟨nd, rfl⟩⟩; refine ⟨_, rfl, ?_⟩; (try (rw [drewN_self wr]; generalize hq_ : World.drewN wr _ = wr; (try (have nz_ := ak_ (Kd.C_eqN hq_ HR285.out); clear HR285; have HR285 := nz_; clear nz_)); have n0_ : Aside0 (Kd.R (Kd.int .u64) 23 wr w.heap.size (fun _ => True) (.slice (some ad281) t271.length co21) t271) := ⟨by rw [← hq_]; exact (rl_ HO_10)⟩; have n1_ : Aside0 (Kd.R k39 39 wr w.heap.size (fun _ => True) u11 x11_3) := ⟨by rw [← hq_]; exact (rl_ HO_11)⟩; have n2_ : Aside0 (Kd.R (Kd.int .u64) 23 wr w.heap.size (fun _ => True) (.slice (some ad281) t271.length co21) t271) := ⟨by rw [← hq_]; exact (rl_ HO_60)⟩; have n3_ : Aside0 (Below w.heap.size w wr) := ⟨by rw [← hq_]; exact (bl_ HB)⟩; clear HO_10 HO_11 HO_60 HB hq_; have HO_10 := n0_; have HO_11 := n1_; have HO_60 := n2_; have HB := n3_; clear n0_ n1_ n2_ n3_))) | ((with_reducible refine gate_dst (N := 20) rfl ?_); refine bx_ 20 #[.int .u64 0, .int .u64 0] 39 ?_; intro gb289 hg w36 hbox hb; replace HO_10 := ak_ (Kd.R_below (rl_ HO_10) hb); replace HO_11 := ak_ (Kd.R_below (Kd.R_elderB (rl_ HO_11) gb289 (Nat.le_of_eq hg.symm)) hb); replace HO_60 := ak_ (Kd.R_below (rl_ HO_60) hb); replace HR285 := ak_ (Kd.C_below (by repeat (first | (with_reducible exact HR285.out) | (with_reducible refine Kd.C_alloc ?_ _) | (with_reducible refine Kd.C_drewN ?_ _) | (with_reducible refine Kd.C_drew ?_) | exact HR285.out)) hb); have BK289 := ak_ hbox; have GW289 := ak_ (gs_ hg HB); have GE289 := ak_ (gs_ hg HB); replace HB := ak_ (bt_ (bl_ HB) hb); clear hb hbox hg; have hcz37_0 := kq_ BK289.out 0 rfl; have hcz37_1 := kq_ BK289.out 1 rfl; have hfz37_0 := kf_ BK289.out 0; have hfz37_1 := kf_ BK289.out 1) | ((with_reducible refine gate_callee (f := 106) rfl ?_); refine gl_ (some 88) func106 #[.int .i64 a0, .agg #[.int .u64 (rd t271 x62_2), .int .u64 t287]] ?_; (with_reducible refine (medlarref08_Useful.calls k3 a0 (rd t271 x62_2) t287 t290 t291 _ A33.out).mono ?_); rintro e w38 ⟨rfl, hb⟩; refine ⟨_, rfl, ?_⟩; replace HO_11 := ak_ (Kd.R_below (by (with_reducible repeat (first | apply Kd.R_alloc | apply Kd.R_drewN | apply Kd.R_drew)); exact (Kd.R_mono (Kd.R_far (p := ⟨gb289, 1, none⟩) (Kd.R_far (p := ⟨gb289, 0, none⟩) (Kd.R_mono HO_11.out (fun k_ hk => (⟨hk, hk.2⟩ : _ ∧ k_ ≠ gb289))) (fun _ hk => hk.2) (.int .u64 (rd t271 x62_2))) (fun _ hk => hk.2) (.int .u64 t287)) (fun _ h_ => h_.1))) hb); replace HO_60 := ak_ (Kd.R_below (by (with_reducible repeat (first | apply Kd.R_alloc | apply Kd.R_drewN | apply Kd.R_drew)); exact (Kd.R_mono (Kd.R_far (p := ⟨gb289, 1, none⟩) (Kd.R_far (p := ⟨gb289, 0, none⟩) (Kd.R_types HO_60.out BK289.out (by decide)) (fun _ hk => hk.2) (.int .u64 (rd t271 x62_2))) (fun _ hk => hk.2) (.int .u64 t287)) (fun _ h_ => h_.1))) hb); replace HR285 := ak_ (Kd.C_below ((Kd.C_cutR (d := (Kd.int .u64)) (m := ((ji25) : Int).toNat) (c := co21) KA28.out Ny282.out (by (with_reducible repeat (first | apply Kd.R_alloc | apply Kd.R_drewN | apply Kd.R_drew)); exact (Kd.R_mono (Kd.R_far (p := ⟨gb289, 1, none⟩) (Kd.R_far (p := ⟨gb289, 0, none⟩) (Kd.R_types HO_10.out BK289.out (by decide)) (fun _ hk => hk.2) (.int .u64 (rd t271 x62_2))) (fun _ hk => hk.2) (.int .u64 t287)) (fun _ h_ => h_.1))) KL28.out)) hb); replace HO_10 := ak_ (Kd.R_below (by (with_reducible repeat (first | apply Kd.R_alloc | apply Kd.R_drewN | apply Kd.R_drew)); exact (Kd.R_mono (Kd.R_far (p := ⟨gb289, 1, none⟩) (Kd.R_far (p := ⟨gb289, 0, none⟩) (Kd.R_types HO_10.out BK289.out (by decide)) (fun _ hk => hk.2) (.int .u64 (rd t271 x62_2))) (fun _ hk => hk.2) (.int .u64 t287)) (fun _ h_ => h_.1))) hb); replace BK289 := ak_ (kb_ (g := gb289) (o := .cells #[.int .u64 (rd t271 x62_2), .int .u64 t287] 39 (0, 0)) (by (with_reducible repeat (first | refine kn_ ?_ _ | refine kd_ ?_ | refine ka_ ?_ _)); refine blk_put (cs := #[.int .u64 (rd t271 x62_2), .int .u64 0]) ?_ 1 _ rfl; (with_reducible repeat (first | refine kn_ ?_ _ | refine kd_ ?_ | refine ka_ ?_ _)); refine blk_put (cs := #[.int .u64 0, .int .u64 0]) ?_ 0 _ rfl; (with_reducible repeat (first | refine kn_ ?_ _ | refine kd_ ?_ | refine ka_ ?_ _)); exact BK289.out) hb); replace HB := ak_ (bt_ (by repeat (first | (with_reducible first | exact HB.out | apply ba_ | apply bn_ | apply bd_ | refine below_set ?_ GE289.out) | exact HB.out)) hb); (try clear hb); (try clear hk); have hcz39_0 := kq_ BK289.out 0 rfl; have hcz39_1 := kq_ BK289.out 1 rfl; have hfz39_0 := kf_ BK289.out 0; have hfz39_1 := kf_ BK289.out 1) | ((with_reducible refine gate_builtin (b := .append) (xs := #[.tmp 96, .tmp 98]) rfl ?_); at_builtin; refine Kd.R_append k39 (w0 := w) w.heap.size rfl (.tmp 96) (.tmp 98) 108 39 (.agg #[(.int .u64 0), (.int .u64 0)]) 16 rfl underlying108 info39 rfl (by decide) (by omega) u11 x11_3 (⟨(rd t271 x62_2), t287⟩ : S39) [.int .u64 (rd t271 x62_2), .int .u64 t287] (fun k_ => k_ ≠ gb289) (fun _ => False) rfl rfl ?aP (fun _ hk => hk.elim) ?aF ?aO ?aB ?aS ?aL ?_; (case aP => exact k39_mkM _ _ _ (⟨(rd t271 x62_2), t287⟩ : S39)); (case aB => exact (by repeat (first | (with_reducible first | exact HB.out | apply ba_ | apply bn_ | apply bd_ | refine below_set ?_ GE289.out) | exact HB.out))); (case aF => exact (fun k_ hk => Kd.freshB (g := gb289) (o := .cells #[.int .u64 (rd t271 x62_2), .int .u64 t287] 39 (0, 0)) (kl_ BK289) k_ hk)); (case aO => exact (by (with_reducible repeat (first | apply Kd.R_alloc | apply Kd.R_drewN | apply Kd.R_drew)); exact Kd.R_mono HO_11.out (fun _ hk => hk.2))); (case aS => exact (bz_ (by repeat (first | (with_reducible first | exact HB.out | apply ba_ | apply bn_ | apply bd_ | refine below_set ?_ GE289.out) | exact HB.out)))); (case aL => have := LMc35.out; omega); intro v293 w40 ho hb hg hat; rw [← Ny292.out] at ho; replace HO_60 := ak_ (Kd.R_over' (rl_ HO_60) (Kd.R_typed (rl_ HO_11)) (by decide) hg); replace BK289 := ak_ (blk_grown (g := gb289) (o := .cells #[.int .u64 (rd t271 x62_2), .int .u64 t287] 39 (0, 0)) (kl_ BK289) hg (Kd.R_away HO_11.out (fun _ hk => hk.2))); replace HB := ak_ hb; replace HR285 := ak_ (Kd.C_cutR (d := (Kd.int .u64)) (W := w40) (m := ((ji25) : Int).toNat) (c := co21) KA28.out Ny282.out (Kd.R_over' (rl_ HO_10) (Kd.R_typed (rl_ HO_11)) (by decide) hg) KL28.out); replace HO_10 := ak_ (Kd.R_over' (rl_ HO_10) (Kd.R_typed (rl_ HO_11)) (by decide) hg); have HO294 := ak_ ho; clear HO_11; clear ho hb hg hat))
                     go_roundg k3
                     case measure => have := HJ4.out; have := HK2.out; have := HK3.out; omega
                     case rel => exact ⟨(y292), (wrap64 (x72_3 + 1)), rf_, H', ⟨by have := HJ4.out; have := HK2.out; have := HK3.out; omega⟩, ⟨rl_ HO_10⟩, ⟨by (with_reducible repeat (first | apply Kd.R_alloc | apply Kd.R_drewN | apply Kd.R_drew)); exact Kd.R_mono HO294.out (fun _ hk => trivial)⟩, ⟨rl_ HO_60⟩, ⟨by repeat (first | (with_reducible exact HR285.out) | (with_reducible refine Kd.C_alloc ?_ _) | (with_reducible refine Kd.C_drewN ?_ _) | (with_reducible refine Kd.C_drew ?_) | exact HR285.out)⟩, ⟨by repeat (first | (with_reducible first | exact HB.out | apply ba_ | apply bn_ | apply bd_ | refine below_set ?_ GE289.out) | exact HB.out)⟩⟩
                    ·rw [if_neg c35] at H
                     exact absurd H (by simp)
                   ·rw [if_neg c34] at H
                    have c34b0 : (a1 == 2) = false := beq_eq_false_iff_ne.mpr c34
                    have c34b1 : (a1 != 2) = true := bne_iff_ne.mpr c34
                    by_cases c41 : t290 = true
                    ·subst c41
                     have H1 : (if x11_3.length < 8796093022208 then (medlarref14_Pairs.l2 k3 a0 a1 t271 (x11_3 ++ [(⟨(rd t271 x62_2), t287⟩ : S39)]) (rd t271 x62_2) t271 (t271.length : Int) x62_2 y282 (y282.length : Int) (wrap64 (x72_3 + 1))) else (none)) = some (r1, r2) := by rw [if_pos rfl] at H; exact H
                     clear H
                     have H := H1
                     clear H1
                     by_cases c42 : x11_3.length < 8796093022208
                     ·rw [if_pos c42] at H
                      have LMc42 := ak_ c42
                      clear c42
                      obtain ⟨y295, hy295⟩ : ∃ y_ : List (S39), y_ = (x11_3 ++ [(⟨(rd t271 x62_2), t287⟩ : S39)]) := ⟨_, rfl⟩
                      replace H : (medlarref14_Pairs.l2 k3 a0 a1 t271 y295 (rd t271 x62_2) t271 (t271.length : Int) x62_2 y282 (y282.length : Int) (wrap64 (x72_3 + 1))) = some (r1, r2) := by first | (rw [hy295]; with_reducible exact H) | (have H2_ := (Option.bind_some _ _).symm.trans H; rw [hy295]; with_reducible exact H2_) | (have H2_ := (Option.bind_some _ _).symm.trans H; with_reducible exact H2_) | with_reducible exact H | (rw [hy295]; exact H) | exact H
                      have Ny295 := ak_ hy295
                      clear hy295
                      have H' := ak_ H
                      clear H
                      have p286 : 0 ≤ (x72_3 : Int) := od_ (by first | (with_reducible assumption) | assumption)
                      have q286 : x72_3 < (y282.length : Int) := od_ (by first | (with_reducible assumption) | assumption)
                      obtain ⟨ad286, e286, hx286_0⟩ := Kd.at_int HR285.out x72_3 p286 q286
                      cases e286
                      replace p286 := eq_true p286
                      replace q286 := eq_true q286
                      go_wp2_with (first | ((with_reducible refine gate_callee (f := 117) rfl ?_); refine gl_ (some 79) func117 #[.int .i64 a0, .int .u64 (rd y282 x72_3)] ?_; (with_reducible refine (medlarref01_Other.calls k3 a0 (rd y282 x72_3) t287 t288 _ A32.out).mono ?_); rintro e w' ⟨rfl, ⟨nd, rfl⟩⟩; refine ⟨_, rfl, ?_⟩; (try (rw [drewN_self wr]; generalize hq_ : World.drewN wr _ = wr; (try (have nz_ := ak_ (Kd.C_eqN hq_ HR285.out); clear HR285; have HR285 := nz_; clear nz_)); have n0_ : Aside0 (Kd.R (Kd.int .u64) 23 wr w.heap.size (fun _ => True) (.slice (some ad281) t271.length co21) t271) := ⟨by rw [← hq_]; exact (rl_ HO_10)⟩; have n1_ : Aside0 (Kd.R k39 39 wr w.heap.size (fun _ => True) u11 x11_3) := ⟨by rw [← hq_]; exact (rl_ HO_11)⟩; have n2_ : Aside0 (Kd.R (Kd.int .u64) 23 wr w.heap.size (fun _ => True) (.slice (some ad281) t271.length co21) t271) := ⟨by rw [← hq_]; exact (rl_ HO_60)⟩; have n3_ : Aside0 (Below w.heap.size w wr) := ⟨by rw [← hq_]; exact (bl_ HB)⟩; clear HO_10 HO_11 HO_60 HB hq_; have HO_10 := n0_; have HO_11 := n1_; have HO_60 := n2_; have HB := n3_; clear n0_ n1_ n2_ n3_))) | ((with_reducible refine gate_dst (N := 20) rfl ?_); refine bx_ 20 #[.int .u64 0, .int .u64 0] 39 ?_; intro gb289 hg w43 hbox hb; replace HO_10 := ak_ (Kd.R_below (rl_ HO_10) hb); replace HO_11 := ak_ (Kd.R_below (Kd.R_elderB (rl_ HO_11) gb289 (Nat.le_of_eq hg.symm)) hb); replace HO_60 := ak_ (Kd.R_below (rl_ HO_60) hb); replace HR285 := ak_ (Kd.C_below (by repeat (first | (with_reducible exact HR285.out) | (with_reducible refine Kd.C_alloc ?_ _) | (with_reducible refine Kd.C_drewN ?_ _) | (with_reducible refine Kd.C_drew ?_) | exact HR285.out)) hb); have BK289 := ak_ hbox; have GW289 := ak_ (gs_ hg HB); have GE289 := ak_ (gs_ hg HB); replace HB := ak_ (bt_ (bl_ HB) hb); clear hb hbox hg; have hcz44_0 := kq_ BK289.out 0 rfl; have hcz44_1 := kq_ BK289.out 1 rfl; have hfz44_0 := kf_ BK289.out 0; have hfz44_1 := kf_ BK289.out 1) | ((with_reducible refine gate_callee (f := 106) rfl ?_); refine gl_ (some 88) func106 #[.int .i64 a0, .agg #[.int .u64 (rd t271 x62_2), .int .u64 t287]] ?_; (with_reducible refine (medlarref08_Useful.calls k3 a0 (rd t271 x62_2) t287 true t291 _ A33.out).mono ?_); rintro e w45 ⟨rfl, hb⟩; refine ⟨_, rfl, ?_⟩; replace HO_11 := ak_ (Kd.R_below (by (with_reducible repeat (first | apply Kd.R_alloc | apply Kd.R_drewN | apply Kd.R_drew)); exact (Kd.R_mono (Kd.R_far (p := ⟨gb289, 1, none⟩) (Kd.R_far (p := ⟨gb289, 0, none⟩) (Kd.R_mono HO_11.out (fun k_ hk => (⟨hk, hk.2⟩ : _ ∧ k_ ≠ gb289))) (fun _ hk => hk.2) (.int .u64 (rd t271 x62_2))) (fun _ hk => hk.2) (.int .u64 t287)) (fun _ h_ => h_.1))) hb); replace HO_60 := ak_ (Kd.R_below (by (with_reducible repeat (first | apply Kd.R_alloc | apply Kd.R_drewN | apply Kd.R_drew)); exact (Kd.R_mono (Kd.R_far (p := ⟨gb289, 1, none⟩) (Kd.R_far (p := ⟨gb289, 0, none⟩) (Kd.R_types HO_60.out BK289.out (by decide)) (fun _ hk => hk.2) (.int .u64 (rd t271 x62_2))) (fun _ hk => hk.2) (.int .u64 t287)) (fun _ h_ => h_.1))) hb); replace HR285 := ak_ (Kd.C_below ((Kd.C_cutR (d := (Kd.int .u64)) (m := ((ji25) : Int).toNat) (c := co21) KA28.out Ny282.out (by (with_reducible repeat (first | apply Kd.R_alloc | apply Kd.R_drewN | apply Kd.R_drew)); exact (Kd.R_mono (Kd.R_far (p := ⟨gb289, 1, none⟩) (Kd.R_far (p := ⟨gb289, 0, none⟩) (Kd.R_types HO_10.out BK289.out (by decide)) (fun _ hk => hk.2) (.int .u64 (rd t271 x62_2))) (fun _ hk => hk.2) (.int .u64 t287)) (fun _ h_ => h_.1))) KL28.out)) hb); replace HO_10 := ak_ (Kd.R_below (by (with_reducible repeat (first | apply Kd.R_alloc | apply Kd.R_drewN | apply Kd.R_drew)); exact (Kd.R_mono (Kd.R_far (p := ⟨gb289, 1, none⟩) (Kd.R_far (p := ⟨gb289, 0, none⟩) (Kd.R_types HO_10.out BK289.out (by decide)) (fun _ hk => hk.2) (.int .u64 (rd t271 x62_2))) (fun _ hk => hk.2) (.int .u64 t287)) (fun _ h_ => h_.1))) hb); replace BK289 := ak_ (kb_ (g := gb289) (o := .cells #[.int .u64 (rd t271 x62_2), .int .u64 t287] 39 (0, 0)) (by (with_reducible repeat (first | refine kn_ ?_ _ | refine kd_ ?_ | refine ka_ ?_ _)); refine blk_put (cs := #[.int .u64 (rd t271 x62_2), .int .u64 0]) ?_ 1 _ rfl; (with_reducible repeat (first | refine kn_ ?_ _ | refine kd_ ?_ | refine ka_ ?_ _)); refine blk_put (cs := #[.int .u64 0, .int .u64 0]) ?_ 0 _ rfl; (with_reducible repeat (first | refine kn_ ?_ _ | refine kd_ ?_ | refine ka_ ?_ _)); exact BK289.out) hb); replace HB := ak_ (bt_ (by repeat (first | (with_reducible first | exact HB.out | apply ba_ | apply bn_ | apply bd_ | refine below_set ?_ GE289.out) | exact HB.out)) hb); (try clear hb); (try clear hk); have hcz46_0 := kq_ BK289.out 0 rfl; have hcz46_1 := kq_ BK289.out 1 rfl; have hfz46_0 := kf_ BK289.out 0; have hfz46_1 := kf_ BK289.out 1) | ((with_reducible refine gate_builtin (b := .append) (xs := #[.tmp 96, .tmp 98]) rfl ?_); at_builtin; refine Kd.R_append k39 (w0 := w) w.heap.size rfl (.tmp 96) (.tmp 98) 108 39 (.agg #[(.int .u64 0), (.int .u64 0)]) 16 rfl underlying108 info39 rfl (by decide) (by omega) u11 x11_3 (⟨(rd t271 x62_2), t287⟩ : S39) [.int .u64 (rd t271 x62_2), .int .u64 t287] (fun k_ => k_ ≠ gb289) (fun _ => False) rfl rfl ?aP (fun _ hk => hk.elim) ?aF ?aO ?aB ?aS ?aL ?_; (case aP => exact k39_mkM _ _ _ (⟨(rd t271 x62_2), t287⟩ : S39)); (case aB => exact (by repeat (first | (with_reducible first | exact HB.out | apply ba_ | apply bn_ | apply bd_ | refine below_set ?_ GE289.out) | exact HB.out))); (case aF => exact (fun k_ hk => Kd.freshB (g := gb289) (o := .cells #[.int .u64 (rd t271 x62_2), .int .u64 t287] 39 (0, 0)) (kl_ BK289) k_ hk)); (case aO => exact (by (with_reducible repeat (first | apply Kd.R_alloc | apply Kd.R_drewN | apply Kd.R_drew)); exact Kd.R_mono HO_11.out (fun _ hk => hk.2))); (case aS => exact (bz_ (by repeat (first | (with_reducible first | exact HB.out | apply ba_ | apply bn_ | apply bd_ | refine below_set ?_ GE289.out) | exact HB.out)))); (case aL => have := LMc42.out; omega); intro v296 w47 ho hb hg hat; rw [← Ny295.out] at ho; replace HO_60 := ak_ (Kd.R_over' (rl_ HO_60) (Kd.R_typed (rl_ HO_11)) (by decide) hg); replace BK289 := ak_ (blk_grown (g := gb289) (o := .cells #[.int .u64 (rd t271 x62_2), .int .u64 t287] 39 (0, 0)) (kl_ BK289) hg (Kd.R_away HO_11.out (fun _ hk => hk.2))); replace HB := ak_ hb; replace HR285 := ak_ (Kd.C_cutR (d := (Kd.int .u64)) (W := w47) (m := ((ji25) : Int).toNat) (c := co21) KA28.out Ny282.out (Kd.R_over' (rl_ HO_10) (Kd.R_typed (rl_ HO_11)) (by decide) hg) KL28.out); replace HO_10 := ak_ (Kd.R_over' (rl_ HO_10) (Kd.R_typed (rl_ HO_11)) (by decide) hg); have HO297 := ak_ ho; clear HO_11; clear ho hb hg hat))
                      go_roundg k3
                      case measure => have := HJ4.out; have := HK2.out; have := HK3.out; omega
                      case rel => exact ⟨(y295), (wrap64 (x72_3 + 1)), rf_, H', ⟨by have := HJ4.out; have := HK2.out; have := HK3.out; omega⟩, ⟨rl_ HO_10⟩, ⟨by (with_reducible repeat (first | apply Kd.R_alloc | apply Kd.R_drewN | apply Kd.R_drew)); exact Kd.R_mono HO297.out (fun _ hk => trivial)⟩, ⟨rl_ HO_60⟩, ⟨by repeat (first | (with_reducible exact HR285.out) | (with_reducible refine Kd.C_alloc ?_ _) | (with_reducible refine Kd.C_drewN ?_ _) | (with_reducible refine Kd.C_drew ?_) | exact HR285.out)⟩, ⟨by repeat (first | (with_reducible first | exact HB.out | apply ba_ | apply bn_ | apply bd_ | refine below_set ?_ GE289.out) | exact HB.out)⟩⟩
                     ·rw [if_neg c42] at H
                      exact absurd H (by simp)
                    ·replace c41 := Bool.eq_false_iff.mpr c41
                     subst c41
                     have H1 : (medlarref14_Pairs.l2 k3 a0 a1 t271 x11_3 (rd t271 x62_2) t271 (t271.length : Int) x62_2 y282 (y282.length : Int) (wrap64 (x72_3 + 1))) = some (r1, r2) := by rw [if_neg (show ¬ (false = true) by decide)] at H; exact H
                     clear H
                     have H := H1
                     clear H1
                     have H' := ak_ H
                     clear H
                     have p286 : 0 ≤ (x72_3 : Int) := od_ (by first | (with_reducible assumption) | assumption)
                     have q286 : x72_3 < (y282.length : Int) := od_ (by first | (with_reducible assumption) | assumption)
                     obtain ⟨ad286, e286, hx286_0⟩ := Kd.at_int HR285.out x72_3 p286 q286
                     cases e286
                     replace p286 := eq_true p286
                     replace q286 := eq_true q286
                     go_wp2_with (first | ((with_reducible refine gate_callee (f := 117) rfl ?_); refine gl_ (some 79) func117 #[.int .i64 a0, .int .u64 (rd y282 x72_3)] ?_; (with_reducible refine (medlarref01_Other.calls k3 a0 (rd y282 x72_3) t287 t288 _ A32.out).mono ?_); rintro e w' ⟨rfl, ⟨nd, rfl⟩⟩; refine ⟨_, rfl, ?_⟩; (try (rw [drewN_self wr]; generalize hq_ : World.drewN wr _ = wr; (try (have nz_ := ak_ (Kd.C_eqN hq_ HR285.out); clear HR285; have HR285 := nz_; clear nz_)); have n0_ : Aside0 (Kd.R (Kd.int .u64) 23 wr w.heap.size (fun _ => True) (.slice (some ad281) t271.length co21) t271) := ⟨by rw [← hq_]; exact (rl_ HO_10)⟩; have n1_ : Aside0 (Kd.R k39 39 wr w.heap.size (fun _ => True) u11 x11_3) := ⟨by rw [← hq_]; exact (rl_ HO_11)⟩; have n2_ : Aside0 (Kd.R (Kd.int .u64) 23 wr w.heap.size (fun _ => True) (.slice (some ad281) t271.length co21) t271) := ⟨by rw [← hq_]; exact (rl_ HO_60)⟩; have n3_ : Aside0 (Below w.heap.size w wr) := ⟨by rw [← hq_]; exact (bl_ HB)⟩; clear HO_10 HO_11 HO_60 HB hq_; have HO_10 := n0_; have HO_11 := n1_; have HO_60 := n2_; have HB := n3_; clear n0_ n1_ n2_ n3_))) | ((with_reducible refine gate_dst (N := 20) rfl ?_); refine bx_ 20 #[.int .u64 0, .int .u64 0] 39 ?_; intro gb289 hg w48 hbox hb; replace HO_10 := ak_ (Kd.R_below (rl_ HO_10) hb); replace HO_11 := ak_ (Kd.R_below (Kd.R_elderB (rl_ HO_11) gb289 (Nat.le_of_eq hg.symm)) hb); replace HO_60 := ak_ (Kd.R_below (rl_ HO_60) hb); replace HR285 := ak_ (Kd.C_below (by repeat (first | (with_reducible exact HR285.out) | (with_reducible refine Kd.C_alloc ?_ _) | (with_reducible refine Kd.C_drewN ?_ _) | (with_reducible refine Kd.C_drew ?_) | exact HR285.out)) hb); have BK289 := ak_ hbox; have GW289 := ak_ (gs_ hg HB); have GE289 := ak_ (gs_ hg HB); replace HB := ak_ (bt_ (bl_ HB) hb); clear hb hbox hg; have hcz49_0 := kq_ BK289.out 0 rfl; have hcz49_1 := kq_ BK289.out 1 rfl; have hfz49_0 := kf_ BK289.out 0; have hfz49_1 := kf_ BK289.out 1) | ((with_reducible refine gate_callee (f := 106) rfl ?_); refine gl_ (some 88) func106 #[.int .i64 a0, .agg #[.int .u64 (rd t271 x62_2), .int .u64 t287]] ?_; (with_reducible refine (medlarref08_Useful.calls k3 a0 (rd t271 x62_2) t287 false t291 _ A33.out).mono ?_); rintro e w50 ⟨rfl, hb⟩; refine ⟨_, rfl, ?_⟩; replace HO_11 := ak_ (Kd.R_below (by (with_reducible repeat (first | apply Kd.R_alloc | apply Kd.R_drewN | apply Kd.R_drew)); exact (Kd.R_mono (Kd.R_far (p := ⟨gb289, 1, none⟩) (Kd.R_far (p := ⟨gb289, 0, none⟩) (Kd.R_mono HO_11.out (fun k_ hk => (⟨hk, hk.2⟩ : _ ∧ k_ ≠ gb289))) (fun _ hk => hk.2) (.int .u64 (rd t271 x62_2))) (fun _ hk => hk.2) (.int .u64 t287)) (fun _ h_ => h_.1))) hb); replace HO_60 := ak_ (Kd.R_below (by (with_reducible repeat (first | apply Kd.R_alloc | apply Kd.R_drewN | apply Kd.R_drew)); exact (Kd.R_mono (Kd.R_far (p := ⟨gb289, 1, none⟩) (Kd.R_far (p := ⟨gb289, 0, none⟩) (Kd.R_types HO_60.out BK289.out (by decide)) (fun _ hk => hk.2) (.int .u64 (rd t271 x62_2))) (fun _ hk => hk.2) (.int .u64 t287)) (fun _ h_ => h_.1))) hb); replace HR285 := ak_ (Kd.C_below ((Kd.C_cutR (d := (Kd.int .u64)) (m := ((ji25) : Int).toNat) (c := co21) KA28.out Ny282.out (by (with_reducible repeat (first | apply Kd.R_alloc | apply Kd.R_drewN | apply Kd.R_drew)); exact (Kd.R_mono (Kd.R_far (p := ⟨gb289, 1, none⟩) (Kd.R_far (p := ⟨gb289, 0, none⟩) (Kd.R_types HO_10.out BK289.out (by decide)) (fun _ hk => hk.2) (.int .u64 (rd t271 x62_2))) (fun _ hk => hk.2) (.int .u64 t287)) (fun _ h_ => h_.1))) KL28.out)) hb); replace HO_10 := ak_ (Kd.R_below (by (with_reducible repeat (first | apply Kd.R_alloc | apply Kd.R_drewN | apply Kd.R_drew)); exact (Kd.R_mono (Kd.R_far (p := ⟨gb289, 1, none⟩) (Kd.R_far (p := ⟨gb289, 0, none⟩) (Kd.R_types HO_10.out BK289.out (by decide)) (fun _ hk => hk.2) (.int .u64 (rd t271 x62_2))) (fun _ hk => hk.2) (.int .u64 t287)) (fun _ h_ => h_.1))) hb); replace BK289 := ak_ (kb_ (g := gb289) (o := .cells #[.int .u64 (rd t271 x62_2), .int .u64 t287] 39 (0, 0)) (by (with_reducible repeat (first | refine kn_ ?_ _ | refine kd_ ?_ | refine ka_ ?_ _)); refine blk_put (cs := #[.int .u64 (rd t271 x62_2), .int .u64 0]) ?_ 1 _ rfl; (with_reducible repeat (first | refine kn_ ?_ _ | refine kd_ ?_ | refine ka_ ?_ _)); refine blk_put (cs := #[.int .u64 0, .int .u64 0]) ?_ 0 _ rfl; (with_reducible repeat (first | refine kn_ ?_ _ | refine kd_ ?_ | refine ka_ ?_ _)); exact BK289.out) hb); replace HB := ak_ (bt_ (by repeat (first | (with_reducible first | exact HB.out | apply ba_ | apply bn_ | apply bd_ | refine below_set ?_ GE289.out) | exact HB.out)) hb); (try clear hb); (try clear hk)))
                     go_roundg k3
                     case measure => have := HJ4.out; have := HK2.out; have := HK3.out; omega
                     case rel => exact ⟨(x11_3), (wrap64 (x72_3 + 1)), rf_, H', ⟨by have := HJ4.out; have := HK2.out; have := HK3.out; omega⟩, ⟨rl_ HO_10⟩, ⟨by (with_reducible repeat (first | apply Kd.R_alloc | apply Kd.R_drewN | apply Kd.R_drew)); exact Kd.R_mono HO_11.out (fun _ hk => trivial)⟩, ⟨rl_ HO_60⟩, ⟨by repeat (first | (with_reducible exact HR285.out) | (with_reducible refine Kd.C_alloc ?_ _) | (with_reducible refine Kd.C_drewN ?_ _) | (with_reducible refine Kd.C_drew ?_) | exact HR285.out)⟩, ⟨by repeat (first | (with_reducible first | exact HB.out | apply ba_ | apply bn_ | apply bd_ | refine below_set ?_ GE289.out) | exact HB.out)⟩⟩
                  ·rw [if_neg c31] at H
                   exact absurd H (by simp)
                 ·rw [if_neg c30] at H
                  exact absurd H (by simp)
                ·rw [if_neg c29] at H
                 have c29b0 := decide_eq_false c29
                 clear c29
                 have H' := ak_ H
                 clear H
                 go_wp2
                 go_roundg k3
                 case measure => have := HJ4.out; have := HK2.out; have := HK3.out; omega
                 case rel => exact ⟨(x11_3), (wrap64 (x62_2 + 1)), rf_, H', ⟨by have := HJ4.out; have := HK2.out; have := HK3.out; omega⟩, ⟨rl_ HO_10⟩, ⟨rl_ HO_11⟩, ⟨rl_ HO_60⟩, ⟨bl_ HB⟩⟩
             ·rw [if_neg c27] at H
              exact absurd H (by simp)
            ·rw [if_neg c26] at H
             exact absurd H (by simp)
           ·rw [if_neg c24] at H
            exact absurd H (by simp)
          ·rw [if_neg c23] at H
           exact absurd H (by simp)
         ·rw [if_neg c22] at H
          have c22b0 := decide_eq_false c22
          clear c22
          simp only [some.injEq, Prod.mk.injEq] at H
          obtain ⟨rfl, rfl⟩ := H
          go_wp2
          go_ret2
          exact ⟨_, by first | rfl | (simp <;> rfl) | (simp [*] <;> rfl), by (with_reducible repeat (first | apply Kd.R_alloc | apply Kd.R_drewN | apply Kd.R_drew)); exact HO_11.out, bl_ HB⟩
      ·rw [if_neg c18] at H
       exact absurd H (by simp)
def medlarref05_may.j0 : Nat → Int → Int → Bool → Int → Int → Int → Option (Bool)
  | 0, _, _, _, _, _, _ => none
  | k + 1, x1, x6, x22, x299000, x299001, x299002 => if x22 = true then (if x299001 ≥ 0 then (if x299001 < x1 then (some (x299002 == 0)) else (some false)) else (some false)) else (if x6 = 5 then (if x299001 ≥ 0 then (if x299001 < x1 then (if x299002 ≥ 0 then (some (decide (x299002 < x1))) else (some false)) else (some false)) else (some false)) else (some false))
def medlarref05_may.f (k : Nat) (a0_0 : Int) (a0_1 : Int) (a0_2 : Int) (a1 : Int) : Option (Bool) := if a0_0 = 1 then (if a0_1 ≥ 0 then (if a0_1 ≤ 1048576 then (some (a0_2 == 0)) else (some false)) else (some false)) else (if a0_0 = 2 then (medlarref05_may.j0 k a1 a0_0 (a0_0 == 2) a0_0 a0_1 a0_2) else (if a0_0 = 3 then (medlarref05_may.j0 k a1 a0_0 (a0_0 == 3) a0_0 a0_1 a0_2) else (medlarref05_may.j0 k a1 a0_0 (a0_0 == 4) a0_0 a0_1 a0_2)))
theorem medlarref05_may.mono_l : ∀ k, (∀ y0 y1 y2 y3 y4 y5, LeO (medlarref05_may.j0 k y0 y1 y2 y3 y4 y5) (medlarref05_may.j0 (k + 1) y0 y1 y2 y3 y4 y5))
  | 0 => fun _ _ _ _ _ _ r h => by simp [medlarref05_may.j0] at h
  | k + 1 => by
   have ih0 := medlarref05_may.mono_l k
   ·intro y0 y1 y2 y3 y4 y5
    unfold medlarref05_may.j0
    repeat' first
    | (with_reducible exact ih0 _ _ _ _ _ _)
    | (with_reducible exact LeO.refl _)
    | (with_reducible exact LeO.none _)
    | (with_reducible refine LeO.ite ?_ ?_)
    | (with_reducible refine LeO.bind ?_ (fun _ => ?_))
    | exact ih0 _ _ _ _ _ _
    | exact LeO.none _
    | refine LeO.ite ?_ ?_
    | refine LeO.bind ?_ (fun _ => ?_)
theorem medlarref05_may.mono : ∀ a0 a1 a2 a3 k, LeO (medlarref05_may.f k a0 a1 a2 a3) (medlarref05_may.f (k + 1) a0 a1 a2 a3) := by
  intro a0 a1 a2 a3 k
  have ih0 := medlarref05_may.mono_l k
  unfold medlarref05_may.f
  repeat' first
    | (with_reducible exact ih0 _ _ _ _ _ _)
    | (with_reducible exact LeO.refl _)
    | (with_reducible exact LeO.none _)
    | (with_reducible refine LeO.ite ?_ ?_)
    | (with_reducible refine LeO.bind ?_ (fun _ => ?_))
    | exact ih0 _ _ _ _ _ _
    | exact LeO.none _
    | refine LeO.ite ?_ ?_
    | refine LeO.bind ?_ (fun _ => ?_)
set_option maxHeartbeats 8000000 in
set_option maxRecDepth 100000 in
theorem medlarref05_may.calls (k : Nat) (a0_0 : Int) (a0_1 : Int) (a0_2 : Int) (a1 : Int) (r : Bool) (w : World) (h : medlarref05_may.f k a0_0 a0_1 a0_2 a1 = some r) :
   Calls Try.prog 133 #[.agg #[.int .i64 a0_0, .int .i64 a0_1, .int .i64 a0_2], .int .i64 a1] w fun e w' => e = .returned (.bool r) ∧ Below w.heap.size w w' := by
  have hu75 := underlying75
  have HB := ak_ (Below.refl w.heap.size w)
  have H : (if a0_0 = 1 then (if a0_1 ≥ 0 then (if a0_1 ≤ 1048576 then (some (a0_2 == 0)) else (some false)) else (some false)) else (if a0_0 = 2 then (medlarref05_may.j0 k a1 a0_0 (a0_0 == 2) a0_0 a0_1 a0_2) else (if a0_0 = 3 then (medlarref05_may.j0 k a1 a0_0 (a0_0 == 3) a0_0 a0_1 a0_2) else (medlarref05_may.j0 k a1 a0_0 (a0_0 == 4) a0_0 a0_1 a0_2)))) = some r := h
  clear h
  by_cases c3 : a0_0 = 1
  ·rw [if_pos c3] at H
   have c3b0 : (a0_0 == 1) = true := beq_iff_eq.mpr c3
   have c3b1 : (a0_0 != 1) = false := bne_eq_false_iff_eq.mpr c3
   clear c3
   by_cases c4 : a0_1 ≥ 0
   ·rw [if_pos c4] at H
    have c4b0 : decide (0 ≤ a0_1) = true := decide_eq_true c4
    clear c4
    by_cases c5 : a0_1 ≤ 1048576
    ·rw [if_pos c5] at H
     have c5b0 := decide_eq_true c5
     clear c5
     obtain rfl := Option.some.inj H
     go_enter func133, ntmps133
     go_wp2_with (first | ((with_reducible refine gate_dst (N := 2) rfl ?_); refine bx_ 2 #[.int .i64 a0_0, .int .i64 a0_1, .int .i64 a0_2] 75 ?_; intro gb298 hg w6 hbox hb; have BK298 := ak_ hbox; have GW298 := ak_ (gs_ hg HB); have GE298 := ak_ (gs_ hg HB); replace HB := ak_ (bt_ (bl_ HB) hb); clear hb hbox hg; have hcz7_0 := kq_ BK298.out 0 rfl; have hcz7_1 := kq_ BK298.out 1 rfl; have hcz7_2 := kq_ BK298.out 2 rfl; have hfz7_0 := kf_ BK298.out 0; have hfz7_1 := kf_ BK298.out 1; have hfz7_2 := kf_ BK298.out 2))
     go_ret
     exact ea_ (by repeat (first | (with_reducible first | exact HB.out | apply ba_ | apply bn_ | apply bd_ | refine below_set ?_ GE298.out) | exact HB.out))
    ·rw [if_neg c5] at H
     have c5b0 := decide_eq_false c5
     clear c5
     obtain rfl := Option.some.inj H
     go_enter func133, ntmps133
     go_wp2_with (first | ((with_reducible refine gate_dst (N := 2) rfl ?_); refine bx_ 2 #[.int .i64 a0_0, .int .i64 a0_1, .int .i64 a0_2] 75 ?_; intro gb298 hg w8 hbox hb; have BK298 := ak_ hbox; have GW298 := ak_ (gs_ hg HB); have GE298 := ak_ (gs_ hg HB); replace HB := ak_ (bt_ (bl_ HB) hb); clear hb hbox hg; have hcz9_0 := kq_ BK298.out 0 rfl; have hcz9_1 := kq_ BK298.out 1 rfl; have hcz9_2 := kq_ BK298.out 2 rfl; have hfz9_0 := kf_ BK298.out 0; have hfz9_1 := kf_ BK298.out 1; have hfz9_2 := kf_ BK298.out 2))
     go_ret
     exact ea_ (by repeat (first | (with_reducible first | exact HB.out | apply ba_ | apply bn_ | apply bd_ | refine below_set ?_ GE298.out) | exact HB.out))
   ·rw [if_neg c4] at H
    have c4b0 : decide (0 ≤ a0_1) = false := decide_eq_false c4
    clear c4
    obtain rfl := Option.some.inj H
    go_enter func133, ntmps133
    go_wp2_with (first | ((with_reducible refine gate_dst (N := 2) rfl ?_); refine bx_ 2 #[.int .i64 a0_0, .int .i64 a0_1, .int .i64 a0_2] 75 ?_; intro gb298 hg w10 hbox hb; have BK298 := ak_ hbox; have GW298 := ak_ (gs_ hg HB); have GE298 := ak_ (gs_ hg HB); replace HB := ak_ (bt_ (bl_ HB) hb); clear hb hbox hg; have hcz11_0 := kq_ BK298.out 0 rfl; have hcz11_1 := kq_ BK298.out 1 rfl; have hcz11_2 := kq_ BK298.out 2 rfl; have hfz11_0 := kf_ BK298.out 0; have hfz11_1 := kf_ BK298.out 1; have hfz11_2 := kf_ BK298.out 2))
    go_ret
    exact ea_ (by repeat (first | (with_reducible first | exact HB.out | apply ba_ | apply bn_ | apply bd_ | refine below_set ?_ GE298.out) | exact HB.out))
  ·rw [if_neg c3] at H
   have c3b0 : (a0_0 == 1) = false := beq_eq_false_iff_ne.mpr c3
   have c3b1 : (a0_0 != 1) = true := bne_iff_ne.mpr c3
   have HC12 := ak_ H
   clear H
   go_enter func133, ntmps133
   go_upto_if 22 with (first | ((with_reducible refine gate_dst (N := 2) rfl ?_); refine bx_ 2 #[.int .i64 a0_0, .int .i64 a0_1, .int .i64 a0_2] 75 ?_; intro gb298 hg w13 hbox hb; have BK298 := ak_ hbox; have GW298 := ak_ (gs_ hg HB); have GE298 := ak_ (gs_ hg HB); replace HB := ak_ (bt_ (bl_ HB) hb); clear hb hbox hg; have hcz14_0 := kq_ BK298.out 0 rfl; have hcz14_1 := kq_ BK298.out 1 rfl; have hcz14_2 := kq_ BK298.out 2 rfl; have hfz14_0 := kf_ BK298.out 0; have hfz14_1 := kf_ BK298.out 1; have hfz14_2 := kf_ BK298.out 2))
   (try simp only [Act.put, setIfInBounds_toArray, set_cons_zero, set_cons_succ])
   go_cut [22] (fun v22 wc => ∃ (kq : Nat) (x22_11 : Bool), v22 = .bool x22_11 ∧ Aside0 (medlarref05_may.j0 kq a1 a0_0 x22_11 a0_0 a0_1 a0_2 = some r) ∧ Aside0 (kq ≤ k) ∧ Aside0 (wc.heap[gb298]? = some (.cells #[.int .i64 a0_0, .int .i64 a0_1, .int .i64 a0_2] 75 (0, 0))) ∧ Aside0 (Below w.heap.size w wc))
   case first =>
    have H := HC12.out
    clear HC12
    by_cases c15 : a0_0 = 2
    ·rw [if_pos c15] at H
     have c15b0 : (a0_0 == 2) = true := beq_iff_eq.mpr c15
     have c15b1 : (a0_0 != 2) = false := bne_eq_false_iff_eq.mpr c15
     clear c15
     (first | rw [c15b0] | (simp only [i64_w, i32_w]; rw [c15b0]) | skip)
     have H' := ak_ H
     clear H
     go_wp2
     go_meet
     case rel => exact ⟨_, ((a0_0 == 2)), rf_, H', ⟨by first | omega | exact Nat.le_refl _⟩, ⟨kl_ BK298⟩, ⟨by repeat (first | (with_reducible first | exact HB.out | apply ba_ | apply bn_ | apply bd_ | refine below_set ?_ GE298.out) | exact HB.out)⟩⟩
    ·rw [if_neg c15] at H
     have c15b0 : (a0_0 == 2) = false := beq_eq_false_iff_ne.mpr c15
     have c15b1 : (a0_0 != 2) = true := bne_iff_ne.mpr c15
     (first | rw [c15b0] | (simp only [i64_w, i32_w]; rw [c15b0]) | skip)
     by_cases c16 : a0_0 = 3
     ·rw [if_pos c16] at H
      have c16b0 : (a0_0 == 3) = true := beq_iff_eq.mpr c16
      have c16b1 : (a0_0 != 3) = false := bne_eq_false_iff_eq.mpr c16
      clear c16
      have H' := ak_ H
      clear H
      go_wp2
      go_meet
      case rel => exact ⟨_, ((a0_0 == 3)), rf_, H', ⟨by first | omega | exact Nat.le_refl _⟩, ⟨kl_ BK298⟩, ⟨by repeat (first | (with_reducible first | exact HB.out | apply ba_ | apply bn_ | apply bd_ | refine below_set ?_ GE298.out) | exact HB.out)⟩⟩
     ·rw [if_neg c16] at H
      have c16b0 : (a0_0 == 3) = false := beq_eq_false_iff_ne.mpr c16
      have c16b1 : (a0_0 != 3) = true := bne_iff_ne.mpr c16
      have H' := ak_ H
      clear H
      go_wp2
      go_meet
      case rel => exact ⟨_, ((a0_0 == 4)), rf_, H', ⟨by first | omega | exact Nat.le_refl _⟩, ⟨kl_ BK298⟩, ⟨by repeat (first | (with_reducible first | exact HB.out | apply ba_ | apply bn_ | apply bd_ | refine below_set ?_ GE298.out) | exact HB.out)⟩⟩
   case rest =>
    clear HC12
    try clear c1
    try clear p2
    try clear c3
    try clear c3b0
    try clear c3b1
    try clear c4
    try clear c4b0
    try clear c5
    try clear c5b0
    try clear c13
    try clear c15
    try clear c15b0
    try clear c15b1
    try clear c16
    try clear c16b0
    try clear c16b1
    try clear hcz11_0
    try clear hcz11_1
    try clear hcz11_2
    try clear hcz14_0
    try clear hcz14_1
    try clear hcz14_2
    try clear hcz7_0
    try clear hcz7_1
    try clear hcz7_2
    try clear hcz9_0
    try clear hcz9_1
    try clear hcz9_2
    try clear hfz11_0
    try clear hfz11_1
    try clear hfz11_2
    try clear hfz14_0
    try clear hfz14_1
    try clear hfz14_2
    try clear hfz7_0
    try clear hfz7_1
    try clear hfz7_2
    try clear hfz9_0
    try clear hfz9_1
    try clear hfz9_2
    obtain ⟨kq, x22_11, rfl, HA, HJ11, BK298, HB⟩ := hcut
    cases kq with
    | zero => exact absurd HA.out (by simp [medlarref05_may.j0])
    | succ kj11 =>
     have H := HA.out
     clear HA
     simp only [medlarref05_may.j0] at H
     by_cases c17 : x22_11 = true
     ·subst c17
      have H1 : (if a0_1 ≥ 0 then (if a0_1 < a1 then (some (a0_2 == 0)) else (some false)) else (some false)) = some r := by rw [if_pos rfl] at H; exact H
      clear H
      have H := H1
      clear H1
      by_cases c18 : a0_1 ≥ 0
      ·rw [if_pos c18] at H
       have c18b0 : decide (0 ≤ a0_1) = true := decide_eq_true c18
       clear c18
       by_cases c19 : a0_1 < a1
       ·rw [if_pos c19] at H
        have c19b0 := decide_eq_true c19
        clear c19
        obtain rfl := Option.some.inj H
        have hcz20_0 := kq_ BK298.out 0 rfl
        have hcz20_1 := kq_ BK298.out 1 rfl
        have hcz20_2 := kq_ BK298.out 2 rfl
        have hfz20_0 := kf_ BK298.out 0
        have hfz20_1 := kf_ BK298.out 1
        have hfz20_2 := kf_ BK298.out 2
        go_wp2
        go_ret
        exact ea_ (by repeat (first | (with_reducible first | exact HB.out | apply ba_ | apply bn_ | apply bd_ | refine below_set ?_ GE298.out) | exact HB.out))
       ·rw [if_neg c19] at H
        have c19b0 := decide_eq_false c19
        clear c19
        obtain rfl := Option.some.inj H
        have hcz21_0 := kq_ BK298.out 0 rfl
        have hcz21_1 := kq_ BK298.out 1 rfl
        have hcz21_2 := kq_ BK298.out 2 rfl
        have hfz21_0 := kf_ BK298.out 0
        have hfz21_1 := kf_ BK298.out 1
        have hfz21_2 := kf_ BK298.out 2
        go_wp2
        go_ret
        exact ea_ (by repeat (first | (with_reducible first | exact HB.out | apply ba_ | apply bn_ | apply bd_ | refine below_set ?_ GE298.out) | exact HB.out))
      ·rw [if_neg c18] at H
       have c18b0 : decide (0 ≤ a0_1) = false := decide_eq_false c18
       clear c18
       obtain rfl := Option.some.inj H
       have hcz22_0 := kq_ BK298.out 0 rfl
       have hcz22_1 := kq_ BK298.out 1 rfl
       have hcz22_2 := kq_ BK298.out 2 rfl
       have hfz22_0 := kf_ BK298.out 0
       have hfz22_1 := kf_ BK298.out 1
       have hfz22_2 := kf_ BK298.out 2
       go_wp2
       go_ret
       exact ea_ (by repeat (first | (with_reducible first | exact HB.out | apply ba_ | apply bn_ | apply bd_ | refine below_set ?_ GE298.out) | exact HB.out))
     ·replace c17 := Bool.eq_false_iff.mpr c17
      subst c17
      have H1 : (if a0_0 = 5 then (if a0_1 ≥ 0 then (if a0_1 < a1 then (if a0_2 ≥ 0 then (some (decide (a0_2 < a1))) else (some false)) else (some false)) else (some false)) else (some false)) = some r := by rw [if_neg (show ¬ (false = true) by decide)] at H; exact H
      clear H
      have H := H1
      clear H1
      by_cases c23 : a0_0 = 5
      ·rw [if_pos c23] at H
       have c23b0 : (a0_0 == 5) = true := beq_iff_eq.mpr c23
       have c23b1 : (a0_0 != 5) = false := bne_eq_false_iff_eq.mpr c23
       clear c23
       by_cases c24 : a0_1 ≥ 0
       ·rw [if_pos c24] at H
        have c24b0 : decide (0 ≤ a0_1) = true := decide_eq_true c24
        clear c24
        by_cases c25 : a0_1 < a1
        ·rw [if_pos c25] at H
         have c25b0 := decide_eq_true c25
         clear c25
         by_cases c26 : a0_2 ≥ 0
         ·rw [if_pos c26] at H
          have c26b0 : decide (0 ≤ a0_2) = true := decide_eq_true c26
          clear c26
          obtain rfl := Option.some.inj H
          have hcz27_0 := kq_ BK298.out 0 rfl
          have hcz27_1 := kq_ BK298.out 1 rfl
          have hcz27_2 := kq_ BK298.out 2 rfl
          have hfz27_0 := kf_ BK298.out 0
          have hfz27_1 := kf_ BK298.out 1
          have hfz27_2 := kf_ BK298.out 2
          go_wp2
          go_ret
          exact ea_ (by repeat (first | (with_reducible first | exact HB.out | apply ba_ | apply bn_ | apply bd_ | refine below_set ?_ GE298.out) | exact HB.out))
         ·rw [if_neg c26] at H
          have c26b0 : decide (0 ≤ a0_2) = false := decide_eq_false c26
          clear c26
          obtain rfl := Option.some.inj H
          have hcz28_0 := kq_ BK298.out 0 rfl
          have hcz28_1 := kq_ BK298.out 1 rfl
          have hcz28_2 := kq_ BK298.out 2 rfl
          have hfz28_0 := kf_ BK298.out 0
          have hfz28_1 := kf_ BK298.out 1
          have hfz28_2 := kf_ BK298.out 2
          go_wp2
          go_ret
          exact ea_ (by repeat (first | (with_reducible first | exact HB.out | apply ba_ | apply bn_ | apply bd_ | refine below_set ?_ GE298.out) | exact HB.out))
        ·rw [if_neg c25] at H
         have c25b0 := decide_eq_false c25
         clear c25
         obtain rfl := Option.some.inj H
         have hcz29_0 := kq_ BK298.out 0 rfl
         have hcz29_1 := kq_ BK298.out 1 rfl
         have hcz29_2 := kq_ BK298.out 2 rfl
         have hfz29_0 := kf_ BK298.out 0
         have hfz29_1 := kf_ BK298.out 1
         have hfz29_2 := kf_ BK298.out 2
         go_wp2
         go_ret
         exact ea_ (by repeat (first | (with_reducible first | exact HB.out | apply ba_ | apply bn_ | apply bd_ | refine below_set ?_ GE298.out) | exact HB.out))
       ·rw [if_neg c24] at H
        have c24b0 : decide (0 ≤ a0_1) = false := decide_eq_false c24
        clear c24
        obtain rfl := Option.some.inj H
        have hcz30_0 := kq_ BK298.out 0 rfl
        have hcz30_1 := kq_ BK298.out 1 rfl
        have hcz30_2 := kq_ BK298.out 2 rfl
        have hfz30_0 := kf_ BK298.out 0
        have hfz30_1 := kf_ BK298.out 1
        have hfz30_2 := kf_ BK298.out 2
        go_wp2
        go_ret
        exact ea_ (by repeat (first | (with_reducible first | exact HB.out | apply ba_ | apply bn_ | apply bd_ | refine below_set ?_ GE298.out) | exact HB.out))
      ·rw [if_neg c23] at H
       have c23b0 : (a0_0 == 5) = false := beq_eq_false_iff_ne.mpr c23
       have c23b1 : (a0_0 != 5) = true := bne_iff_ne.mpr c23
       obtain rfl := Option.some.inj H
       go_wp2
       go_ret
       exact ea_ (by repeat (first | (with_reducible first | exact HB.out | apply ba_ | apply bn_ | apply bd_ | refine below_set ?_ GE298.out) | exact HB.out))
def medlarref05_place.l0 : Nat → List (S75) → Int → Int → Int → Int → Int → Option (Int)
  | 0, _, _, _, _, _, _ => none
  | k + 1, x7, x8, x9, x300000, x300001, x300002 => if x9 < x8 then (if 0 ≤ x9 then (if x9 < (x7.length : Int) then (if (((rd_T75 x7 x9).f0) == x300000 && (((rd_T75 x7 x9).f1) == x300001 && (((rd_T75 x7 x9).f2) == x300002))) = true then (some x9) else (medlarref05_place.l0 k x7 x8 (wrap64 (x9 + 1)) x300000 x300001 x300002)) else (none)) else (none)) else (some (-1))
def medlarref05_place.f (k : Nat) (l0 : List (S75)) (a1_0 : Int) (a1_1 : Int) (a1_2 : Int) : Option (Int) := medlarref05_place.l0 k l0 (l0.length : Int) 0 a1_0 a1_1 a1_2
theorem medlarref05_place.mono_l : ∀ k, (∀ y0 y1 y2 y3 y4 y5, LeO (medlarref05_place.l0 k y0 y1 y2 y3 y4 y5) (medlarref05_place.l0 (k + 1) y0 y1 y2 y3 y4 y5))
  | 0 => fun _ _ _ _ _ _ r h => by simp [medlarref05_place.l0] at h
  | k + 1 => by
   have ih0 := medlarref05_place.mono_l k
   ·intro y0 y1 y2 y3 y4 y5
    unfold medlarref05_place.l0
    repeat' first
    | (with_reducible exact ih0 _ _ _ _ _ _)
    | (with_reducible exact LeO.refl _)
    | (with_reducible exact LeO.none _)
    | (with_reducible refine LeO.ite ?_ ?_)
    | (with_reducible refine LeO.bind ?_ (fun _ => ?_))
    | exact ih0 _ _ _ _ _ _
    | exact LeO.none _
    | refine LeO.ite ?_ ?_
    | refine LeO.bind ?_ (fun _ => ?_)
theorem medlarref05_place.mono : ∀ a0 a1 a2 a3 k, LeO (medlarref05_place.f k a0 a1 a2 a3) (medlarref05_place.f (k + 1) a0 a1 a2 a3) := by
  intro a0 a1 a2 a3 k
  have ih0 := medlarref05_place.mono_l k
  unfold medlarref05_place.f
  repeat' first
    | (with_reducible exact ih0 _ _ _ _ _ _)
    | (with_reducible exact LeO.refl _)
    | (with_reducible exact LeO.none _)
    | (with_reducible refine LeO.ite ?_ ?_)
    | (with_reducible refine LeO.bind ?_ (fun _ => ?_))
    | exact ih0 _ _ _ _ _ _
    | exact LeO.none _
    | refine LeO.ite ?_ ?_
    | refine LeO.bind ?_ (fun _ => ?_)
set_option maxHeartbeats 8000000 in
set_option maxRecDepth 100000 in
theorem medlarref05_place.calls (k : Nat) (A0 : Option Addr) (c0 : Nat) (l0 : List (S75)) (a1_0 : Int) (a1_1 : Int) (a1_2 : Int) (r : Int) (w : World) (hr0 : Kd.C k75 w A0 l0.length l0) (hc0 : l0.length ≤ c0) (h : medlarref05_place.f k l0 a1_0 a1_1 a1_2 = some r) :
   Calls Try.prog 134 #[.slice A0 l0.length c0, .agg #[.int .i64 a1_0, .int .i64 a1_1, .int .i64 a1_2]] w fun e w' => e = .returned (.int .i64 r) ∧ Below w.heap.size w w' := by
  have hu75 := underlying75
  have HR0 := ak_ hr0
  have HC0 := ak_ hc0
  clear hr0 hc0
  have HB := ak_ (Below.refl w.heap.size w)
  have H : (medlarref05_place.l0 k l0 (l0.length : Int) 0 a1_0 a1_1 a1_2) = some r := h
  clear h
  have H' := ak_ H
  clear H
  go_enter func134, ntmps134
  go_wp2_with (first | ((with_reducible refine gate_dst (N := 3) rfl ?_); refine bx_ 3 #[.int .i64 a1_0, .int .i64 a1_1, .int .i64 a1_2] 75 ?_; intro gb299 hg w3 hbox hb; have BK299 := ak_ hbox; have GW299 := ak_ (gs_ hg HB); have GE299 := ak_ (gs_ hg HB); replace HB := ak_ (bt_ (bl_ HB) hb); clear hb hbox hg))
  go_loopg [9] k (fun kq v9 w' => ∃ (x9_1 : Int), v9 = .int .i64 x9_1 ∧ Aside0 (medlarref05_place.l0 kq l0 (l0.length : Int) x9_1 a1_0 a1_1 a1_2 = some r) ∧ Aside0 (kq ≤ k) ∧ Aside0 (w'.heap[gb299]? = some (.cells #[.int .i64 a1_0, .int .i64 a1_1, .int .i64 a1_2] 75 (0, 0))) ∧ Aside0 (Below w.heap.size w w'))
  case atStart => exact ⟨(0), rf_, H', ⟨Nat.le_refl _⟩, ⟨kl_ BK299⟩, ⟨by repeat (first | (with_reducible first | exact HB.out | apply ba_ | apply bn_ | apply bd_ | refine below_set ?_ GE299.out) | exact HB.out)⟩⟩
  case round =>
   clear H'
   try clear c1
   try clear p2
   obtain ⟨x9_1, rfl, HA, HK1, BK299, HB⟩ := hrel
   cases gk with
   | zero => exact absurd HA.out (by simp [medlarref05_place.l0])
   | succ k1 =>
    have H := HA.out
    clear HA
    simp only [medlarref05_place.l0] at H
    by_cases c4 : x9_1 < (l0.length : Int)
    ·rw [if_pos c4] at H
     have c4b0 := decide_eq_true c4
     clear c4
     by_cases c5 : 0 ≤ x9_1
     ·rw [if_pos c5] at H
      have c5b0 := decide_eq_true c5
      clear c5
      by_cases c6 : x9_1 < (l0.length : Int)
      ·rw [if_pos c6] at H
       have c6b0 := decide_eq_true c6
       clear c6
       by_cases c7 : (((rd_T75 l0 x9_1).f0) == a1_0 && (((rd_T75 l0 x9_1).f1) == a1_1 && (((rd_T75 l0 x9_1).f2) == a1_2))) = true
       ·rw [if_pos c7] at H
        have c7b0 : (((rd_T75 l0 x9_1).f0) == a1_0 && (((rd_T75 l0 x9_1).f1) == a1_1 && (((rd_T75 l0 x9_1).f2) == a1_2))) = true := c7
        (try (have c7b1 : decide (((rd_T75 l0 x9_1).f0) = a1_0 && (((rd_T75 l0 x9_1).f1) == a1_1 && (((rd_T75 l0 x9_1).f2) == a1_2))) = true := by simpa using c7))
        (try (have c7b2 : (((rd_T75 l0 x9_1).f0) == a1_0 && (((rd_T75 l0 x9_1).f1) == a1_1 && (((rd_T75 l0 x9_1).f2) == a1_2))) = true := by simpa using c7))
        clear c7
        obtain rfl := Option.some.inj H
        have p300 : 0 ≤ (x9_1 : Int) := od_ (by first | (with_reducible assumption) | assumption)
        have q300 : x9_1 < (l0.length : Int) := od_ (by first | (with_reducible assumption) | assumption)
        obtain ⟨ad300, e300, hx300_0, hx300_1, hx300_2⟩ := at_T75 HR0.out x9_1 p300 q300
        cases e300
        replace hx300_0 := cx_ HB hx300_0
        replace hx300_1 := cx_ HB hx300_1
        replace hx300_2 := cx_ HB hx300_2
        replace p300 := eq_true p300
        replace q300 := eq_true q300
        go_wp2_with (first | ((with_reducible refine gate_dst (N := 6) rfl ?_); refine bx_ 6 #[.int .i64 0, .int .i64 0, .int .i64 0] 75 ?_; intro gb301 hg w8 hbox hb; have BK301 := ak_ hbox; have GW301 := ak_ (by rw [hg]; exact (bz_ (by repeat (first | (with_reducible first | exact HB.out | apply ba_ | apply bn_ | apply bd_ | refine below_set ?_ GE299.out) | exact HB.out))) : w.heap.size ≤ gb301); have GE301 := ak_ (by rw [hg]; exact (bz_ (by repeat (first | (with_reducible first | exact HB.out | apply ba_ | apply bn_ | apply bd_ | refine below_set ?_ GE299.out) | exact HB.out))) : w.heap.size ≤ gb301); replace HB := ak_ (bt_ (by repeat (first | (with_reducible first | exact HB.out | apply ba_ | apply bn_ | apply bd_ | refine below_set ?_ GE299.out) | exact HB.out)) hb); have NB299_301 := ak_ (by rw [hg]; exact Nat.ne_of_lt (blk_lt (g := gb299) (o := .cells #[.int .i64 a1_0, .int .i64 a1_1, .int .i64 a1_2] 75 (0, 0)) (kl_ BK299)) : gb299 ≠ gb301); have NB301_299 := ak_ (by rw [hg]; exact Nat.ne_of_gt (blk_lt (g := gb299) (o := .cells #[.int .i64 a1_0, .int .i64 a1_1, .int .i64 a1_2] 75 (0, 0)) (kl_ BK299)) : gb301 ≠ gb299); replace BK299 := ak_ (kb_ (g := gb299) (o := .cells #[.int .i64 a1_0, .int .i64 a1_1, .int .i64 a1_2] 75 (0, 0)) (kl_ BK299) hb); clear hb hbox hg; have hnb9 := NB301_299.out; have hnc9 := NB299_301.out; have hcz10_0 := kq_ BK301.out 0 rfl; have hcz10_1 := kq_ BK301.out 1 rfl; have hcz10_2 := kq_ BK301.out 2 rfl; have hfz10_0 := kf_ BK301.out 0; have hfz10_1 := kf_ BK301.out 1; have hfz10_2 := kf_ BK301.out 2; have hcz11_0 := kq_ BK299.out 0 rfl; have hcz11_1 := kq_ BK299.out 1 rfl; have hcz11_2 := kq_ BK299.out 2 rfl; have hfz11_0 := kf_ BK299.out 0; have hfz11_1 := kf_ BK299.out 1; have hfz11_2 := kf_ BK299.out 2))
        go_ret
        exact ea_ (by repeat (first | (with_reducible first | exact HB.out | apply ba_ | apply bn_ | apply bd_ | refine below_set ?_ GE299.out | refine below_set ?_ GE301.out) | exact HB.out))
       ·rw [if_neg c7] at H
        have c7b0 : (((rd_T75 l0 x9_1).f0) == a1_0 && (((rd_T75 l0 x9_1).f1) == a1_1 && (((rd_T75 l0 x9_1).f2) == a1_2))) = false := by simpa using c7
        (try (have c7b1 : decide (((rd_T75 l0 x9_1).f0) = a1_0 && (((rd_T75 l0 x9_1).f1) == a1_1 && (((rd_T75 l0 x9_1).f2) == a1_2))) = false := by simpa using c7))
        (try (have c7b2 : (((rd_T75 l0 x9_1).f0) == a1_0 && (((rd_T75 l0 x9_1).f1) == a1_1 && (((rd_T75 l0 x9_1).f2) == a1_2))) = false := by simpa using c7))
        (try (have c7b3 : ¬ (((rd_T75 l0 x9_1).f0) = a1_0 && (((rd_T75 l0 x9_1).f1) == a1_1 && (((rd_T75 l0 x9_1).f2) == a1_2))) := by simpa using c7))
        clear c7
        have H' := ak_ H
        clear H
        have p300 : 0 ≤ (x9_1 : Int) := od_ (by first | (with_reducible assumption) | assumption)
        have q300 : x9_1 < (l0.length : Int) := od_ (by first | (with_reducible assumption) | assumption)
        obtain ⟨ad300, e300, hx300_0, hx300_1, hx300_2⟩ := at_T75 HR0.out x9_1 p300 q300
        cases e300
        replace hx300_0 := cx_ HB hx300_0
        replace hx300_1 := cx_ HB hx300_1
        replace hx300_2 := cx_ HB hx300_2
        replace p300 := eq_true p300
        replace q300 := eq_true q300
        go_wp2_with (first | ((with_reducible refine gate_dst (N := 6) rfl ?_); refine bx_ 6 #[.int .i64 0, .int .i64 0, .int .i64 0] 75 ?_; intro gb301 hg w12 hbox hb; have BK301 := ak_ hbox; have GW301 := ak_ (by rw [hg]; exact (bz_ (by repeat (first | (with_reducible first | exact HB.out | apply ba_ | apply bn_ | apply bd_ | refine below_set ?_ GE299.out) | exact HB.out))) : w.heap.size ≤ gb301); have GE301 := ak_ (by rw [hg]; exact (bz_ (by repeat (first | (with_reducible first | exact HB.out | apply ba_ | apply bn_ | apply bd_ | refine below_set ?_ GE299.out) | exact HB.out))) : w.heap.size ≤ gb301); replace HB := ak_ (bt_ (by repeat (first | (with_reducible first | exact HB.out | apply ba_ | apply bn_ | apply bd_ | refine below_set ?_ GE299.out) | exact HB.out)) hb); have NB299_301 := ak_ (by rw [hg]; exact Nat.ne_of_lt (blk_lt (g := gb299) (o := .cells #[.int .i64 a1_0, .int .i64 a1_1, .int .i64 a1_2] 75 (0, 0)) (kl_ BK299)) : gb299 ≠ gb301); have NB301_299 := ak_ (by rw [hg]; exact Nat.ne_of_gt (blk_lt (g := gb299) (o := .cells #[.int .i64 a1_0, .int .i64 a1_1, .int .i64 a1_2] 75 (0, 0)) (kl_ BK299)) : gb301 ≠ gb299); replace BK299 := ak_ (kb_ (g := gb299) (o := .cells #[.int .i64 a1_0, .int .i64 a1_1, .int .i64 a1_2] 75 (0, 0)) (kl_ BK299) hb); clear hb hbox hg; have hnb13 := NB301_299.out; have hnc13 := NB299_301.out; have hcz14_0 := kq_ BK301.out 0 rfl; have hcz14_1 := kq_ BK301.out 1 rfl; have hcz14_2 := kq_ BK301.out 2 rfl; have hfz14_0 := kf_ BK301.out 0; have hfz14_1 := kf_ BK301.out 1; have hfz14_2 := kf_ BK301.out 2; have hcz15_0 := kq_ BK299.out 0 rfl; have hcz15_1 := kq_ BK299.out 1 rfl; have hcz15_2 := kq_ BK299.out 2 rfl; have hfz15_0 := kf_ BK299.out 0; have hfz15_1 := kf_ BK299.out 1; have hfz15_2 := kf_ BK299.out 2))
        go_roundg k1
        case measure => have := HK1.out; omega
        case rel => exact ⟨(wrap64 (x9_1 + 1)), rf_, H', ⟨by have := HK1.out; omega⟩, ⟨by (with_reducible repeat (first | refine kn_ ?_ _ | refine kd_ ?_ | refine ka_ ?_ _)); refine blk_far ?_ NB299_301.out _; (with_reducible repeat (first | refine kn_ ?_ _ | refine kd_ ?_ | refine ka_ ?_ _)); refine blk_far ?_ NB299_301.out _; (with_reducible repeat (first | refine kn_ ?_ _ | refine kd_ ?_ | refine ka_ ?_ _)); refine blk_far ?_ NB299_301.out _; (with_reducible repeat (first | refine kn_ ?_ _ | refine kd_ ?_ | refine ka_ ?_ _)); exact BK299.out⟩, ⟨by repeat (first | (with_reducible first | exact HB.out | apply ba_ | apply bn_ | apply bd_ | refine below_set ?_ GE299.out | refine below_set ?_ GE301.out) | exact HB.out)⟩⟩
      ·rw [if_neg c6] at H
       exact absurd H (by simp)
     ·rw [if_neg c5] at H
      exact absurd H (by simp)
    ·rw [if_neg c4] at H
     have c4b0 := decide_eq_false c4
     clear c4
     obtain rfl := Option.some.inj H
     go_wp2
     go_ret
     exact ea_ (by repeat (first | (with_reducible first | exact HB.out | apply ba_ | apply bn_ | apply bd_ | refine below_set ?_ GE299.out) | exact HB.out))
def medlarref05_Check.l0 : Nat → List (S75) → List (S75) → Int → Int → Option (Int)
  | 0, _, _, _, _ => none
  | k + 1, x0, x8, x9, x10 => if x10 < x9 then (if 0 ≤ x10 then (if x10 < (x8.length : Int) then ((medlarref05_may.f k ((rd_T75 x8 x10).f0) ((rd_T75 x8 x10).f1) ((rd_T75 x8 x10).f2) x10).bind fun t304 => (if t304 = true then (if x10 ≤ (x0.length : Int) then ((medlarref05_place.f k (x0.take (x10 : Int).toNat) ((rd_T75 x8 x10).f0) ((rd_T75 x8 x10).f1) ((rd_T75 x8 x10).f2)).bind fun t309 => (if t309 ≥ 0 then (some 1) else (medlarref05_Check.l0 k x0 x8 x9 (wrap64 (x10 + 1))))) else (none)) else (some 1))) else (none)) else (none)) else (some 0)
def medlarref05_Check.f (k : Nat) (l0 : List (S75)) : Option (Int) := if (l0.length : Int) > 65536 then (some 1) else (medlarref05_Check.l0 k l0 l0 (l0.length : Int) 0)
theorem medlarref05_Check.mono_l : ∀ k, (∀ y0 y1 y2 y3, LeO (medlarref05_Check.l0 k y0 y1 y2 y3) (medlarref05_Check.l0 (k + 1) y0 y1 y2 y3))
  | 0 => fun _ _ _ _ r h => by simp [medlarref05_Check.l0] at h
  | k + 1 => by
   have ih0 := medlarref05_Check.mono_l k
   ·intro y0 y1 y2 y3
    unfold medlarref05_Check.l0
    repeat' first
    | (with_reducible exact ih0 _ _ _ _)
    | (with_reducible exact medlarref05_may.mono _ _ _ _ _)
    | (with_reducible exact medlarref05_place.mono _ _ _ _ _)
    | (with_reducible exact LeO.refl _)
    | (with_reducible exact LeO.none _)
    | (with_reducible refine LeO.ite ?_ ?_)
    | (with_reducible refine LeO.bind ?_ (fun _ => ?_))
    | exact ih0 _ _ _ _
    | exact medlarref05_may.mono _ _ _ _ _
    | exact medlarref05_place.mono _ _ _ _ _
    | exact LeO.none _
    | refine LeO.ite ?_ ?_
    | refine LeO.bind ?_ (fun _ => ?_)
theorem medlarref05_Check.mono : ∀ a0 k, LeO (medlarref05_Check.f k a0) (medlarref05_Check.f (k + 1) a0) := by
  intro a0 k
  have ih0 := medlarref05_Check.mono_l k
  unfold medlarref05_Check.f
  repeat' first
    | (with_reducible exact ih0 _ _ _ _)
    | (with_reducible exact medlarref05_may.mono _ _ _ _ _)
    | (with_reducible exact medlarref05_place.mono _ _ _ _ _)
    | (with_reducible exact LeO.refl _)
    | (with_reducible exact LeO.none _)
    | (with_reducible refine LeO.ite ?_ ?_)
    | (with_reducible refine LeO.bind ?_ (fun _ => ?_))
    | exact ih0 _ _ _ _
    | exact medlarref05_may.mono _ _ _ _ _
    | exact medlarref05_place.mono _ _ _ _ _
    | exact LeO.none _
    | refine LeO.ite ?_ ?_
    | refine LeO.bind ?_ (fun _ => ?_)
def medlarref05_Check.T6 : Bool × List (List Nat × List Nat) := (true, [([], []), ([], []), ([0, 1], [0, 1]), ([2], [2]), ([3, 2], [3]), ([4], [4]), ([4], [4]), ([5, 6, 4], [4, 5, 6]), ([4], [4]), ([7, 8, 4, 4], [4, 7, 8]), ([9, 4], [4, 9]), ([4, 10], [4, 10])])
def medlarref05_Check.B6 : List Nat := [0, 0, 3, 7, 15, 31, 31, 127, 31, 511, 1023, 2047]
theorem medlarref05_Check.tab6 : rtab .any (opsOf Try.f93 6) = medlarref05_Check.T6 := by kernel_rfl
theorem medlarref05_Check.bits6 : waitsOk medlarref05_Check.T6.2 medlarref05_Check.B6 = true := by kernel_rfl
set_option maxHeartbeats 8000000 in
set_option maxRecDepth 100000 in
theorem medlarref05_Check.calls (k : Nat) (A0 : Option Addr) (c0 : Nat) (l0 : List (S75)) (r : Int) (w : World) (hr0 : Kd.C k75 w A0 l0.length l0) (hc0 : l0.length ≤ c0) (h : medlarref05_Check.f k l0 = some r) :
   Calls Try.prog 93 #[.slice A0 l0.length c0] w fun e w' => e = .returned (.int .i64 r) ∧ Below w.heap.size w w' := by
  have hu75 := underlying75
  have HR0 := ak_ hr0
  have HC0 := ak_ hc0
  clear hr0 hc0
  have HB := ak_ (Below.refl w.heap.size w)
  have H : (if (l0.length : Int) > 65536 then (some 1) else (medlarref05_Check.l0 k l0 l0 (l0.length : Int) 0)) = some r := h
  clear h
  by_cases c2 : (l0.length : Int) > 65536
  ·rw [if_pos c2] at H
   have c2b0 : decide (65536 < (l0.length : Int)) = true := decide_eq_true c2
   have c2b1 : decide (65536 < l0.length) = true := decide_eq_true (by omega)
   clear c2
   obtain rfl := Option.some.inj H
   go_enter func93, ntmps93
   go_wp2
   go_ret
   exact ea_ (bl_ HB)
  ·rw [if_neg c2] at H
   have c2b0 : decide (65536 < (l0.length : Int)) = false := decide_eq_false c2
   have c2b1 : decide (65536 < l0.length) = false := decide_eq_false (by omega)
   clear c2
   have H' := ak_ H
   clear H
   go_enter func93, ntmps93
   go_wp2
   go_loopg [10] k (fun kq v10 w' => ∃ (x10_1 : Int), v10 = .int .i64 x10_1 ∧ Aside0 (medlarref05_Check.l0 kq l0 l0 (l0.length : Int) x10_1 = some r) ∧ Aside0 (kq ≤ k) ∧ Aside0 (Below w.heap.size w w'))
   case atStart => exact ⟨(0), rf_, H', ⟨Nat.le_refl _⟩, ⟨bl_ HB⟩⟩
   case round =>
    clear H'
    try clear c2
    try clear c2b0
    try clear c2b1
    try clear p2
    obtain ⟨x10_1, rfl, HA, HK1, HB⟩ := hrel
    cases gk with
    | zero => exact absurd HA.out (by simp [medlarref05_Check.l0])
    | succ k1 =>
     have H := HA.out
     clear HA
     simp only [medlarref05_Check.l0] at H
     by_cases c3 : x10_1 < (l0.length : Int)
     ·rw [if_pos c3] at H
      have c3b0 := decide_eq_true c3
      clear c3
      by_cases c4 : 0 ≤ x10_1
      ·rw [if_pos c4] at H
       have c4b0 := decide_eq_true c4
       clear c4
       by_cases c5 : x10_1 < (l0.length : Int)
       ·rw [if_pos c5] at H
        have c5b0 := decide_eq_true c5
        clear c5
        replace H := bind_eq_some_iff.mp H
        obtain ⟨t304, A60, H⟩ := H
        replace H : (if t304 = true then (if x10_1 ≤ (l0.length : Int) then ((medlarref05_place.f k1 (l0.take (x10_1 : Int).toNat) ((rd_T75 l0 x10_1).f0) ((rd_T75 l0 x10_1).f1) ((rd_T75 l0 x10_1).f2)).bind fun t309 => (if t309 ≥ 0 then (some 1) else (medlarref05_Check.l0 k1 l0 l0 (l0.length : Int) (wrap64 (x10_1 + 1))))) else (none)) else (some 1)) = some r := H
        have A6 := ak_ A60
        clear A60
        by_cases c7 : t304 = true
        ·subst c7
         have H1 : (if x10_1 ≤ (l0.length : Int) then ((medlarref05_place.f k1 (l0.take (x10_1 : Int).toNat) ((rd_T75 l0 x10_1).f0) ((rd_T75 l0 x10_1).f1) ((rd_T75 l0 x10_1).f2)).bind fun t309 => (if t309 ≥ 0 then (some 1) else (medlarref05_Check.l0 k1 l0 l0 (l0.length : Int) (wrap64 (x10_1 + 1))))) else (none)) = some r := by rw [if_pos rfl] at H; exact H
         clear H
         have H := H1
         clear H1
         have c8b0 := eq_true (od_ (by first | (with_reducible assumption) | assumption) : 0 ≤ x10_1)
         by_cases c9 : x10_1 ≤ (l0.length : Int)
         ·rw [if_pos c9] at H
          have c9b0 := eq_true c9
          have c9b1 := decide_eq_true c9
          clear c9
          obtain ⟨y305, hy305⟩ : ∃ y_ : List (S75), y_ = (l0.take (x10_1 : Int).toNat) := ⟨_, rfl⟩
          replace H : ((medlarref05_place.f k1 y305 ((rd_T75 l0 x10_1).f0) ((rd_T75 l0 x10_1).f1) ((rd_T75 l0 x10_1).f2)).bind fun t309 => (if t309 ≥ 0 then (some 1) else (medlarref05_Check.l0 k1 l0 l0 (l0.length : Int) (wrap64 (x10_1 + 1))))) = some r := by first | (rw [hy305]; with_reducible exact H) | (have H2_ := (Option.bind_some _ _).symm.trans H; rw [hy305]; with_reducible exact H2_) | (have H2_ := (Option.bind_some _ _).symm.trans H; with_reducible exact H2_) | with_reducible exact H | (rw [hy305]; exact H) | exact H
          have Ny305 := ak_ hy305
          clear hy305
          replace H := bind_eq_some_iff.mp H
          obtain ⟨t309, A100, H⟩ := H
          replace H : (if t309 ≥ 0 then (some 1) else (medlarref05_Check.l0 k1 l0 l0 (l0.length : Int) (wrap64 (x10_1 + 1)))) = some r := H
          have A10 := ak_ A100
          clear A100
          by_cases c11 : t309 ≥ 0
          ·rw [if_pos c11] at H
           have c11b0 : decide (0 ≤ t309) = true := decide_eq_true c11
           clear c11
           obtain rfl := Option.some.inj H
           have p302 : 0 ≤ (x10_1 : Int) := od_ (by first | (with_reducible assumption) | assumption)
           have q302 : x10_1 < (l0.length : Int) := od_ (by first | (with_reducible assumption) | assumption)
           obtain ⟨ad302, e302, hx302_0, hx302_1, hx302_2⟩ := at_T75 HR0.out x10_1 p302 q302
           cases e302
           replace hx302_0 := cx_ HB hx302_0
           replace hx302_1 := cx_ HB hx302_1
           replace hx302_2 := cx_ HB hx302_2
           replace p302 := eq_true p302
           replace q302 := eq_true q302
           try go_wp2_with (first | ((with_reducible refine gate_dst (N := 4) rfl ?_); refine bx_ 4 #[.int .i64 0, .int .i64 0, .int .i64 0] 75 ?_; intro gb303 hg w12 hbox hb; have BK303 := ak_ hbox; have GW303 := ak_ (gs_ hg HB); have GE303 := ak_ (gs_ hg HB); replace HB := ak_ (bt_ (bl_ HB) hb); clear hb hbox hg; have hcz13_0 := kq_ BK303.out 0 rfl; have hcz13_1 := kq_ BK303.out 1 rfl; have hcz13_2 := kq_ BK303.out 2 rfl; have hfz13_0 := kf_ BK303.out 0; have hfz13_1 := kf_ BK303.out 1; have hfz13_2 := kf_ BK303.out 2))
           obtain ⟨w14, e_⟩ : ∃ w_, sC_ gb303 0 [.int .i64 ((rd_T75 l0 x10_1).f0), .int .i64 ((rd_T75 l0 x10_1).f1), .int .i64 ((rd_T75 l0 x10_1).f2)] w12 = w_ := ⟨_, rfl⟩
           have n0_ : Aside0 (w14.heap[gb303]? = some (.cells #[.int .i64 ((rd_T75 l0 x10_1).f0), .int .i64 ((rd_T75 l0 x10_1).f1), .int .i64 ((rd_T75 l0 x10_1).f2)] 75 (0, 0))) := ⟨sC_blk BK303.out rfl e_⟩
           have n1_ : Aside0 (Below w.heap.size w w14) := ⟨sC_below GE303.out HB.out e_⟩
           (try clear BK303)
           (try clear HB)
           simp only [sC_, Nat.reduceAdd] at e_
           rw [e_]
           clear e_
           have BK303 := n0_
           have HB := n1_
           clear n0_ n1_
           replace BK303 := ak_ (kd_ BK303.out)
           replace HB := ak_ (bd_ HB.out)
           refine start_ (n := 12) (S := fun w' => w'.cell? ⟨gb303, 0, none⟩ = some (.int .i64 ((rd_T75 l0 x10_1).f0)) ∧ w'.cell? ⟨gb303, 1, none⟩ = some (.int .i64 ((rd_T75 l0 x10_1).f1)) ∧ w'.cell? ⟨gb303, 2, none⟩ = some (.int .i64 ((rd_T75 l0 x10_1).f2))) (ds := []) #[false, false, false, false, false, false, false, false, false, false, false, false] (by kernel_rfl) rfl rfl ⟨(kc_ BK303.out 0).trans rfl, (kc_ BK303.out 1).trans rfl, (kc_ BK303.out 2).trans rfl⟩ (fun hHeld => ?_); refine with_tabW medlarref05_Check.tab6 medlarref05_Check.bits6 (fun HT_ HW_ => ?_)
           generalize w14.drew = w15 at BK303 HB hHeld ⊢
           refine pu_ HT_ 1 (some 16) #[false, true, false, false, false, false, false, false, false, false, false, false] ?_
           refine tk_ HT_ HW_ hHeld 0 (some 15) (bA2 2 12) rfl (by rintro w' ⟨s0, s1, s2⟩; go_simp; with_reducible rfl) ?_
           refine one_ (i := 2) (N := some 17) (bA2 3 12) rfl rfl (one_of HT_.out (by kernel_rfl)) (by decide) (fun K hK => ?_)
           refine goes_ func133 (by kernel_rfl) rfl #[.agg #[.int .i64 ((rd_T75 l0 x10_1).f0), .int .i64 ((rd_T75 l0 x10_1).f1), .int .i64 ((rd_T75 l0 x10_1).f2)], .int .i64 x10_1] (by rfl) rfl rfl (by (try simp only [map_toArray, map_cons, map_nil]); first | done | rfl | (simp only [length_drop, length_take]; rfl)) ?_
           with_reducible refine (medlarref05_may.calls k1 ((rd_T75 l0 x10_1).f0) ((rd_T75 l0 x10_1).f1) ((rd_T75 l0 x10_1).f2) x10_1 true _ A6.out).mono ?_
           rintro e w16 ⟨rfl, hb⟩
           refine ⟨_, rfl, ?_⟩
           replace BK303 := ak_ (kb_ (g := gb303) (o := .cells #[.int .i64 ((rd_T75 l0 x10_1).f0), .int .i64 ((rd_T75 l0 x10_1).f1), .int .i64 ((rd_T75 l0 x10_1).f2)] 75 (0, 0)) (kl_ BK303) hb)
           replace HB := ak_ (bt_ (by repeat (first | (with_reducible first | exact HB.out | apply ba_ | apply bn_ | apply bd_ | refine below_set ?_ GE303.out) | exact HB.out)) hb)
           (try clear hb)
           (try clear hb2)
           (try clear hk)
           (try clear hi)
           have q17 : (x10_1 : Int) ≤ ((l0.length : Int) : Int) := od_ (by first | (with_reducible assumption) | assumption)
           obtain ⟨i017, hi017, _, hsz17, _⟩ := info_parts info75
           have hroom17 : l0.length ≤ c0 := HC0.out
           have hC17 : Kd.C k75 _ (some ad302) l0.length l0 := HR0.out
           have hcut17 := cut_to (P := Try.prog) 69 75 .i64 underlying69 hi017 (some ad302) l0.length c0 x10_1 (od_ (by first | (with_reducible assumption) | assumption)) q17 hroom17
           have hr17 := Kd.C_take (m := (x10_1 : Int).toNat) hC17 (by omega)
           have hy17 : y305.length = (x10_1 : Int).toNat := (by rw [Ny305.out, List.length_take]; omega)
           rw [← Ny305.out] at hr17
           rw [← hy17] at hcut17
           have HR308 := ak_ hr17
           have HC308 := ak_ (show y305.length ≤ c0 from by omega)
           clear hr17 hC17 hroom17 hi017 hsz17
           have KY17 := ak_ hy17
           clear hy17
           replace q17 := eq_true q17
           refine hK.out _ _ ⟨(kc_ BK303.out 0).trans rfl, (kc_ BK303.out 1).trans rfl, (kc_ BK303.out 2).trans rfl⟩ (fun hHeld => ?_)
           clear hK K
           refine norm_ (a' := ?_) ?_ ?_
           rotate_left
           ·show Act.put _ (some 17) _ = _
            simp only [Act.put, setIfInBounds_toArray, set_cons_zero, set_cons_succ, i64_w, i32_w]
            rfl
           refine pu_ HT_ 3 (some 18) (bA2 4 12) ?_
           refine pu_ HT_ 4 (some 19) (bA2 5 12) ?_
           refine pu_ HT_ 5 (some 20) (bA2 6 12) ?_
           refine pu_ HT_ 6 (some 21) (bA2 7 12) ?_
           refine pu_ HT_ 7 (some 22) (bA2 8 12) ?_
           refine tk_ HT_ HW_ hHeld 8 (some 23) (bA2 9 12) rfl (by rintro w' ⟨s0, s1, s2⟩; go_simp; with_reducible rfl) ?_
           refine one_ (i := 9) (N := some 24) (bA2 10 12) rfl rfl (one_of HT_.out (by kernel_rfl)) (by decide) (fun K hK => ?_)
           refine goes_ func134 (by kernel_rfl) rfl #[.slice (some ad302) y305.length c0, .agg #[.int .i64 ((rd_T75 l0 x10_1).f0), .int .i64 ((rd_T75 l0 x10_1).f1), .int .i64 ((rd_T75 l0 x10_1).f2)]] (by rfl) rfl rfl (by (try simp only [map_toArray, map_cons, map_nil]); first | done | rfl | (simp only [length_drop, length_take]; rfl)) ?_
           with_reducible refine (medlarref05_place.calls k1 _ _ y305 ((rd_T75 l0 x10_1).f0) ((rd_T75 l0 x10_1).f1) ((rd_T75 l0 x10_1).f2) t309 _ ?side1 ?side2 A10.out).mono ?_
           (case side1 => repeat (first | exact (Kd.C_below HR308.out HB.out) | (with_reducible refine Kd.C_alloc ?_ _) | (with_reducible refine Kd.C_drewN ?_ _) | (with_reducible refine Kd.C_drew ?_)))
           (case side2 => exact HC308.out)
           rintro e w18 ⟨rfl, hb⟩
           refine ⟨_, rfl, ?_⟩
           replace BK303 := ak_ (kb_ (g := gb303) (o := .cells #[.int .i64 ((rd_T75 l0 x10_1).f0), .int .i64 ((rd_T75 l0 x10_1).f1), .int .i64 ((rd_T75 l0 x10_1).f2)] 75 (0, 0)) (kl_ BK303) hb)
           replace HB := ak_ (bt_ (by repeat (first | (with_reducible first | exact HB.out | apply ba_ | apply bn_ | apply bd_ | refine below_set ?_ GE303.out) | exact HB.out)) hb)
           (try clear hb)
           (try clear hb2)
           (try clear hk)
           (try clear hi)
           refine hK.out _ _ ⟨(kc_ BK303.out 0).trans rfl, (kc_ BK303.out 1).trans rfl, (kc_ BK303.out 2).trans rfl⟩ (fun hHeld => ?_)
           clear hK K
           refine norm_ (a' := ?_) ?_ ?_
           rotate_left
           ·show Act.put _ (some 24) _ = _
            simp only [Act.put, setIfInBounds_toArray, set_cons_zero, set_cons_succ, i64_w, i32_w]
            rfl
           refine pu_ HT_ 10 (some 25) (bA2 11 12) ?_
           refine pu_ HT_ 11 (some 26) (bA2 12 12) ?_
           refine done_ (done_of HT_.out (by kernel_rfl)) ?_
           try go_wp2
           go_ret
           exact ea_ (by repeat (first | (with_reducible first | exact HB.out | apply ba_ | apply bn_ | apply bd_ | refine below_set ?_ GE303.out) | exact HB.out))
          ·rw [if_neg c11] at H
           have c11b0 : decide (0 ≤ t309) = false := decide_eq_false c11
           clear c11
           have H' := ak_ H
           clear H
           have p302 : 0 ≤ (x10_1 : Int) := od_ (by first | (with_reducible assumption) | assumption)
           have q302 : x10_1 < (l0.length : Int) := od_ (by first | (with_reducible assumption) | assumption)
           obtain ⟨ad302, e302, hx302_0, hx302_1, hx302_2⟩ := at_T75 HR0.out x10_1 p302 q302
           cases e302
           replace hx302_0 := cx_ HB hx302_0
           replace hx302_1 := cx_ HB hx302_1
           replace hx302_2 := cx_ HB hx302_2
           replace p302 := eq_true p302
           replace q302 := eq_true q302
           try go_wp2_with (first | ((with_reducible refine gate_dst (N := 4) rfl ?_); refine bx_ 4 #[.int .i64 0, .int .i64 0, .int .i64 0] 75 ?_; intro gb303 hg w19 hbox hb; have BK303 := ak_ hbox; have GW303 := ak_ (gs_ hg HB); have GE303 := ak_ (gs_ hg HB); replace HB := ak_ (bt_ (bl_ HB) hb); clear hb hbox hg; have hcz20_0 := kq_ BK303.out 0 rfl; have hcz20_1 := kq_ BK303.out 1 rfl; have hcz20_2 := kq_ BK303.out 2 rfl; have hfz20_0 := kf_ BK303.out 0; have hfz20_1 := kf_ BK303.out 1; have hfz20_2 := kf_ BK303.out 2))
           obtain ⟨w21, e_⟩ : ∃ w_, sC_ gb303 0 [.int .i64 ((rd_T75 l0 x10_1).f0), .int .i64 ((rd_T75 l0 x10_1).f1), .int .i64 ((rd_T75 l0 x10_1).f2)] w19 = w_ := ⟨_, rfl⟩
           have n0_ : Aside0 (w21.heap[gb303]? = some (.cells #[.int .i64 ((rd_T75 l0 x10_1).f0), .int .i64 ((rd_T75 l0 x10_1).f1), .int .i64 ((rd_T75 l0 x10_1).f2)] 75 (0, 0))) := ⟨sC_blk BK303.out rfl e_⟩
           have n1_ : Aside0 (Below w.heap.size w w21) := ⟨sC_below GE303.out HB.out e_⟩
           (try clear BK303)
           (try clear HB)
           simp only [sC_, Nat.reduceAdd] at e_
           rw [e_]
           clear e_
           have BK303 := n0_
           have HB := n1_
           clear n0_ n1_
           replace BK303 := ak_ (kd_ BK303.out)
           replace HB := ak_ (bd_ HB.out)
           refine start_ (n := 12) (S := fun w' => w'.cell? ⟨gb303, 0, none⟩ = some (.int .i64 ((rd_T75 l0 x10_1).f0)) ∧ w'.cell? ⟨gb303, 1, none⟩ = some (.int .i64 ((rd_T75 l0 x10_1).f1)) ∧ w'.cell? ⟨gb303, 2, none⟩ = some (.int .i64 ((rd_T75 l0 x10_1).f2))) (ds := []) #[false, false, false, false, false, false, false, false, false, false, false, false] (by kernel_rfl) rfl rfl ⟨(kc_ BK303.out 0).trans rfl, (kc_ BK303.out 1).trans rfl, (kc_ BK303.out 2).trans rfl⟩ (fun hHeld => ?_); refine with_tabW medlarref05_Check.tab6 medlarref05_Check.bits6 (fun HT_ HW_ => ?_)
           generalize w21.drew = w22 at BK303 HB hHeld ⊢
           refine pu_ HT_ 1 (some 16) #[false, true, false, false, false, false, false, false, false, false, false, false] ?_
           refine tk_ HT_ HW_ hHeld 0 (some 15) (bA2 2 12) rfl (by rintro w' ⟨s0, s1, s2⟩; go_simp; with_reducible rfl) ?_
           refine one_ (i := 2) (N := some 17) (bA2 3 12) rfl rfl (one_of HT_.out (by kernel_rfl)) (by decide) (fun K hK => ?_)
           refine goes_ func133 (by kernel_rfl) rfl #[.agg #[.int .i64 ((rd_T75 l0 x10_1).f0), .int .i64 ((rd_T75 l0 x10_1).f1), .int .i64 ((rd_T75 l0 x10_1).f2)], .int .i64 x10_1] (by rfl) rfl rfl (by (try simp only [map_toArray, map_cons, map_nil]); first | done | rfl | (simp only [length_drop, length_take]; rfl)) ?_
           with_reducible refine (medlarref05_may.calls k1 ((rd_T75 l0 x10_1).f0) ((rd_T75 l0 x10_1).f1) ((rd_T75 l0 x10_1).f2) x10_1 true _ A6.out).mono ?_
           rintro e w23 ⟨rfl, hb⟩
           refine ⟨_, rfl, ?_⟩
           replace BK303 := ak_ (kb_ (g := gb303) (o := .cells #[.int .i64 ((rd_T75 l0 x10_1).f0), .int .i64 ((rd_T75 l0 x10_1).f1), .int .i64 ((rd_T75 l0 x10_1).f2)] 75 (0, 0)) (kl_ BK303) hb)
           replace HB := ak_ (bt_ (by repeat (first | (with_reducible first | exact HB.out | apply ba_ | apply bn_ | apply bd_ | refine below_set ?_ GE303.out) | exact HB.out)) hb)
           (try clear hb)
           (try clear hb2)
           (try clear hk)
           (try clear hi)
           have q24 : (x10_1 : Int) ≤ ((l0.length : Int) : Int) := od_ (by first | (with_reducible assumption) | assumption)
           obtain ⟨i024, hi024, _, hsz24, _⟩ := info_parts info75
           have hroom24 : l0.length ≤ c0 := HC0.out
           have hC24 : Kd.C k75 _ (some ad302) l0.length l0 := HR0.out
           have hcut24 := cut_to (P := Try.prog) 69 75 .i64 underlying69 hi024 (some ad302) l0.length c0 x10_1 (od_ (by first | (with_reducible assumption) | assumption)) q24 hroom24
           have hr24 := Kd.C_take (m := (x10_1 : Int).toNat) hC24 (by omega)
           have hy24 : y305.length = (x10_1 : Int).toNat := (by rw [Ny305.out, List.length_take]; omega)
           rw [← Ny305.out] at hr24
           rw [← hy24] at hcut24
           have HR308 := ak_ hr24
           have HC308 := ak_ (show y305.length ≤ c0 from by omega)
           clear hr24 hC24 hroom24 hi024 hsz24
           have KY24 := ak_ hy24
           clear hy24
           replace q24 := eq_true q24
           refine hK.out _ _ ⟨(kc_ BK303.out 0).trans rfl, (kc_ BK303.out 1).trans rfl, (kc_ BK303.out 2).trans rfl⟩ (fun hHeld => ?_)
           clear hK K
           refine norm_ (a' := ?_) ?_ ?_
           rotate_left
           ·show Act.put _ (some 17) _ = _
            simp only [Act.put, setIfInBounds_toArray, set_cons_zero, set_cons_succ, i64_w, i32_w]
            rfl
           refine pu_ HT_ 3 (some 18) (bA2 4 12) ?_
           refine pu_ HT_ 4 (some 19) (bA2 5 12) ?_
           refine pu_ HT_ 5 (some 20) (bA2 6 12) ?_
           refine pu_ HT_ 6 (some 21) (bA2 7 12) ?_
           refine pu_ HT_ 7 (some 22) (bA2 8 12) ?_
           refine tk_ HT_ HW_ hHeld 8 (some 23) (bA2 9 12) rfl (by rintro w' ⟨s0, s1, s2⟩; go_simp; with_reducible rfl) ?_
           refine one_ (i := 9) (N := some 24) (bA2 10 12) rfl rfl (one_of HT_.out (by kernel_rfl)) (by decide) (fun K hK => ?_)
           refine goes_ func134 (by kernel_rfl) rfl #[.slice (some ad302) y305.length c0, .agg #[.int .i64 ((rd_T75 l0 x10_1).f0), .int .i64 ((rd_T75 l0 x10_1).f1), .int .i64 ((rd_T75 l0 x10_1).f2)]] (by rfl) rfl rfl (by (try simp only [map_toArray, map_cons, map_nil]); first | done | rfl | (simp only [length_drop, length_take]; rfl)) ?_
           with_reducible refine (medlarref05_place.calls k1 _ _ y305 ((rd_T75 l0 x10_1).f0) ((rd_T75 l0 x10_1).f1) ((rd_T75 l0 x10_1).f2) t309 _ ?side1 ?side2 A10.out).mono ?_
           (case side1 => repeat (first | exact (Kd.C_below HR308.out HB.out) | (with_reducible refine Kd.C_alloc ?_ _) | (with_reducible refine Kd.C_drewN ?_ _) | (with_reducible refine Kd.C_drew ?_)))
           (case side2 => exact HC308.out)
           rintro e w25 ⟨rfl, hb⟩
           refine ⟨_, rfl, ?_⟩
           replace BK303 := ak_ (kb_ (g := gb303) (o := .cells #[.int .i64 ((rd_T75 l0 x10_1).f0), .int .i64 ((rd_T75 l0 x10_1).f1), .int .i64 ((rd_T75 l0 x10_1).f2)] 75 (0, 0)) (kl_ BK303) hb)
           replace HB := ak_ (bt_ (by repeat (first | (with_reducible first | exact HB.out | apply ba_ | apply bn_ | apply bd_ | refine below_set ?_ GE303.out) | exact HB.out)) hb)
           (try clear hb)
           (try clear hb2)
           (try clear hk)
           (try clear hi)
           refine hK.out _ _ ⟨(kc_ BK303.out 0).trans rfl, (kc_ BK303.out 1).trans rfl, (kc_ BK303.out 2).trans rfl⟩ (fun hHeld => ?_)
           clear hK K
           refine norm_ (a' := ?_) ?_ ?_
           rotate_left
           ·show Act.put _ (some 24) _ = _
            simp only [Act.put, setIfInBounds_toArray, set_cons_zero, set_cons_succ, i64_w, i32_w]
            rfl
           refine pu_ HT_ 10 (some 25) (bA2 11 12) ?_
           refine pu_ HT_ 11 (some 26) (bA2 12 12) ?_
           refine done_ (done_of HT_.out (by kernel_rfl)) ?_
           try go_wp2
           go_roundg k1
           case measure => have := HK1.out; omega
           case rel => exact ⟨(wrap64 (x10_1 + 1)), rf_, H', ⟨by have := HK1.out; omega⟩, ⟨by repeat (first | (with_reducible first | exact HB.out | apply ba_ | apply bn_ | apply bd_ | refine below_set ?_ GE303.out) | exact HB.out)⟩⟩
         ·rw [if_neg c9] at H
          exact absurd H (by simp)
        ·replace c7 := Bool.eq_false_iff.mpr c7
         subst c7
         have H1 : (some 1) = some r := by rw [if_neg (show ¬ (false = true) by decide)] at H; exact H
         clear H
         have H := H1
         clear H1
         obtain rfl := Option.some.inj H
         have p302 : 0 ≤ (x10_1 : Int) := od_ (by first | (with_reducible assumption) | assumption)
         have q302 : x10_1 < (l0.length : Int) := od_ (by first | (with_reducible assumption) | assumption)
         obtain ⟨ad302, e302, hx302_0, hx302_1, hx302_2⟩ := at_T75 HR0.out x10_1 p302 q302
         cases e302
         replace hx302_0 := cx_ HB hx302_0
         replace hx302_1 := cx_ HB hx302_1
         replace hx302_2 := cx_ HB hx302_2
         replace p302 := eq_true p302
         replace q302 := eq_true q302
         try go_wp2_with (first | ((with_reducible refine gate_dst (N := 4) rfl ?_); refine bx_ 4 #[.int .i64 0, .int .i64 0, .int .i64 0] 75 ?_; intro gb303 hg w26 hbox hb; have BK303 := ak_ hbox; have GW303 := ak_ (gs_ hg HB); have GE303 := ak_ (gs_ hg HB); replace HB := ak_ (bt_ (bl_ HB) hb); clear hb hbox hg; have hcz27_0 := kq_ BK303.out 0 rfl; have hcz27_1 := kq_ BK303.out 1 rfl; have hcz27_2 := kq_ BK303.out 2 rfl; have hfz27_0 := kf_ BK303.out 0; have hfz27_1 := kf_ BK303.out 1; have hfz27_2 := kf_ BK303.out 2))
         obtain ⟨w28, e_⟩ : ∃ w_, sC_ gb303 0 [.int .i64 ((rd_T75 l0 x10_1).f0), .int .i64 ((rd_T75 l0 x10_1).f1), .int .i64 ((rd_T75 l0 x10_1).f2)] w26 = w_ := ⟨_, rfl⟩
         have n0_ : Aside0 (w28.heap[gb303]? = some (.cells #[.int .i64 ((rd_T75 l0 x10_1).f0), .int .i64 ((rd_T75 l0 x10_1).f1), .int .i64 ((rd_T75 l0 x10_1).f2)] 75 (0, 0))) := ⟨sC_blk BK303.out rfl e_⟩
         have n1_ : Aside0 (Below w.heap.size w w28) := ⟨sC_below GE303.out HB.out e_⟩
         (try clear BK303)
         (try clear HB)
         simp only [sC_, Nat.reduceAdd] at e_
         rw [e_]
         clear e_
         have BK303 := n0_
         have HB := n1_
         clear n0_ n1_
         replace BK303 := ak_ (kd_ BK303.out)
         replace HB := ak_ (bd_ HB.out)
         refine start_ (n := 12) (S := fun w' => w'.cell? ⟨gb303, 0, none⟩ = some (.int .i64 ((rd_T75 l0 x10_1).f0)) ∧ w'.cell? ⟨gb303, 1, none⟩ = some (.int .i64 ((rd_T75 l0 x10_1).f1)) ∧ w'.cell? ⟨gb303, 2, none⟩ = some (.int .i64 ((rd_T75 l0 x10_1).f2))) (ds := []) #[false, false, false, false, false, false, false, false, false, false, false, false] (by kernel_rfl) rfl rfl ⟨(kc_ BK303.out 0).trans rfl, (kc_ BK303.out 1).trans rfl, (kc_ BK303.out 2).trans rfl⟩ (fun hHeld => ?_); refine with_tabW medlarref05_Check.tab6 medlarref05_Check.bits6 (fun HT_ HW_ => ?_)
         generalize w28.drew = w29 at BK303 HB hHeld ⊢
         refine pu_ HT_ 1 (some 16) #[false, true, false, false, false, false, false, false, false, false, false, false] ?_
         refine tk_ HT_ HW_ hHeld 0 (some 15) (bA2 2 12) rfl (by rintro w' ⟨s0, s1, s2⟩; go_simp; with_reducible rfl) ?_
         refine one_ (i := 2) (N := some 17) (bA2 3 12) rfl rfl (one_of HT_.out (by kernel_rfl)) (by decide) (fun K hK => ?_)
         refine goes_ func133 (by kernel_rfl) rfl #[.agg #[.int .i64 ((rd_T75 l0 x10_1).f0), .int .i64 ((rd_T75 l0 x10_1).f1), .int .i64 ((rd_T75 l0 x10_1).f2)], .int .i64 x10_1] (by rfl) rfl rfl (by (try simp only [map_toArray, map_cons, map_nil]); first | done | rfl | (simp only [length_drop, length_take]; rfl)) ?_
         with_reducible refine (medlarref05_may.calls k1 ((rd_T75 l0 x10_1).f0) ((rd_T75 l0 x10_1).f1) ((rd_T75 l0 x10_1).f2) x10_1 false _ A6.out).mono ?_
         rintro e w30 ⟨rfl, hb⟩
         refine ⟨_, rfl, ?_⟩
         replace BK303 := ak_ (kb_ (g := gb303) (o := .cells #[.int .i64 ((rd_T75 l0 x10_1).f0), .int .i64 ((rd_T75 l0 x10_1).f1), .int .i64 ((rd_T75 l0 x10_1).f2)] 75 (0, 0)) (kl_ BK303) hb)
         replace HB := ak_ (bt_ (by repeat (first | (with_reducible first | exact HB.out | apply ba_ | apply bn_ | apply bd_ | refine below_set ?_ GE303.out) | exact HB.out)) hb)
         (try clear hb)
         (try clear hb2)
         (try clear hk)
         (try clear hi)
         refine hK.out _ _ ⟨(kc_ BK303.out 0).trans rfl, (kc_ BK303.out 1).trans rfl, (kc_ BK303.out 2).trans rfl⟩ (fun hHeld => ?_)
         clear hK K
         refine norm_ (a' := ?_) ?_ ?_
         rotate_left
         ·show Act.put _ (some 17) _ = _
          simp only [Act.put, setIfInBounds_toArray, set_cons_zero, set_cons_succ, i64_w, i32_w]
          rfl
         refine pu_ HT_ 3 (some 18) (bA2 4 12) ?_
         refine pu_ HT_ 4 (some 19) (bA2 5 12) ?_
         refine pure_ (i := 5) (N := some 20) (v := undef) (a' := ?_) (bA2 6 12) rfl rfl (any_of HT_.out (by kernel_rfl)) (fun _ _ _ h => h) (Or.inr ⟨by rfl, rfl⟩) ?_ ?_
         rotate_left
         ·simp only [Act.put, setIfInBounds_toArray, set_cons_zero, set_cons_succ, i64_w, i32_w]
          rfl
         refine pure_ (i := 6) (N := some 21) (v := undef) (a' := ?_) (bA2 7 12) rfl rfl (any_of HT_.out (by kernel_rfl)) (fun _ _ _ h => h) (Or.inr ⟨by rfl, rfl⟩) ?_ ?_
         rotate_left
         ·simp only [Act.put, setIfInBounds_toArray, set_cons_zero, set_cons_succ, i64_w, i32_w]
          rfl
         refine pure_ (i := 7) (N := some 22) (v := undef) (a' := ?_) (bA2 8 12) rfl rfl (any_of HT_.out (by kernel_rfl)) (fun _ _ _ h => h) (Or.inr ⟨by rfl, rfl⟩) ?_ ?_
         rotate_left
         ·simp only [Act.put, setIfInBounds_toArray, set_cons_zero, set_cons_succ, i64_w, i32_w]
          rfl
         refine pure_ (i := 8) (N := some 23) (v := undef) (a' := ?_) (bA2 9 12) rfl rfl (any_of HT_.out (by kernel_rfl)) (fun _ _ _ h => h) (Or.inr ⟨by rfl, rfl⟩) ?_ ?_
         rotate_left
         ·simp only [Act.put, setIfInBounds_toArray, set_cons_zero, set_cons_succ, i64_w, i32_w]
          rfl
         refine pure_ (i := 9) (N := some 24) (v := undef) (a' := ?_) (bA2 10 12) rfl rfl (any_of HT_.out (by kernel_rfl)) (fun _ _ _ h => h) (Or.inr ⟨by rfl, rfl⟩) ?_ ?_
         rotate_left
         ·simp only [Act.put, setIfInBounds_toArray, set_cons_zero, set_cons_succ, i64_w, i32_w]
          rfl
         refine pure_ (i := 10) (N := some 25) (v := undef) (a' := ?_) (bA2 11 12) rfl rfl (any_of HT_.out (by kernel_rfl)) (fun _ _ _ h => h) (Or.inr ⟨by rfl, rfl⟩) ?_ ?_
         rotate_left
         ·simp only [Act.put, setIfInBounds_toArray, set_cons_zero, set_cons_succ, i64_w, i32_w]
          rfl
         refine pu_ HT_ 11 (some 26) (bA2 12 12) ?_
         refine done_ (done_of HT_.out (by kernel_rfl)) ?_
         try go_wp2
         go_ret
         exact ea_ (by repeat (first | (with_reducible first | exact HB.out | apply ba_ | apply bn_ | apply bd_ | refine below_set ?_ GE303.out) | exact HB.out))
       ·rw [if_neg c5] at H
        exact absurd H (by simp)
      ·rw [if_neg c4] at H
       exact absurd H (by simp)
     ·rw [if_neg c3] at H
      have c3b0 := decide_eq_false c3
      clear c3
      obtain rfl := Option.some.inj H
      go_wp2
      go_ret
      exact ea_ (bl_ HB)
def medlarref07_May.f (l0 : List (S75)) (a1_0 : Bool) (a1_1 : Bool) (a1_2 : Int) (a1_3 : Int) (a1_4 : Int) (a1_5 : Int) (a1_6 : Int) (a1_7 : Int) (a1_8 : Int) : Option (Bool) := if a1_0 = true then (if (a1_0 && (!a1_1 && ((a1_2 == 0 && (a1_3 == 0)) && (((a1_4 == 0 && (a1_5 == 0)) && ((a1_6 == 0 && (a1_7 == 0)))))))) = true then (if a1_8 ≥ 0 then (some (decide (a1_8 < (l0.length : Int)))) else (some false)) else (some false)) else (if a1_1 = true then (some (!a1_0 && (a1_1 && ((a1_2 == 0 && (a1_3 == 0)) && (a1_8 == 0))))) else (some (!a1_0 && (!a1_1 && (((a1_4 == 0 && (a1_5 == 0)) && ((a1_6 == 0 && (a1_7 == 0)))) && (a1_8 == 0))))))
set_option maxHeartbeats 8000000 in
set_option maxRecDepth 100000 in
theorem medlarref07_May.calls (A0 : Option Addr) (c0 : Nat) (l0 : List (S75)) (a1_0 : Bool) (a1_1 : Bool) (a1_2 : Int) (a1_3 : Int) (a1_4 : Int) (a1_5 : Int) (a1_6 : Int) (a1_7 : Int) (a1_8 : Int) (r : Bool) (w : World) (hr0 : Kd.C k75 w A0 l0.length l0) (hc0 : l0.length ≤ c0) (h : medlarref07_May.f l0 a1_0 a1_1 a1_2 a1_3 a1_4 a1_5 a1_6 a1_7 a1_8 = some r) :
   Calls Try.prog 148 #[.slice A0 l0.length c0, .agg #[.bool a1_0, .bool a1_1, .int .u64 a1_2, .int .u64 a1_3, .int .u64 a1_4, .int .u64 a1_5, .int .u64 a1_6, .int .u64 a1_7, .int .i64 a1_8]] w fun e w' => e = .returned (.bool r) ∧ Below w.heap.size w w' := by
  have hu29 := underlying29
  have hu27 := underlying27
  have hu25 := underlying25
  have HR0 := ak_ hr0
  have HC0 := ak_ hc0
  clear hr0 hc0
  have HB := ak_ (Below.refl w.heap.size w)
  have H : (if a1_0 = true then (if (a1_0 && (!a1_1 && ((a1_2 == 0 && (a1_3 == 0)) && (((a1_4 == 0 && (a1_5 == 0)) && ((a1_6 == 0 && (a1_7 == 0)))))))) = true then (if a1_8 ≥ 0 then (some (decide (a1_8 < (l0.length : Int)))) else (some false)) else (some false)) else (if a1_1 = true then (some (!a1_0 && (a1_1 && ((a1_2 == 0 && (a1_3 == 0)) && (a1_8 == 0))))) else (some (!a1_0 && (!a1_1 && (((a1_4 == 0 && (a1_5 == 0)) && ((a1_6 == 0 && (a1_7 == 0)))) && (a1_8 == 0))))))) = some r := h
  clear h
  by_cases c3 : a1_0 = true
  ·subst c3
   have H1 : (if (true && (!a1_1 && ((a1_2 == 0 && (a1_3 == 0)) && (((a1_4 == 0 && (a1_5 == 0)) && ((a1_6 == 0 && (a1_7 == 0)))))))) = true then (if a1_8 ≥ 0 then (some (decide (a1_8 < (l0.length : Int)))) else (some false)) else (some false)) = some r := by rw [if_pos rfl] at H; exact H
   clear H
   have H := H1
   clear H1
   by_cases c4 : (true && (!a1_1 && ((a1_2 == 0 && (a1_3 == 0)) && (((a1_4 == 0 && (a1_5 == 0)) && ((a1_6 == 0 && (a1_7 == 0)))))))) = true
   ·rw [if_pos c4] at H
    have c4b0 : (true && (!a1_1 && ((a1_2 == 0 && (a1_3 == 0)) && (((a1_4 == 0 && (a1_5 == 0)) && ((a1_6 == 0 && (a1_7 == 0)))))))) = true := c4
    clear c4
    by_cases c5 : a1_8 ≥ 0
    ·rw [if_pos c5] at H
     have c5b0 : decide (0 ≤ a1_8) = true := decide_eq_true c5
     clear c5
     obtain rfl := Option.some.inj H
     go_enter func148, ntmps148
     go_wp2_with (first | ((with_reducible refine gate_dst (N := 3) rfl ?_); (try (refine gate_guard (by rfl) ?_; dsimp only)); refine bx_ 3 #[.bool true, .bool a1_1, .int .u64 a1_2, .int .u64 a1_3, .int .u64 a1_4, .int .u64 a1_5, .int .u64 a1_6, .int .u64 a1_7, .int .i64 a1_8] 29 ?_; intro gb310 hg w6 hbox hb; have BK310 := ak_ hbox; have GW310 := ak_ (gs_ hg HB); have GE310 := ak_ (gs_ hg HB); replace HB := ak_ (bt_ (bl_ HB) hb); clear hb hbox hg; have hcz7_0 := kq_ BK310.out 0 rfl; have hcz7_1 := kq_ BK310.out 1 rfl; have hcz7_2 := kq_ BK310.out 2 rfl; have hcz7_3 := kq_ BK310.out 3 rfl; have hcz7_4 := kq_ BK310.out 4 rfl; have hcz7_5 := kq_ BK310.out 5 rfl; have hcz7_6 := kq_ BK310.out 6 rfl; have hcz7_7 := kq_ BK310.out 7 rfl; have hcz7_8 := kq_ BK310.out 8 rfl; have hfz7_0 := kf_ BK310.out 0; have hfz7_1 := kf_ BK310.out 1; have hfz7_2 := kf_ BK310.out 2; have hfz7_3 := kf_ BK310.out 3; have hfz7_4 := kf_ BK310.out 4; have hfz7_5 := kf_ BK310.out 5; have hfz7_6 := kf_ BK310.out 6; have hfz7_7 := kf_ BK310.out 7; have hfz7_8 := kf_ BK310.out 8))
     go_ret
     exact ea_ (by repeat (first | (with_reducible first | exact HB.out | apply ba_ | apply bn_ | apply bd_ | refine below_set ?_ GE310.out) | exact HB.out))
    ·rw [if_neg c5] at H
     have c5b0 : decide (0 ≤ a1_8) = false := decide_eq_false c5
     clear c5
     obtain rfl := Option.some.inj H
     go_enter func148, ntmps148
     go_wp2_with (first | ((with_reducible refine gate_dst (N := 3) rfl ?_); (try (refine gate_guard (by rfl) ?_; dsimp only)); refine bx_ 3 #[.bool true, .bool a1_1, .int .u64 a1_2, .int .u64 a1_3, .int .u64 a1_4, .int .u64 a1_5, .int .u64 a1_6, .int .u64 a1_7, .int .i64 a1_8] 29 ?_; intro gb310 hg w8 hbox hb; have BK310 := ak_ hbox; have GW310 := ak_ (gs_ hg HB); have GE310 := ak_ (gs_ hg HB); replace HB := ak_ (bt_ (bl_ HB) hb); clear hb hbox hg; have hcz9_0 := kq_ BK310.out 0 rfl; have hcz9_1 := kq_ BK310.out 1 rfl; have hcz9_2 := kq_ BK310.out 2 rfl; have hcz9_3 := kq_ BK310.out 3 rfl; have hcz9_4 := kq_ BK310.out 4 rfl; have hcz9_5 := kq_ BK310.out 5 rfl; have hcz9_6 := kq_ BK310.out 6 rfl; have hcz9_7 := kq_ BK310.out 7 rfl; have hcz9_8 := kq_ BK310.out 8 rfl; have hfz9_0 := kf_ BK310.out 0; have hfz9_1 := kf_ BK310.out 1; have hfz9_2 := kf_ BK310.out 2; have hfz9_3 := kf_ BK310.out 3; have hfz9_4 := kf_ BK310.out 4; have hfz9_5 := kf_ BK310.out 5; have hfz9_6 := kf_ BK310.out 6; have hfz9_7 := kf_ BK310.out 7; have hfz9_8 := kf_ BK310.out 8))
     go_ret
     exact ea_ (by repeat (first | (with_reducible first | exact HB.out | apply ba_ | apply bn_ | apply bd_ | refine below_set ?_ GE310.out) | exact HB.out))
   ·rw [if_neg c4] at H
    have c4b0 : (true && (!a1_1 && ((a1_2 == 0 && (a1_3 == 0)) && (((a1_4 == 0 && (a1_5 == 0)) && ((a1_6 == 0 && (a1_7 == 0)))))))) = false := by simpa using c4
    clear c4
    obtain rfl := Option.some.inj H
    go_enter func148, ntmps148
    go_wp2_with (first | ((with_reducible refine gate_dst (N := 3) rfl ?_); (try (refine gate_guard (by rfl) ?_; dsimp only)); refine bx_ 3 #[.bool true, .bool a1_1, .int .u64 a1_2, .int .u64 a1_3, .int .u64 a1_4, .int .u64 a1_5, .int .u64 a1_6, .int .u64 a1_7, .int .i64 a1_8] 29 ?_; intro gb310 hg w10 hbox hb; have BK310 := ak_ hbox; have GW310 := ak_ (gs_ hg HB); have GE310 := ak_ (gs_ hg HB); replace HB := ak_ (bt_ (bl_ HB) hb); clear hb hbox hg; have hcz11_0 := kq_ BK310.out 0 rfl; have hcz11_1 := kq_ BK310.out 1 rfl; have hcz11_2 := kq_ BK310.out 2 rfl; have hcz11_3 := kq_ BK310.out 3 rfl; have hcz11_4 := kq_ BK310.out 4 rfl; have hcz11_5 := kq_ BK310.out 5 rfl; have hcz11_6 := kq_ BK310.out 6 rfl; have hcz11_7 := kq_ BK310.out 7 rfl; have hcz11_8 := kq_ BK310.out 8 rfl; have hfz11_0 := kf_ BK310.out 0; have hfz11_1 := kf_ BK310.out 1; have hfz11_2 := kf_ BK310.out 2; have hfz11_3 := kf_ BK310.out 3; have hfz11_4 := kf_ BK310.out 4; have hfz11_5 := kf_ BK310.out 5; have hfz11_6 := kf_ BK310.out 6; have hfz11_7 := kf_ BK310.out 7; have hfz11_8 := kf_ BK310.out 8))
    go_ret
    exact ea_ (by repeat (first | (with_reducible first | exact HB.out | apply ba_ | apply bn_ | apply bd_ | refine below_set ?_ GE310.out) | exact HB.out))
  ·replace c3 := Bool.eq_false_iff.mpr c3
   subst c3
   have H1 : (if a1_1 = true then (some (!false && (a1_1 && ((a1_2 == 0 && (a1_3 == 0)) && (a1_8 == 0))))) else (some (!false && (!a1_1 && (((a1_4 == 0 && (a1_5 == 0)) && ((a1_6 == 0 && (a1_7 == 0)))) && (a1_8 == 0)))))) = some r := by rw [if_neg (show ¬ (false = true) by decide)] at H; exact H
   clear H
   have H := H1
   clear H1
   by_cases c12 : a1_1 = true
   ·subst c12
    have H1 : (some (!false && (true && ((a1_2 == 0 && (a1_3 == 0)) && (a1_8 == 0))))) = some r := by rw [if_pos rfl] at H; exact H
    clear H
    have H := H1
    clear H1
    obtain rfl := Option.some.inj H
    go_enter func148, ntmps148
    go_wp2_with (first | ((with_reducible refine gate_dst (N := 3) rfl ?_); (try (refine gate_guard (by rfl) ?_; dsimp only)); refine bx_ 3 #[.bool false, .bool true, .int .u64 a1_2, .int .u64 a1_3, .int .u64 a1_4, .int .u64 a1_5, .int .u64 a1_6, .int .u64 a1_7, .int .i64 a1_8] 29 ?_; intro gb310 hg w13 hbox hb; have BK310 := ak_ hbox; have GW310 := ak_ (gs_ hg HB); have GE310 := ak_ (gs_ hg HB); replace HB := ak_ (bt_ (bl_ HB) hb); clear hb hbox hg; have hcz14_0 := kq_ BK310.out 0 rfl; have hcz14_1 := kq_ BK310.out 1 rfl; have hcz14_2 := kq_ BK310.out 2 rfl; have hcz14_3 := kq_ BK310.out 3 rfl; have hcz14_4 := kq_ BK310.out 4 rfl; have hcz14_5 := kq_ BK310.out 5 rfl; have hcz14_6 := kq_ BK310.out 6 rfl; have hcz14_7 := kq_ BK310.out 7 rfl; have hcz14_8 := kq_ BK310.out 8 rfl; have hfz14_0 := kf_ BK310.out 0; have hfz14_1 := kf_ BK310.out 1; have hfz14_2 := kf_ BK310.out 2; have hfz14_3 := kf_ BK310.out 3; have hfz14_4 := kf_ BK310.out 4; have hfz14_5 := kf_ BK310.out 5; have hfz14_6 := kf_ BK310.out 6; have hfz14_7 := kf_ BK310.out 7; have hfz14_8 := kf_ BK310.out 8))
    go_ret
    exact ea_ (by repeat (first | (with_reducible first | exact HB.out | apply ba_ | apply bn_ | apply bd_ | refine below_set ?_ GE310.out) | exact HB.out))
   ·replace c12 := Bool.eq_false_iff.mpr c12
    subst c12
    have H1 : (some (!false && (!false && (((a1_4 == 0 && (a1_5 == 0)) && ((a1_6 == 0 && (a1_7 == 0)))) && (a1_8 == 0))))) = some r := by rw [if_neg (show ¬ (false = true) by decide)] at H; exact H
    clear H
    have H := H1
    clear H1
    obtain rfl := Option.some.inj H
    go_enter func148, ntmps148
    go_wp2_with (first | ((with_reducible refine gate_dst (N := 3) rfl ?_); (try (refine gate_guard (by rfl) ?_; dsimp only)); refine bx_ 3 #[.bool false, .bool false, .int .u64 a1_2, .int .u64 a1_3, .int .u64 a1_4, .int .u64 a1_5, .int .u64 a1_6, .int .u64 a1_7, .int .i64 a1_8] 29 ?_; intro gb310 hg w15 hbox hb; have BK310 := ak_ hbox; have GW310 := ak_ (gs_ hg HB); have GE310 := ak_ (gs_ hg HB); replace HB := ak_ (bt_ (bl_ HB) hb); clear hb hbox hg; have hcz16_0 := kq_ BK310.out 0 rfl; have hcz16_1 := kq_ BK310.out 1 rfl; have hcz16_2 := kq_ BK310.out 2 rfl; have hcz16_3 := kq_ BK310.out 3 rfl; have hcz16_4 := kq_ BK310.out 4 rfl; have hcz16_5 := kq_ BK310.out 5 rfl; have hcz16_6 := kq_ BK310.out 6 rfl; have hcz16_7 := kq_ BK310.out 7 rfl; have hcz16_8 := kq_ BK310.out 8 rfl; have hfz16_0 := kf_ BK310.out 0; have hfz16_1 := kf_ BK310.out 1; have hfz16_2 := kf_ BK310.out 2; have hfz16_3 := kf_ BK310.out 3; have hfz16_4 := kf_ BK310.out 4; have hfz16_5 := kf_ BK310.out 5; have hfz16_6 := kf_ BK310.out 6; have hfz16_7 := kf_ BK310.out 7; have hfz16_8 := kf_ BK310.out 8))
    go_ret
    exact ea_ (by repeat (first | (with_reducible first | exact HB.out | apply ba_ | apply bn_ | apply bd_ | refine below_set ?_ GE310.out) | exact HB.out))
end Go.Proofs.Ytoljdfgkkkpnbaa.MP
