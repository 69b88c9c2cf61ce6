-- written by a program of this session (wip/tools/mprint.sh) for this seat
import Derived.Test.YtoljdfgkkkpnbaaMPx0
import Derived.Test.YtoljdfgkkkpnbaaMPx4
import Derived.Test.YtoljdfgkkkpnbaaMPx6
namespace Go.Proofs.Ytoljdfgkkkpnbaa.MP
open Go.RowKit Go.Proofs.YtoljdfgkkkpnbaaW.PrintWords Go.Proofs.YtoljdfgkkkpnbaaW.PrintLast Go.Proofs.YtoljdfgkkkpnbaaW.PrintMore
open Option (bind_eq_some_iff some.injEq)
open _root_.Go.Proofs.Try
open List (setIfInBounds_toArray set_cons_zero set_cons_succ map_toArray map_cons map_nil length_drop length_take)
attribute [local go_sem] max2_int min2_int max_two min_two max_three min_three max_four min_four
set_option linter.unusedVariables false
set_option linter.unusedSimpArgs false
def medlarref16_put.l0 : Nat → Int → List Int → Int → Int → Option (List Int)
  | 0, _, _, _, _ => none
  | k + 1, x0, x5, x6, x7 => if x7 < x6 then (if x5.length < 140737488355328 then (medlarref16_put.l0 k (IntKind.u64.wrap (Int.tdiv x0 256)) (x5 ++ [(Int.tmod x0 256) % 256]) x6 (wrap64 (x7 + 1))) else (none)) else (some x5)
def medlarref16_put.f (k : Nat) (a0 : Int) (a1 : Int) : Option (List Int) := medlarref16_put.l0 k a0 ([] : List Int) a1 0
theorem medlarref16_put.mono_l : ∀ k, (∀ y0 y1 y2 y3, LeO (medlarref16_put.l0 k y0 y1 y2 y3) (medlarref16_put.l0 (k + 1) y0 y1 y2 y3))
  | 0 => fun _ _ _ _ r h => by simp [medlarref16_put.l0] at h
  | k + 1 => by
   have ih0 := medlarref16_put.mono_l k
   ·intro y0 y1 y2 y3
    unfold medlarref16_put.l0
    repeat' first | (with_reducible first | exact ih0 .. | exact LeO.refl _ | exact LeO.none _ | refine LeO.ite ?_ ?_ | refine LeO.bind ?_ (fun _ => ?_)) | exact ih0 .. | refine LeO.ite ?_ ?_ | refine LeO.bind ?_ (fun _ => ?_)
theorem medlarref16_put.mono : ∀ a0 a1 k, LeO (medlarref16_put.f k a0 a1) (medlarref16_put.f (k + 1) a0 a1) := by
  intro a0 a1 k
  have ih0 := medlarref16_put.mono_l k
  unfold medlarref16_put.f
  repeat' first | (with_reducible first | exact ih0 .. | exact LeO.refl _ | exact LeO.none _ | refine LeO.ite ?_ ?_ | refine LeO.bind ?_ (fun _ => ?_)) | exact ih0 .. | refine LeO.ite ?_ ?_ | refine LeO.bind ?_ (fun _ => ?_)
set_option maxHeartbeats 8000000 in
set_option maxRecDepth 100000 in
theorem medlarref16_put.calls (k : Nat) (a0 : Int) (a1 : Int) (r : List Int) (w : World) (h : medlarref16_put.f k a0 a1 = some r) :
   Calls Try.prog 56 #[.int .u64 a0, .int .i64 a1] w fun e w' => ∃ v0_ : Value, e = .returned (v0_) ∧ Kd.R (Kd.int .u8) 5 w' w.heap.size (fun _ => True) v0_ r ∧ Below w.heap.size w w' := by
  have HB := ak_ (Below.refl w.heap.size w)
  have H : (medlarref16_put.l0 k a0 ([] : List Int) a1 0) = some r := h
  clear h
  have H' := ak_ H
  clear H
  go_enter func56, ntmps56
  go_wp2
  go_loopg [0, 5, 7] k (fun kq v0 v5 v7 w' => ∃ (x0_1 : Int) (x5_1 : List Int) (x7_1 : Int), v0 = .int .u64 x0_1 ∧ v7 = .int .i64 x7_1 ∧ Aside0 (medlarref16_put.l0 kq x0_1 x5_1 a1 x7_1 = some r) ∧ Aside0 (kq ≤ k) ∧ Aside0 (Kd.R (Kd.int .u8) 5 w' w.heap.size (fun _ => True) v5 x5_1) ∧ Aside0 (Below w.heap.size w w'))
  case atStart => exact ⟨(a0), (([] : List Int)), (0), rf_, rf_, H', ⟨Nat.le_refl _⟩, ⟨by first | exact Kd.R_nil _ _ _ _ _ | exact Kd.N_nil _ _ _ _ _ | exact Kd.V_nil _ _ _ _ _ | exact Kd.Q_nil _ _ _ _ _ | exact Kd.S_nil _ _ _ _ _⟩, ⟨bl_ HB⟩⟩
  case round =>
   clear H'
   try clear p2
   obtain ⟨x0_1, x5_1, x7_1, rfl, rfl, HA, HK1, HO_5, HB⟩ := hrel
   cases gk with
   | zero => exact absurd HA.out (by simp [medlarref16_put.l0])
   | succ k1 =>
    have H := HA.out
    clear HA
    simp only [medlarref16_put.l0] at H
    by_cases c3 : x7_1 < a1
    ·rw [if_pos c3] at H
     have c3b0 := decide_eq_true c3
     clear c3
     by_cases c4 : x5_1.length < 140737488355328
     ·rw [if_pos c4] at H
      have LMc4 := ak_ c4
      clear c4
      obtain ⟨y285, hy285⟩ : ∃ y_ : List Int, y_ = (x5_1 ++ [(Int.tmod x0_1 256) % 256]) := ⟨_, rfl⟩
      replace H : (medlarref16_put.l0 k1 (IntKind.u64.wrap (Int.tdiv x0_1 256)) y285 a1 (wrap64 (x7_1 + 1))) = some r := by first | (rw [hy285]; with_reducible exact H) | (have H2_ := (Option.bind_some _ _).symm.trans H; rw [hy285]; with_reducible exact H2_) | (have H2_ := (Option.bind_some _ _).symm.trans H; with_reducible exact H2_) | with_reducible exact H | (rw [hy285]; exact H) | exact H
      have Ny285 := ak_ hy285
      clear hy285
      have H' := ak_ H
      clear H
      go_wp2_with (first | ((with_reducible refine gate_builtin (b := .append) (xs := #[.tmp 9, .tmp 13]) rfl ?_); at_builtin; refine Kd.R_append (Kd.int .u8) (w0 := w) w.heap.size rfl (.tmp 9) (.tmp 13) 35 5 (.int .u8 0) 1 rfl underlying35 info5 rfl (by decide) (by omega) u5 x5_1 ((Int.tmod x0_1 256) % 256) [.int .u8 ((Int.tmod x0_1 256) % 256)] (fun _ => True) (fun _ => False) rfl rfl ?aP (fun _ hk => hk.elim) ?aF ?aO ?aB ?aS ?aL ?_; (case aP => exact rfl); (case aB => exact (bl_ HB)); (case aF => exact (fun _ _ => trivial)); (case aO => exact (rl_ HO_5)); (case aS => exact (bz_ (bl_ HB))); (case aL => have := LMc4.out; omega); intro v286 w5 ho hb hg hat; rw [← Ny285.out] at ho; replace HB := ak_ hb; have HO287 := ak_ ho; clear HO_5; clear ho hb hg hat))
      go_roundg k1
      case measure => have := HK1.out; omega
      case rel => exact ⟨(IntKind.u64.wrap (Int.tdiv x0_1 256)), (y285), (wrap64 (x7_1 + 1)), rf_, rf_, H', ⟨by have := HK1.out; omega⟩, ⟨rl_ HO287⟩, ⟨bl_ HB⟩⟩
     ·rw [if_neg c4] at H
      exact absurd H (by simp)
    ·rw [if_neg c3] at H
     have c3b0 := decide_eq_false c3
     clear c3
     obtain rfl := Option.some.inj H
     go_wp2
     go_ret
     exact ⟨_, by first | rfl | (simp <;> rfl) | (simp [*] <;> rfl), by (with_reducible repeat (first | apply Kd.R_alloc | apply Kd.R_drewN | apply Kd.R_drew)); exact HO_5.out, bl_ HB⟩
mutual
def medlarref03_Octets.l0 : Nat → List Int → List Int → Int → Option (List Int)
  | 0, _, _, _ => none
  | k + 1, x3, x6, x7 => if x7 < 2 then (if 0 ≤ x7 then (if x7 < 2 then (medlarref03_Octets.l1 k x3 (rd x6 x7) x6 x7 0) else (none)) else (none)) else (some x3)
def medlarref03_Octets.l1 : Nat → List Int → Int → List Int → Int → Int → Option (List Int)
  | 0, _, _, _, _, _ => none
  | k + 1, x3, x5, x6, x7, x10 => if x10 < 8 then (if x3.length < 140737488355328 then (medlarref03_Octets.l1 k (x3 ++ [(Int.tmod x5 256) % 256]) (IntKind.u64.wrap (Int.tdiv x5 256)) x6 x7 (wrap64 (x10 + 1))) else (none)) else (medlarref03_Octets.l0 k x3 x6 (wrap64 (x7 + 1)))
end
def medlarref03_Octets.g (k : Nat) (l0 : List Int) : Option (List Int) := medlarref03_Octets.l0 k ([] : List Int) l0 0
def medlarref03_Octets.f (k : Nat) (a0_0 : Int) (a0_1 : Int) : Option (List Int) := medlarref03_Octets.g k [a0_0, a0_1]
theorem medlarref03_Octets.mono_l : ∀ k, (∀ y0 y1 y2, LeO (medlarref03_Octets.l0 k y0 y1 y2) (medlarref03_Octets.l0 (k + 1) y0 y1 y2)) ∧ (∀ y0 y1 y2 y3 y4, LeO (medlarref03_Octets.l1 k y0 y1 y2 y3 y4) (medlarref03_Octets.l1 (k + 1) y0 y1 y2 y3 y4))
  | 0 => ⟨fun _ _ _ r h => by simp [medlarref03_Octets.l0] at h, fun _ _ _ _ _ r h => by simp [medlarref03_Octets.l1] at h⟩
  | k + 1 => by
   obtain ⟨ih0, ih1⟩ := medlarref03_Octets.mono_l k
   refine ⟨?_, ?_⟩
   all_goals intros
   all_goals first | unfold medlarref03_Octets.l0 | unfold medlarref03_Octets.l1
   all_goals repeat' first | (with_reducible first | exact ih0 .. | exact ih1 .. | exact LeO.refl _ | exact LeO.none _ | refine LeO.ite ?_ ?_ | refine LeO.bind ?_ (fun _ => ?_)) | exact ih0 .. | exact ih1 .. | refine LeO.ite ?_ ?_ | refine LeO.bind ?_ (fun _ => ?_)
theorem medlarref03_Octets.mono : ∀ a0 a1 k, LeO (medlarref03_Octets.f k a0 a1) (medlarref03_Octets.f (k + 1) a0 a1) := by
  intro a0 a1 k
  obtain ⟨ih0, ih1⟩ := medlarref03_Octets.mono_l k
  unfold medlarref03_Octets.f medlarref03_Octets.g
  repeat' first | (with_reducible first | exact ih0 .. | exact ih1 .. | exact LeO.refl _ | exact LeO.none _ | refine LeO.ite ?_ ?_ | refine LeO.bind ?_ (fun _ => ?_)) | exact ih0 .. | exact ih1 .. | refine LeO.ite ?_ ?_ | refine LeO.bind ?_ (fun _ => ?_)
set_option maxHeartbeats 8000000 in
set_option maxRecDepth 100000 in
theorem medlarref03_Octets.calls (k : Nat) (a0_0 : Int) (a0_1 : Int) (r : List Int) (w : World) (h : medlarref03_Octets.f k a0_0 a0_1 = some r) :
   Calls Try.prog 76 #[.agg #[.int .u64 a0_0, .int .u64 a0_1]] w fun e w' => ∃ v0_ : Value, e = .returned (v0_) ∧ Kd.R (Kd.int .u8) 5 w' w.heap.size (fun _ => True) v0_ r ∧ Below w.heap.size w w' := by
  have hu_b := underlying25
  have HB := ak_ (Below.refl w.heap.size w)
  have H : (medlarref03_Octets.l0 k ([] : List Int) [a0_0, a0_1] 0) = some r := h
  clear h
  have H' := ak_ H
  clear H
  go_enter func76, ntmps76
  go_wp2_with (first | ((with_reducible refine gate_dst (N := 1) rfl ?_); refine bx_ 1 #[.int .u64 a0_0, .int .u64 a0_1] 25 ?_; intro gb0 hg wq hbox hb; have m_ := ak_ (bt_ HB.out hb); have hzb0 : wq.cell? ⟨gb0, 0, none⟩ = some (.int .u64 a0_0) := (kc_ hbox 0).trans rfl; have hzb1 : wq.cell? ⟨gb0, 1, none⟩ = some (.int .u64 a0_1) := (kc_ hbox 1).trans rfl; clear HB; have HB := m_; clear m_ hb hg))
  go_loopg [3, 7] k (fun kq v3 v7 w' => ∃ (x3_1 : List Int) (x7_1 : Int), v7 = .int .i64 x7_1 ∧ Aside0 (medlarref03_Octets.l0 kq x3_1 [a0_0, a0_1] x7_1 = some r) ∧ Aside0 (kq ≤ k) ∧ Aside0 (Kd.R (Kd.int .u8) 5 w' w.heap.size (fun _ => True) v3 x3_1) ∧ Aside0 (Below w.heap.size w w'))
  case atStart => exact ⟨(([] : List Int)), (0), rf_, H', ⟨Nat.le_refl _⟩, ⟨by first | exact Kd.R_nil _ _ _ _ _ | exact Kd.N_nil _ _ _ _ _ | exact Kd.V_nil _ _ _ _ _ | exact Kd.Q_nil _ _ _ _ _ | exact Kd.S_nil _ _ _ _ _⟩, ⟨bl_ HB⟩⟩
  case round =>
   clear H'
   obtain ⟨x3_1, x7_1, rfl, HA, HK1, HO_3, HB⟩ := hrel
   cases gk with
   | zero => exact absurd HA.out (by simp [medlarref03_Octets.l0])
   | succ k1 =>
    have H := HA.out
    clear HA
    simp only [medlarref03_Octets.l0] at H
    by_cases c2 : x7_1 < 2
    ·rw [if_pos c2] at H
     have c2b0 := decide_eq_true c2
     clear c2
     by_cases c3 : 0 ≤ x7_1
     ·rw [if_pos c3] at H
      have c3b0 := decide_eq_true c3
      clear c3
      by_cases c4 : x7_1 < 2
      ·rw [if_pos c4] at H
       have c4b0 := decide_eq_true c4
       clear c4
       have H' := ak_ H
       clear H
       have p288 : 0 ≤ (x7_1 : Int) := od_ (by first | (with_reducible assumption) | assumption)
       have q288 : x7_1 < 2 := od_ (by first | (with_reducible assumption) | assumption)
       have hx288_0 := arr_index2 underlying25 (by kernel_rfl) (by kernel_rfl) a0_0 a0_1 x7_1 p288 q288
       replace p288 := eq_true p288
       replace q288 := eq_true q288
       go_wp2
       go_loopg [3, 5, 10] k1 (fun kq v3 v5 v10 w' => ∃ (x3_2 : List Int) (x5_2 : Int) (x10_2 : Int), v5 = .int .u64 x5_2 ∧ v10 = .int .i64 x10_2 ∧ Aside0 (medlarref03_Octets.l1 kq x3_2 x5_2 [a0_0, a0_1] x7_1 x10_2 = some r) ∧ Aside0 (kq ≤ k1) ∧ Aside0 (Kd.R (Kd.int .u8) 5 w' w.heap.size (fun _ => True) v3 x3_2) ∧ Aside0 (Below w.heap.size w w'))
       case atStart => exact ⟨(x3_1), (rd [a0_0, a0_1] x7_1), (0), rf_, rf_, H', ⟨Nat.le_refl _⟩, ⟨rl_ HO_3⟩, ⟨bl_ HB⟩⟩
       case round =>
        clear H'
        try clear c2
        try clear c2b0
        try clear p2
        try clear q2
        try clear hx2
        try clear c3
        try clear c3b0
        try clear c4
        try clear c4b0
        try clear hx288_0
        try clear p288
        try clear q288
        obtain ⟨x3_2, x5_2, x10_2, rfl, rfl, HA, HK2, HO_3, HB⟩ := hrel
        cases gk with
        | zero => exact absurd HA.out (by simp [medlarref03_Octets.l1])
        | succ k2 =>
         have H := HA.out
         clear HA
         simp only [medlarref03_Octets.l1] at H
         by_cases c5 : x10_2 < 8
         ·rw [if_pos c5] at H
          have c5b0 := decide_eq_true c5
          clear c5
          by_cases c6 : x3_2.length < 140737488355328
          ·rw [if_pos c6] at H
           have LMc6 := ak_ c6
           clear c6
           obtain ⟨y289, hy289⟩ : ∃ y_ : List Int, y_ = (x3_2 ++ [(Int.tmod x5_2 256) % 256]) := ⟨_, rfl⟩
           replace H : (medlarref03_Octets.l1 k2 y289 (IntKind.u64.wrap (Int.tdiv x5_2 256)) [a0_0, a0_1] x7_1 (wrap64 (x10_2 + 1))) = some r := by first | (rw [hy289]; with_reducible exact H) | (have H2_ := (Option.bind_some _ _).symm.trans H; rw [hy289]; with_reducible exact H2_) | (have H2_ := (Option.bind_some _ _).symm.trans H; with_reducible exact H2_) | with_reducible exact H | (rw [hy289]; exact H) | exact H
           have Ny289 := ak_ hy289
           clear hy289
           have H' := ak_ H
           clear H
           go_wp2_with (first | ((with_reducible refine gate_builtin (b := .append) (xs := #[.tmp 12, .tmp 16]) rfl ?_); at_builtin; refine Kd.R_append (Kd.int .u8) (w0 := w) w.heap.size rfl (.tmp 12) (.tmp 16) 35 5 (.int .u8 0) 1 rfl underlying35 info5 rfl (by decide) (by omega) u3 x3_2 ((Int.tmod x5_2 256) % 256) [.int .u8 ((Int.tmod x5_2 256) % 256)] (fun _ => True) (fun _ => False) rfl rfl ?aP (fun _ hk => hk.elim) ?aF ?aO ?aB ?aS ?aL ?_; (case aP => exact rfl); (case aB => exact (bl_ HB)); (case aF => exact (fun _ _ => trivial)); (case aO => exact (rl_ HO_3)); (case aS => exact (bz_ (bl_ HB))); (case aL => have := LMc6.out; omega); intro v290 w7 ho hb hg hat; rw [← Ny289.out] at ho; replace HB := ak_ hb; have HO291 := ak_ ho; clear HO_3; clear ho hb hg hat))
           go_roundg k2
           case measure => have := HK1.out; have := HK2.out; omega
           case rel => exact ⟨(y289), (IntKind.u64.wrap (Int.tdiv x5_2 256)), (wrap64 (x10_2 + 1)), rf_, rf_, H', ⟨by have := HK1.out; have := HK2.out; omega⟩, ⟨rl_ HO291⟩, ⟨bl_ HB⟩⟩
          ·rw [if_neg c6] at H
           exact absurd H (by simp)
         ·rw [if_neg c5] at H
          have c5b0 := decide_eq_false c5
          clear c5
          have H' := ak_ H
          clear H
          go_wp2
          go_roundg k2
          case measure => have := HK1.out; have := HK2.out; omega
          case rel => exact ⟨(x3_2), (wrap64 (x7_1 + 1)), rf_, H', ⟨by have := HK1.out; have := HK2.out; omega⟩, ⟨rl_ HO_3⟩, ⟨bl_ HB⟩⟩
      ·rw [if_neg c4] at H
       exact absurd H (by simp)
     ·rw [if_neg c3] at H
      exact absurd H (by simp)
    ·rw [if_neg c2] at H
     have c2b0 := decide_eq_false c2
     clear c2
     obtain rfl := Option.some.inj H
     go_wp2
     go_ret
     exact ⟨_, by first | rfl | (simp <;> rfl) | (simp [*] <;> rfl), by (with_reducible repeat (first | apply Kd.R_alloc | apply Kd.R_drewN | apply Kd.R_drew)); exact HO_3.out, bl_ HB⟩
def medlarref04_Octets.f (k : Nat) (a0_0 : Int) (a0_1 : Int) (a0_2 : Int) (a0_3 : Int) : Option (List Int) := (medlarref03_Octets.f k a0_0 a0_1).bind fun t293 => ((medlarref03_Octets.f k a0_2 a0_3).bind fun t296 => (if t293.length + t296.length < 140737488355328 then (some (t293 ++ t296)) else (none)))
theorem medlarref04_Octets.mono : ∀ a0 a1 a2 a3 k, LeO (medlarref04_Octets.f k a0 a1 a2 a3) (medlarref04_Octets.f (k + 1) a0 a1 a2 a3) := by
  intro a0 a1 a2 a3 k
  unfold medlarref04_Octets.f
  repeat' first | (with_reducible first | exact medlarref03_Octets.mono .. | exact LeO.refl _ | exact LeO.none _ | refine LeO.ite ?_ ?_ | refine LeO.bind ?_ (fun _ => ?_)) | exact medlarref03_Octets.mono .. | refine LeO.ite ?_ ?_ | refine LeO.bind ?_ (fun _ => ?_)
def medlarref04_Octets.T1 : Bool × List (List Nat × List Nat) := (true, [([], []), ([0], [0]), ([1], [1]), ([], []), ([3], [3]), ([4, 2], [4]), ([2, 5, 5], [2, 5]), ([6, 6, 0, 1, 2, 3, 4, 5, 6], [6])])
def medlarref04_Octets.B1 : List Nat := [0, 1, 3, 0, 8, 31, 63, 127]
theorem medlarref04_Octets.tab1 : rtab .any (opsOf Try.f57 1) = medlarref04_Octets.T1 := by kernel_rfl
theorem medlarref04_Octets.bits1 : waitsOk medlarref04_Octets.T1.2 medlarref04_Octets.B1 = true := by kernel_rfl
set_option maxHeartbeats 8000000 in
set_option maxRecDepth 100000 in
theorem medlarref04_Octets.calls (k : Nat) (a0_0 : Int) (a0_1 : Int) (a0_2 : Int) (a0_3 : Int) (r : List Int) (w : World) (h : medlarref04_Octets.f k a0_0 a0_1 a0_2 a0_3 = some r) :
   Calls Try.prog 57 #[.agg #[.int .u64 a0_0, .int .u64 a0_1, .int .u64 a0_2, .int .u64 a0_3]] w fun e w' => ∃ v0_ : Value, e = .returned (v0_) ∧ Kd.R (Kd.int .u8) 5 w' w.heap.size (fun _ => True) v0_ r ∧ Below w.heap.size w w' := by
  have hu27 := underlying27
  have hu25 := underlying25
  have HB := ak_ (Below.refl w.heap.size w)
  have H : ((medlarref03_Octets.f k a0_0 a0_1).bind fun t293 => ((medlarref03_Octets.f k a0_2 a0_3).bind fun t296 => (if t293.length + t296.length < 140737488355328 then (some (t293 ++ t296)) else (none)))) = some r := h
  clear h
  replace H := bind_eq_some_iff.mp H
  obtain ⟨t293, A20, H⟩ := H
  replace H : ((medlarref03_Octets.f k a0_2 a0_3).bind fun t296 => (if t293.length + t296.length < 140737488355328 then (some (t293 ++ t296)) else (none))) = some r := H
  have A2 := ak_ A20
  clear A20
  replace H := bind_eq_some_iff.mp H
  obtain ⟨t296, A30, H⟩ := H
  replace H : (if t293.length + t296.length < 140737488355328 then (some (t293 ++ t296)) else (none)) = some r := H
  have A3 := ak_ A30
  clear A30
  by_cases c4 : t293.length + t296.length < 140737488355328
  ·rw [if_pos c4] at H
   have LMc4 := ak_ c4
   clear c4
   obtain ⟨y299, hy299⟩ : ∃ y_ : List Int, y_ = (t293 ++ t296) := ⟨_, rfl⟩
   replace H : (some y299) = some r := by first | (rw [hy299]; with_reducible exact H) | (have H2_ := (Option.bind_some _ _).symm.trans H; rw [hy299]; with_reducible exact H2_) | (have H2_ := (Option.bind_some _ _).symm.trans H; with_reducible exact H2_) | with_reducible exact H | (rw [hy299]; exact H) | exact H
   have Ny299 := ak_ hy299
   clear hy299
   obtain rfl := Option.some.inj H
   go_enter func57, ntmps57
   try go_wp2_with (first | ((with_reducible refine gate_dst (N := 1) rfl ?_); refine bx_ 1 #[.int .u64 a0_0, .int .u64 a0_1, .int .u64 a0_2, .int .u64 a0_3] 27 ?_; intro gb292 hg w5 hbox hb; have BK292 := ak_ hbox; have GW292 := ak_ (gs_ hg HB); have GE292 := ak_ (gs_ hg HB); replace HB := ak_ (bt_ (bl_ HB) hb); clear hb hbox hg))
   replace BK292 := ak_ (kd_ BK292.out)
   replace HB := ak_ (bd_ HB.out)
   refine start_ (n := 8) (S := fun w' => w'.cell? ⟨gb292, 0, none⟩ = some (.int .u64 a0_0) ∧ w'.cell? ⟨gb292, 1, none⟩ = some (.int .u64 a0_1) ∧ w'.cell? ⟨gb292, 2, none⟩ = some (.int .u64 a0_2) ∧ w'.cell? ⟨gb292, 3, none⟩ = some (.int .u64 a0_3)) (ds := []) #[false, false, false, false, false, false, false, false] (by kernel_rfl) rfl rfl ⟨kq_ BK292.out 0 rfl, kq_ BK292.out 1 rfl, kq_ BK292.out 2 rfl, kq_ BK292.out 3 rfl⟩ (fun hHeld => ?_); refine with_tabW medlarref04_Octets.tab1 medlarref04_Octets.bits1 (fun HT_ HW_ => ?_)
   generalize w5.drew = w6 at BK292 HB hHeld ⊢
   refine pu_ HT_ 0 (some 3) #[true, false, false, false, false, false, false, false] ?_
   refine pu_ HT_ 3 (some 6) #[true, false, false, true, false, false, false, false] ?_
   refine tk_ HT_ HW_ hHeld 1 (some 4) #[true, true, false, true, false, false, false, false] rfl (by rintro w' ⟨s0, s1, s2, s3⟩; go_simp; with_reducible rfl) ?_
   refine tk_ HT_ HW_ hHeld 4 (some 7) #[true, true, false, true, true, false, false, false] rfl (by rintro w' ⟨s0, s1, s2, s3⟩; go_simp; with_reducible rfl) ?_
   refine one_ (i := 2) (N := some 5) #[true, true, true, true, true, false, false, false] rfl rfl (one_of HT_.out (by kernel_rfl)) (by decide) (fun K hK => ?_)
   refine gg_ func76 #[.agg #[.int .u64 a0_0, .int .u64 a0_1]] ?_
   with_reducible refine (medlarref03_Octets.calls k a0_0 a0_1 t293 _ A2.out).mono ?_
   rintro e w7 ⟨v294, rfl, ho0, hb⟩
   refine ⟨_, rfl, ?_⟩
   have HO295 := ak_ (Kd.R_lower ho0 (bz_ (bw1_ HB GE292)))
   replace BK292 := ak_ (kb_ (kl_ BK292) hb)
   replace HB := ak_ (bt_ (bw1_ HB GE292) hb)
   (try clear hb)
   (try clear hb2)
   (try clear hk)
   (try clear hi)
   (try clear ho0)
   refine hK.out _ _ ⟨kq_ BK292.out 0 rfl, kq_ BK292.out 1 rfl, kq_ BK292.out 2 rfl, kq_ BK292.out 3 rfl⟩ (fun hHeld => ?_)
   clear hK K
   refine norm_ (a' := ?_) ?_ ?_
   rotate_left
   ·show Act.put _ (some 5) _ = _
    simp only [Act.put, setIfInBounds_toArray, set_cons_zero, set_cons_succ, i64_w, i32_w]
    rfl
   refine one_ (i := 5) (N := some 8) #[true, true, true, true, true, true, false, false] rfl rfl (one_of HT_.out (by kernel_rfl)) (by decide) (fun K hK => ?_)
   refine gg_ func76 #[.agg #[.int .u64 a0_2, .int .u64 a0_3]] ?_
   with_reducible refine (medlarref03_Octets.calls k a0_2 a0_3 t296 _ A3.out).mono ?_
   rintro e w8 ⟨v297, rfl, ho0, hb⟩
   refine ⟨_, rfl, ?_⟩
   have HO298 := ak_ (Kd.R_lower (Kd.R_new' ho0 (Kd.R_lt (rl_ HO295))) (bz_ (bw1_ HB GE292)))
   replace HO295 := ak_ (Kd.R_elder' (rl_ HO295) (Kd.R_base ho0) hb)
   replace BK292 := ak_ (kb_ (kl_ BK292) hb)
   replace HB := ak_ (bt_ (bw1_ HB GE292) hb)
   (try clear hb)
   (try clear hb2)
   (try clear hk)
   (try clear hi)
   (try clear ho0)
   obtain ⟨Ao10, co10, eo10⟩ := Kd.R_slice HO298.out
   (first | subst eo10 | (injection eo10 with f1_ f2_ f3_; have f4_ := f1_.symm; have f5_ := f3_.symm; clear f1_ f2_ f3_; subst f4_; subst f5_))
   refine hK.out _ _ ⟨kq_ BK292.out 0 rfl, kq_ BK292.out 1 rfl, kq_ BK292.out 2 rfl, kq_ BK292.out 3 rfl⟩ (fun hHeld => ?_)
   clear hK K
   refine norm_ (a' := ?_) ?_ ?_
   rotate_left
   ·show Act.put _ (some 8) _ = _
    simp only [Act.put, setIfInBounds_toArray, set_cons_zero, set_cons_succ, i64_w, i32_w]
    rfl
   refine one_ (i := 6) (N := some 9) #[true, true, true, true, true, true, true, false] rfl rfl (one_of HT_.out (by kernel_rfl)) (by decide) (fun K hK => ?_)
   refine Kd.R_append_rows_step (Kd.int .u8) (w0 := w) w.heap.size (by rfl) (.tmp 5) (.tmp 8) 35 5 (.int .u8 0) 1 rfl underlying35 info5 rfl (by decide) (by omega) v294 t293 t296 _ _ _ (fun k_ => some k_ ≠ (.slice Ao10 t296.length co10 : Value).ownBlock) (fun _ => False) rfl rfl ?aO ?aR (fun _ _ h => h) (fun _ h => h.elim) ?aF ?aB ?aS ?aL ?_
   (case aR => repeat (first | exact (Kd.R_reads' HO298.out).2.2 | (with_reducible refine Kd.C_alloc ?_ _) | (with_reducible refine Kd.C_drewN ?_ _) | (with_reducible refine Kd.C_drew ?_)))
   (case aB => exact (bw1_ HB GE292))
   (case aF => exact (fun k_ hk => Kd.fresh' (Kd.R_lt (rl_ HO298)) k_ hk))
   (case aO => exact (by (with_reducible repeat (first | apply Kd.R_alloc | apply Kd.R_drewN | apply Kd.R_drew)); exact Kd.R_mono HO295.out (fun _ hk => hk.2)))
   (case aS => exact (bz_ (bw1_ HB GE292)))
   (case aL => have := LMc4.out; omega)
   intro v300 w9 ho hb hg hat
   rw [← Ny299.out] at ho
   replace BK292 := ak_ (blk_grown (g := gb292) (o := .cells #[.int .u64 a0_0, .int .u64 a0_1, .int .u64 a0_2, .int .u64 a0_3] 27 (0, 0)) (kl_ BK292) hg (Kd.R_ne HO295.out BK292.out (by decide)))
   replace HO298 := ak_ (Kd.R_after (ok := (fun _ => True)) (rl_ HO298) hg hat)
   replace HB := ak_ hb
   have HO301 := ak_ ho
   clear HO295
   clear ho hb hg hat
   refine hK.out _ _ ⟨kq_ BK292.out 0 rfl, kq_ BK292.out 1 rfl, kq_ BK292.out 2 rfl, kq_ BK292.out 3 rfl⟩ (fun hHeld => ?_)
   clear hK K
   refine norm_ (a' := ?_) ?_ ?_
   rotate_left
   ·show Act.put _ (some 9) _ = _
    simp only [Act.put, setIfInBounds_toArray, set_cons_zero, set_cons_succ, i64_w, i32_w]
    rfl
   refine pu_ HT_ 7 (some 2) #[true, true, true, true, true, true, true, true] ?_
   refine done_ (done_of HT_.out (by kernel_rfl)) ?_
   try go_wp2
   go_ret
   exact ⟨_, by first | rfl | (simp <;> rfl) | (simp [*] <;> rfl), by (with_reducible repeat (first | apply Kd.R_alloc | apply Kd.R_drewN | apply Kd.R_drew)); exact Kd.R_mono HO301.out (fun _ hk => trivial), bw1_ HB GE292⟩
  ·rw [if_neg c4] at H
   exact absurd H (by simp)
def medlarref16_Bytes.l0 : Nat → List Int → List (S41) → Int → Int → Int → Int → Int → List (S41) → Bool → Bool → Int → Int → Int → Int → Int → Int → Int → Option (List Int × Int)
  | 0, _, _, _, _, _, _, _, _, _, _, _, _, _, _, _, _, _ => none
  | k + 1, x4, x31, x32, x33, x303000, x303001, x303002, x303003, x303004, x303005, x303006, x303007, x303008, x303009, x303010, x303011, x303012 => if x33 < x32 then (if 0 ≤ x33 then (if x33 < (x31.length : Int) then ((medlarref16_put.f k ((rd_T41 x31 x33).f0.f0) 8).bind fun t321 => (if x4.length + t321.length < 140737488355328 then ((some (x4 ++ t321 : List Int)).bind fun y324 => ((medlarref16_put.f k ((rd_T41 x31 x33).f0.f1) 8).bind fun t327 => (if y324.length + t327.length < 140737488355328 then ((some (y324 ++ t327 : List Int)).bind fun y330 => ((medlarref04_Octets.f k ((rd_T41 x31 x33).f1.f3.f0.f0) ((rd_T41 x31 x33).f1.f3.f0.f1) ((rd_T41 x31 x33).f1.f3.f1.f0) ((rd_T41 x31 x33).f1.f3.f1.f1)).bind fun t333 => (if y330.length + t333.length < 140737488355328 then (medlarref16_Bytes.l0 k (y330 ++ t333) x31 x32 (wrap64 (x33 + 1)) x303000 x303001 x303002 x303003 x303004 x303005 x303006 x303007 x303008 x303009 x303010 x303011 x303012) else (none)))) else (none)))) else (none))) else (none)) else (none)) else ((medlarref04_Octets.f k x303008 x303009 x303010 x303011).bind fun t339 => (if x4.length + t339.length < 140737488355328 then (some ((x4 ++ t339), 0)) else (none)))
def medlarref16_Bytes.f (k : Nat) (a0_0 : Int) (a0_1 : Int) (a0_2 : Int) (l0_3 : List (S41)) (a0_4 : Bool) (a0_5 : Bool) (a0_6 : Int) (a0_7 : Int) (a0_8 : Int) (a0_9 : Int) (a0_10 : Int) (a0_11 : Int) (a0_12 : Int) : Option (List Int × Int) := (medlarref16_Check.f k a0_0 a0_1 a0_2 l0_3 a0_4 a0_5 a0_6 a0_7 a0_8 a0_9 a0_10 a0_11 a0_12).bind fun t303 => (if t303 = 0 then ((some (([1, (a0_0) % 256, (a0_1) % 256] : List Int) : List Int)).bind fun y304 => ((medlarref16_put.f k (IntKind.u64.wrap (a0_2)) 8).bind fun t307 => (if y304.length + t307.length < 140737488355328 then ((some (y304 ++ t307 : List Int)).bind fun y310 => ((medlarref16_put.f k (IntKind.u64.wrap ((l0_3.length : Int))) 4).bind fun t313 => (if y310.length + t313.length < 140737488355328 then (medlarref16_Bytes.l0 k (y310 ++ t313) l0_3 (l0_3.length : Int) 0 a0_0 a0_1 a0_2 l0_3 a0_4 a0_5 a0_6 a0_7 a0_8 a0_9 a0_10 a0_11 a0_12) else (none)))) else (none)))) else (some (([] : List Int), 1)))
theorem medlarref16_Bytes.mono_l : ∀ k, (∀ y0 y1 y2 y3 y4 y5 y6 y7 y8 y9 y10 y11 y12 y13 y14 y15 y16, LeO (medlarref16_Bytes.l0 k y0 y1 y2 y3 y4 y5 y6 y7 y8 y9 y10 y11 y12 y13 y14 y15 y16) (medlarref16_Bytes.l0 (k + 1) y0 y1 y2 y3 y4 y5 y6 y7 y8 y9 y10 y11 y12 y13 y14 y15 y16))
  | 0 => fun _ _ _ _ _ _ _ _ _ _ _ _ _ _ _ _ _ r h => by simp [medlarref16_Bytes.l0] at h
  | k + 1 => by
   have ih0 := medlarref16_Bytes.mono_l k
   ·intro y0 y1 y2 y3 y4 y5 y6 y7 y8 y9 y10 y11 y12 y13 y14 y15 y16
    unfold medlarref16_Bytes.l0
    repeat' first | (with_reducible first | exact ih0 .. | exact medlarref04_Octets.mono .. | exact medlarref16_Check.mono .. | exact medlarref16_put.mono .. | exact LeO.refl _ | exact LeO.none _ | refine LeO.ite ?_ ?_ | refine LeO.bind ?_ (fun _ => ?_)) | exact ih0 .. | exact medlarref04_Octets.mono .. | exact medlarref16_Check.mono .. | exact medlarref16_put.mono .. | refine LeO.ite ?_ ?_ | refine LeO.bind ?_ (fun _ => ?_)
theorem medlarref16_Bytes.mono : ∀ a0 a1 a2 a3 a4 a5 a6 a7 a8 a9 a10 a11 a12 k, LeO (medlarref16_Bytes.f k a0 a1 a2 a3 a4 a5 a6 a7 a8 a9 a10 a11 a12) (medlarref16_Bytes.f (k + 1) a0 a1 a2 a3 a4 a5 a6 a7 a8 a9 a10 a11 a12) := by
  intro a0 a1 a2 a3 a4 a5 a6 a7 a8 a9 a10 a11 a12 k
  have ih0 := medlarref16_Bytes.mono_l k
  unfold medlarref16_Bytes.f
  repeat' first | (with_reducible first | exact ih0 .. | exact medlarref04_Octets.mono .. | exact medlarref16_Check.mono .. | exact medlarref16_put.mono .. | exact LeO.refl _ | exact LeO.none _ | refine LeO.ite ?_ ?_ | refine LeO.bind ?_ (fun _ => ?_)) | exact ih0 .. | exact medlarref04_Octets.mono .. | exact medlarref16_Check.mono .. | exact medlarref16_put.mono .. | refine LeO.ite ?_ ?_ | refine LeO.bind ?_ (fun _ => ?_)
set_option maxHeartbeats 8000000 in
set_option maxRecDepth 100000 in
theorem medlarref16_Bytes.calls (k : Nat) (a0_0 : Int) (a0_1 : Int) (a0_2 : Int) (A0_3 : Option Addr) (c0_3 : Nat) (l0_3 : List (S41)) (a0_4 : Bool) (a0_5 : Bool) (a0_6 : Int) (a0_7 : Int) (a0_8 : Int) (a0_9 : Int) (a0_10 : Int) (a0_11 : Int) (a0_12 : Int) (r1 : List Int) (r2 : Int) (w : World) (hr0_3 : Kd.C k41 w A0_3 l0_3.length l0_3) (hc0_3 : l0_3.length ≤ c0_3) (h : medlarref16_Bytes.f k a0_0 a0_1 a0_2 l0_3 a0_4 a0_5 a0_6 a0_7 a0_8 a0_9 a0_10 a0_11 a0_12 = some (r1, r2)) :
   Calls Try.prog 20 #[.agg #[.int .i64 a0_0, .int .i64 a0_1, .int .i64 a0_2, .slice A0_3 l0_3.length c0_3, .bool a0_4, .bool a0_5, .int .u64 a0_6, .int .u64 a0_7, .int .u64 a0_8, .int .u64 a0_9, .int .u64 a0_10, .int .u64 a0_11, .int .i64 a0_12]] w fun e w' => ∃ v0_ : Value, e = .returned (.tuple #[v0_, .int .i64 r2]) ∧ Kd.R (Kd.int .u8) 5 w' w.heap.size (fun _ => True) v0_ r1 ∧ Below w.heap.size w w' := by
  have hu31 := underlying31
  have hu41 := underlying41
  have hu27 := underlying27
  have HR0_3 := ak_ hr0_3
  have HC0_3 := ak_ hc0_3
  clear hr0_3 hc0_3
  have HB := ak_ (Below.refl w.heap.size w)
  have H : ((medlarref16_Check.f k a0_0 a0_1 a0_2 l0_3 a0_4 a0_5 a0_6 a0_7 a0_8 a0_9 a0_10 a0_11 a0_12).bind fun t303 => (if t303 = 0 then ((some (([1, (a0_0) % 256, (a0_1) % 256] : List Int) : List Int)).bind fun y304 => ((medlarref16_put.f k (IntKind.u64.wrap (a0_2)) 8).bind fun t307 => (if y304.length + t307.length < 140737488355328 then ((some (y304 ++ t307 : List Int)).bind fun y310 => ((medlarref16_put.f k (IntKind.u64.wrap ((l0_3.length : Int))) 4).bind fun t313 => (if y310.length + t313.length < 140737488355328 then (medlarref16_Bytes.l0 k (y310 ++ t313) l0_3 (l0_3.length : Int) 0 a0_0 a0_1 a0_2 l0_3 a0_4 a0_5 a0_6 a0_7 a0_8 a0_9 a0_10 a0_11 a0_12) else (none)))) else (none)))) else (some (([] : List Int), 1)))) = some (r1, r2) := h
  clear h
  replace H := bind_eq_some_iff.mp H
  obtain ⟨t303, A20, H⟩ := H
  replace H : (if t303 = 0 then ((some (([1, (a0_0) % 256, (a0_1) % 256] : List Int) : List Int)).bind fun y304 => ((medlarref16_put.f k (IntKind.u64.wrap (a0_2)) 8).bind fun t307 => (if y304.length + t307.length < 140737488355328 then ((some (y304 ++ t307 : List Int)).bind fun y310 => ((medlarref16_put.f k (IntKind.u64.wrap ((l0_3.length : Int))) 4).bind fun t313 => (if y310.length + t313.length < 140737488355328 then (medlarref16_Bytes.l0 k (y310 ++ t313) l0_3 (l0_3.length : Int) 0 a0_0 a0_1 a0_2 l0_3 a0_4 a0_5 a0_6 a0_7 a0_8 a0_9 a0_10 a0_11 a0_12) else (none)))) else (none)))) else (some (([] : List Int), 1))) = some (r1, r2) := H
  have A2 := ak_ A20
  clear A20
  by_cases c3 : t303 = 0
  ·rw [if_pos c3] at H
   have c3b0 : (t303 == 0) = true := beq_iff_eq.mpr c3
   have c3b1 : (t303 != 0) = false := bne_eq_false_iff_eq.mpr c3
   clear c3
   obtain ⟨y304, hy304⟩ : ∃ y_ : List Int, y_ = (([1, (a0_0) % 256, (a0_1) % 256] : List Int)) := ⟨_, rfl⟩
   replace H : ((medlarref16_put.f k (IntKind.u64.wrap (a0_2)) 8).bind fun t307 => (if y304.length + t307.length < 140737488355328 then ((some (y304 ++ t307 : List Int)).bind fun y310 => ((medlarref16_put.f k (IntKind.u64.wrap ((l0_3.length : Int))) 4).bind fun t313 => (if y310.length + t313.length < 140737488355328 then (medlarref16_Bytes.l0 k (y310 ++ t313) l0_3 (l0_3.length : Int) 0 a0_0 a0_1 a0_2 l0_3 a0_4 a0_5 a0_6 a0_7 a0_8 a0_9 a0_10 a0_11 a0_12) else (none)))) else (none))) = some (r1, r2) := by first | (rw [hy304]; with_reducible exact H) | (have H2_ := (Option.bind_some _ _).symm.trans H; rw [hy304]; with_reducible exact H2_) | (have H2_ := (Option.bind_some _ _).symm.trans H; with_reducible exact H2_) | with_reducible exact H | (rw [hy304]; exact H) | exact H
   have Ny304 := ak_ hy304
   clear hy304
   replace H := bind_eq_some_iff.mp H
   obtain ⟨t307, A40, H⟩ := H
   replace H : (if y304.length + t307.length < 140737488355328 then ((some (y304 ++ t307 : List Int)).bind fun y310 => ((medlarref16_put.f k (IntKind.u64.wrap ((l0_3.length : Int))) 4).bind fun t313 => (if y310.length + t313.length < 140737488355328 then (medlarref16_Bytes.l0 k (y310 ++ t313) l0_3 (l0_3.length : Int) 0 a0_0 a0_1 a0_2 l0_3 a0_4 a0_5 a0_6 a0_7 a0_8 a0_9 a0_10 a0_11 a0_12) else (none)))) else (none)) = some (r1, r2) := H
   have A4 := ak_ A40
   clear A40
   by_cases c5 : y304.length + t307.length < 140737488355328
   ·rw [if_pos c5] at H
    have LMc5 := ak_ c5
    clear c5
    obtain ⟨y310, hy310⟩ : ∃ y_ : List Int, y_ = (y304 ++ t307) := ⟨_, rfl⟩
    replace H : ((medlarref16_put.f k (IntKind.u64.wrap ((l0_3.length : Int))) 4).bind fun t313 => (if y310.length + t313.length < 140737488355328 then (medlarref16_Bytes.l0 k (y310 ++ t313) l0_3 (l0_3.length : Int) 0 a0_0 a0_1 a0_2 l0_3 a0_4 a0_5 a0_6 a0_7 a0_8 a0_9 a0_10 a0_11 a0_12) else (none))) = some (r1, r2) := by first | (rw [hy310]; with_reducible exact H) | (have H2_ := (Option.bind_some _ _).symm.trans H; rw [hy310]; with_reducible exact H2_) | (have H2_ := (Option.bind_some _ _).symm.trans H; with_reducible exact H2_) | with_reducible exact H | (rw [hy310]; exact H) | exact H
    have Ny310 := ak_ hy310
    clear hy310
    replace H := bind_eq_some_iff.mp H
    obtain ⟨t313, A60, H⟩ := H
    replace H : (if y310.length + t313.length < 140737488355328 then (medlarref16_Bytes.l0 k (y310 ++ t313) l0_3 (l0_3.length : Int) 0 a0_0 a0_1 a0_2 l0_3 a0_4 a0_5 a0_6 a0_7 a0_8 a0_9 a0_10 a0_11 a0_12) else (none)) = some (r1, r2) := H
    have A6 := ak_ A60
    clear A60
    by_cases c7 : y310.length + t313.length < 140737488355328
    ·rw [if_pos c7] at H
     have LMc7 := ak_ c7
     clear c7
     obtain ⟨y316, hy316⟩ : ∃ y_ : List Int, y_ = (y310 ++ t313) := ⟨_, rfl⟩
     replace H : (medlarref16_Bytes.l0 k y316 l0_3 (l0_3.length : Int) 0 a0_0 a0_1 a0_2 l0_3 a0_4 a0_5 a0_6 a0_7 a0_8 a0_9 a0_10 a0_11 a0_12) = some (r1, r2) := by first | (rw [hy316]; with_reducible exact H) | (have H2_ := (Option.bind_some _ _).symm.trans H; rw [hy316]; with_reducible exact H2_) | (have H2_ := (Option.bind_some _ _).symm.trans H; with_reducible exact H2_) | with_reducible exact H | (rw [hy316]; exact H) | exact H
     have Ny316 := ak_ hy316
     clear hy316
     have H' := ak_ H
     clear H
     go_enter func20, ntmps20
     go_wp2_with (first | ((with_reducible refine gate_dst (N := 1) rfl ?_); refine bx_ 1 #[.int .i64 a0_0, .int .i64 a0_1, .int .i64 a0_2, .slice A0_3 l0_3.length c0_3, .bool a0_4, .bool a0_5, .int .u64 a0_6, .int .u64 a0_7, .int .u64 a0_8, .int .u64 a0_9, .int .u64 a0_10, .int .u64 a0_11, .int .i64 a0_12] 31 ?_; intro gb302 hg w8 hbox hb; have BK302 := ak_ hbox; have GW302 := ak_ (gs_ hg HB); have GE302 := ak_ (gs_ hg HB); replace HB := ak_ (bt_ (bl_ HB) hb); clear hb hbox hg; obtain ⟨hcz9_0, hcz9_1, hcz9_2, hcz9_3, hcz9_4, hcz9_5, hcz9_6, hcz9_7, hcz9_8, hcz9_9, hcz9_10, hcz9_11, hcz9_12, hfz9_0, hfz9_1, hfz9_2, hfz9_3, hfz9_4, hfz9_5, hfz9_6, hfz9_7, hfz9_8, hfz9_9, hfz9_10, hfz9_11, hfz9_12⟩ := kc13_ BK302.out) | ((with_reducible refine gate_callee (f := 25) rfl ?_); refine gl_ (some 8) func25 #[.agg #[.int .i64 a0_0, .int .i64 a0_1, .int .i64 a0_2, .slice A0_3 l0_3.length c0_3, .bool a0_4, .bool a0_5, .int .u64 a0_6, .int .u64 a0_7, .int .u64 a0_8, .int .u64 a0_9, .int .u64 a0_10, .int .u64 a0_11, .int .i64 a0_12]] ?_; (with_reducible refine (medlarref16_Check.calls k a0_0 a0_1 a0_2 _ _ l0_3 a0_4 a0_5 a0_6 a0_7 a0_8 a0_9 a0_10 a0_11 a0_12 t303 _ ?side1 ?side2 A2.out).mono ?_); (case side1 => repeat (first | exact (Kd.C_below HR0_3.out HB.out) | (with_reducible refine Kd.C_alloc ?_ _) | (with_reducible refine Kd.C_drewN ?_ _) | (with_reducible refine Kd.C_drew ?_))); (case side2 => exact HC0_3.out); rintro e w10 ⟨rfl, hb⟩; refine ⟨_, rfl, ?_⟩; replace BK302 := ak_ (kb_ (kl_ BK302) hb); replace HB := ak_ (bt_ (bw1_ HB GE302) hb); (try clear hb); (try clear hk); obtain ⟨hcz11_0, hcz11_1, hcz11_2, hcz11_3, hcz11_4, hcz11_5, hcz11_6, hcz11_7, hcz11_8, hcz11_9, hcz11_10, hcz11_11, hcz11_12, hfz11_0, hfz11_1, hfz11_2, hfz11_3, hfz11_4, hfz11_5, hfz11_6, hfz11_7, hfz11_8, hfz11_9, hfz11_10, hfz11_11, hfz11_12⟩ := kc13_ BK302.out) | ((with_reducible refine gate_dst (N := 16) rfl ?_); refine Kd.R_lit (Kd.int .u8) _ 5 ?hg (N := 16) ?hd (xs := ([1, (a0_0) % 256, (a0_1) % 256] : List Int)) (inner := [.int .u8 1, .int .u8 ((a0_0) % 256), .int .u8 ((a0_1) % 256)]) (ok := fun _ => True) (okp := fun _ => True) ?hr ?hp (fun _ hk => hk) trivial (Below.refl _ _) (Nat.le_refl _) (by simp) ?_; (case hd => rfl); (case hg => rfl); (case hr => first | (go_simp; done) | (go_simp; rfl)); (case hp => exact (Reps.one (show Kd.M (Kd.int .u8) _ _ _ 1 [.int .u8 1] from rfl) (Reps.one (show Kd.M (Kd.int .u8) _ _ _ ((a0_0) % 256) [.int .u8 ((a0_0) % 256)] from rfl) (Reps.one (show Kd.M (Kd.int .u8) _ _ _ ((a0_1) % 256) [.int .u8 ((a0_1) % 256)] from rfl) (Reps.none _ _))))); intro v305 w12 ho13 hb hg_ hnew_; clear hg_ hnew_; (first | rw [← Ny304.out] at ho13 | (simp only [Int.reduceToNat] at ho13; rw [← Ny304.out] at ho13)); have HO306 := ak_ (Kd.R_lower ho13 (bz_ (bw1_ HB GE302))); replace BK302 := ak_ (kb_ (kl_ BK302) hb); replace HB := ak_ (bt_ (bw1_ HB GE302) hb); clear hb ho13; obtain ⟨hcz14_0, hcz14_1, hcz14_2, hcz14_3, hcz14_4, hcz14_5, hcz14_6, hcz14_7, hcz14_8, hcz14_9, hcz14_10, hcz14_11, hcz14_12, hfz14_0, hfz14_1, hfz14_2, hfz14_3, hfz14_4, hfz14_5, hfz14_6, hfz14_7, hfz14_8, hfz14_9, hfz14_10, hfz14_11, hfz14_12⟩ := kc13_ BK302.out) | ((with_reducible refine gate_callee (f := 56) rfl ?_); refine gl_ (some 21) func56 #[.int .u64 (IntKind.u64.wrap (a0_2)), .int .i64 8] ?_; (with_reducible refine (medlarref16_put.calls k (IntKind.u64.wrap (a0_2)) 8 t307 _ A4.out).mono ?_); rintro e w15 ⟨v308, rfl, ho0, hb⟩; refine ⟨_, rfl, ?_⟩; have HO309 := ak_ (Kd.R_lower (Kd.R_new' ho0 (Kd.R_lt (rl_ HO306))) (bz_ (bw1_ HB GE302))); replace HO306 := ak_ (Kd.R_elder' (rl_ HO306) (Kd.R_base ho0) hb); replace BK302 := ak_ (kb_ (kl_ BK302) hb); replace HB := ak_ (bt_ (bw1_ HB GE302) hb); (try clear hb); (try clear hk); (try clear ho0); obtain ⟨Ao17, co17, eo17⟩ := Kd.R_slice HO309.out; subst eo17) | ((with_reducible refine gate_builtin (b := .append) (xs := #[.tmp 17, .tmp 21]) rfl ?_); at_builtin; refine Kd.R_append_rows (Kd.int .u8) (w0 := w) w.heap.size rfl (.tmp 17) (.tmp 21) 35 5 (.int .u8 0) 1 rfl underlying35 info5 rfl (by decide) (by omega) v305 y304 t307 _ _ _ (fun k_ => some k_ ≠ (.slice Ao17 t307.length co17 : Value).ownBlock) (fun _ => False) rfl rfl ?aO ?aR (fun _ _ h => h) (fun _ h => h.elim) ?aF ?aB ?aS ?aL ?_; (case aR => repeat (first | exact (Kd.R_reads' HO309.out).2.2 | (with_reducible refine Kd.C_alloc ?_ _) | (with_reducible refine Kd.C_drewN ?_ _) | (with_reducible refine Kd.C_drew ?_))); (case aB => exact (bw1_ HB GE302)); (case aF => exact (fun k_ hk => Kd.fresh' (Kd.R_lt (rl_ HO309)) k_ hk)); (case aO => exact (by (with_reducible repeat (first | apply Kd.R_alloc | apply Kd.R_drewN | apply Kd.R_drew)); exact Kd.R_mono HO306.out (fun _ hk => hk.2))); (case aS => exact (bz_ (bw1_ HB GE302))); (case aL => have := LMc5.out; omega); intro v311 w16 ho hb hg hat; rw [← Ny310.out] at ho; replace BK302 := ak_ (blk_grown (g := gb302) (o := .cells #[.int .i64 a0_0, .int .i64 a0_1, .int .i64 a0_2, .slice A0_3 l0_3.length c0_3, .bool a0_4, .bool a0_5, .int .u64 a0_6, .int .u64 a0_7, .int .u64 a0_8, .int .u64 a0_9, .int .u64 a0_10, .int .u64 a0_11, .int .i64 a0_12] 31 (0, 0)) (kl_ BK302) hg (Kd.R_ne HO306.out BK302.out (by decide))); replace HO309 := ak_ (Kd.R_after (ok := (fun _ => True)) (rl_ HO309) hg hat); replace HB := ak_ hb; have HO312 := ak_ ho; clear HO306; clear ho hb hg hat; obtain ⟨hcz18_0, hcz18_1, hcz18_2, hcz18_3, hcz18_4, hcz18_5, hcz18_6, hcz18_7, hcz18_8, hcz18_9, hcz18_10, hcz18_11, hcz18_12, hfz18_0, hfz18_1, hfz18_2, hfz18_3, hfz18_4, hfz18_5, hfz18_6, hfz18_7, hfz18_8, hfz18_9, hfz18_10, hfz18_11, hfz18_12⟩ := kc13_ BK302.out) | ((with_reducible refine gate_callee (f := 56) rfl ?_); refine gl_ (some 28) func56 #[.int .u64 (IntKind.u64.wrap ((l0_3.length : Int))), .int .i64 4] ?_; (with_reducible refine (medlarref16_put.calls k (IntKind.u64.wrap ((l0_3.length : Int))) 4 t313 _ A6.out).mono ?_); rintro e w19 ⟨v314, rfl, ho0, hb⟩; refine ⟨_, rfl, ?_⟩; have HO315 := ak_ (Kd.R_lower (Kd.R_new' (Kd.R_new' ho0 (Kd.R_lt (rl_ HO309))) (Kd.R_lt (rl_ HO312))) (bz_ (bw1_ HB GE302))); replace HO309 := ak_ (Kd.R_elder' (rl_ HO309) (Kd.R_base ho0) hb); replace HO312 := ak_ (Kd.R_elder' (rl_ HO312) (Kd.R_base ho0) hb); replace BK302 := ak_ (kb_ (kl_ BK302) hb); replace HB := ak_ (bt_ (bw1_ HB GE302) hb); (try clear hb); (try clear hk); (try clear ho0); obtain ⟨Ao21, co21, eo21⟩ := Kd.R_slice HO315.out; subst eo21) | ((with_reducible refine gate_builtin (b := .append) (xs := #[.tmp 23, .tmp 28]) rfl ?_); at_builtin; refine Kd.R_append_rows (Kd.int .u8) (w0 := w) w.heap.size rfl (.tmp 23) (.tmp 28) 35 5 (.int .u8 0) 1 rfl underlying35 info5 rfl (by decide) (by omega) v311 y310 t313 _ _ _ (fun k_ => some k_ ≠ (.slice Ao17 t307.length co17 : Value).ownBlock ∧ some k_ ≠ (.slice Ao21 t313.length co21 : Value).ownBlock) (fun _ => False) rfl rfl ?aO ?aR (fun _ _ h => h) (fun _ h => h.elim) ?aF ?aB ?aS ?aL ?_; (case aR => repeat (first | exact (Kd.R_reads' HO315.out).2.2 | (with_reducible refine Kd.C_alloc ?_ _) | (with_reducible refine Kd.C_drewN ?_ _) | (with_reducible refine Kd.C_drew ?_))); (case aB => exact (bw1_ HB GE302)); (case aF => exact (fun k_ hk => ⟨Kd.fresh' (Kd.R_lt (rl_ HO309)) k_ hk, Kd.fresh' (Kd.R_lt (rl_ HO315)) k_ hk⟩)); (case aO => exact (rl_ HO312)); (case aS => exact (bz_ (bw1_ HB GE302))); (case aL => have := LMc7.out; omega); intro v317 w20 ho hb hg hat; rw [← Ny316.out] at ho; replace BK302 := ak_ (blk_grown (g := gb302) (o := .cells #[.int .i64 a0_0, .int .i64 a0_1, .int .i64 a0_2, .slice A0_3 l0_3.length c0_3, .bool a0_4, .bool a0_5, .int .u64 a0_6, .int .u64 a0_7, .int .u64 a0_8, .int .u64 a0_9, .int .u64 a0_10, .int .u64 a0_11, .int .i64 a0_12] 31 (0, 0)) (kl_ BK302) hg (Kd.R_ne HO312.out BK302.out (by decide))); replace HO309 := ak_ (Kd.R_after (ok := (fun k_ => some k_ ≠ (.slice Ao21 t313.length co21 : Value).ownBlock)) (by (with_reducible repeat (first | apply Kd.R_alloc | apply Kd.R_drewN | apply Kd.R_drew)); exact Kd.R_mono HO309.out (fun _ hk => ⟨hk.2, hk.1.2⟩)) hg hat); replace HO315 := ak_ (Kd.R_after (ok := (fun k_ => some k_ ≠ (.slice Ao17 t307.length co17 : Value).ownBlock)) (by (with_reducible repeat (first | apply Kd.R_alloc | apply Kd.R_drewN | apply Kd.R_drew)); exact Kd.R_mono HO315.out (fun _ hk => ⟨hk.1.2, hk.2⟩)) hg hat); replace HB := ak_ hb; have HO318 := ak_ ho; clear HO312; clear ho hb hg hat; obtain ⟨hcz22_0, hcz22_1, hcz22_2, hcz22_3, hcz22_4, hcz22_5, hcz22_6, hcz22_7, hcz22_8, hcz22_9, hcz22_10, hcz22_11, hcz22_12, hfz22_0, hfz22_1, hfz22_2, hfz22_3, hfz22_4, hfz22_5, hfz22_6, hfz22_7, hfz22_8, hfz22_9, hfz22_10, hfz22_11, hfz22_12⟩ := kc13_ BK302.out))
     go_loopg [4, 33] k (fun kq v4 v33 w' => ∃ (x4_1 : List Int) (x33_1 : Int), v33 = .int .i64 x33_1 ∧ Aside0 (medlarref16_Bytes.l0 kq x4_1 l0_3 (l0_3.length : Int) x33_1 a0_0 a0_1 a0_2 l0_3 a0_4 a0_5 a0_6 a0_7 a0_8 a0_9 a0_10 a0_11 a0_12 = some (r1, r2)) ∧ Aside0 (kq ≤ k) ∧ Aside0 (Kd.R (Kd.int .u8) 5 w' w.heap.size (fun _ => True) v4 x4_1) ∧ Aside0 (w'.heap[gb302]? = some (.cells #[.int .i64 a0_0, .int .i64 a0_1, .int .i64 a0_2, (.slice A0_3 l0_3.length c0_3), .bool a0_4, .bool a0_5, .int .u64 a0_6, .int .u64 a0_7, .int .u64 a0_8, .int .u64 a0_9, .int .u64 a0_10, .int .u64 a0_11, .int .i64 a0_12] 31 (0, 0))) ∧ Aside0 (Below w.heap.size w w'))
     case atStart => exact ⟨(y316), (0), rf_, H', ⟨Nat.le_refl _⟩, ⟨by (with_reducible repeat (first | apply Kd.R_alloc | apply Kd.R_drewN | apply Kd.R_drew)); exact Kd.R_mono HO318.out (fun _ hk => trivial)⟩, ⟨kl_ BK302⟩, ⟨bw1_ HB GE302⟩⟩
     case round =>
      clear H'
      try clear c2
      try clear p2
      try clear c3
      try clear c3b0
      try clear c3b1
      try clear c5
      try clear c7
      try clear c20
      try clear hcz11_0 hcz11_1 hcz11_10 hcz11_11 hcz11_12 hcz11_2 hcz11_3 hcz11_4 hcz11_5 hcz11_6 hcz11_7 hcz11_8 hcz11_9
      try clear hcz14_0 hcz14_1 hcz14_10 hcz14_11 hcz14_12 hcz14_2 hcz14_3 hcz14_4 hcz14_5 hcz14_6 hcz14_7 hcz14_8 hcz14_9
      try clear hcz18_0 hcz18_1 hcz18_10 hcz18_11 hcz18_12 hcz18_2 hcz18_3 hcz18_4 hcz18_5 hcz18_6 hcz18_7 hcz18_8 hcz18_9
      try clear hcz22_0 hcz22_1 hcz22_10 hcz22_11 hcz22_12 hcz22_2 hcz22_3 hcz22_4 hcz22_5 hcz22_6 hcz22_7 hcz22_8 hcz22_9
      try clear hcz9_0 hcz9_1 hcz9_10 hcz9_11 hcz9_12 hcz9_2 hcz9_3 hcz9_4 hcz9_5 hcz9_6 hcz9_7 hcz9_8 hcz9_9
      try clear hfz11_0 hfz11_1 hfz11_10 hfz11_11 hfz11_12 hfz11_2 hfz11_3 hfz11_4 hfz11_5 hfz11_6 hfz11_7 hfz11_8 hfz11_9
      try clear hfz14_0 hfz14_1 hfz14_10 hfz14_11 hfz14_12 hfz14_2 hfz14_3 hfz14_4 hfz14_5 hfz14_6 hfz14_7 hfz14_8 hfz14_9
      try clear hfz18_0 hfz18_1 hfz18_10 hfz18_11 hfz18_12 hfz18_2 hfz18_3 hfz18_4 hfz18_5 hfz18_6 hfz18_7 hfz18_8 hfz18_9
      try clear hfz22_0 hfz22_1 hfz22_10 hfz22_11 hfz22_12 hfz22_2 hfz22_3 hfz22_4 hfz22_5 hfz22_6 hfz22_7 hfz22_8 hfz22_9
      try clear hfz9_0 hfz9_1 hfz9_10 hfz9_11 hfz9_12 hfz9_2 hfz9_3 hfz9_4 hfz9_5 hfz9_6 hfz9_7 hfz9_8 hfz9_9
      obtain ⟨x4_1, x33_1, rfl, HA, HK1, HO_4, BK302, HB⟩ := hrel
      cases gk with
      | zero => exact absurd HA.out (by simp [medlarref16_Bytes.l0])
      | succ k1 =>
       have H := HA.out
       clear HA
       simp only [medlarref16_Bytes.l0] at H
       by_cases c23 : x33_1 < (l0_3.length : Int)
       ·rw [if_pos c23] at H
        have c23b0 := decide_eq_true c23
        clear c23
        by_cases c24 : 0 ≤ x33_1
        ·rw [if_pos c24] at H
         have c24b0 := decide_eq_true c24
         clear c24
         by_cases c25 : x33_1 < (l0_3.length : Int)
         ·rw [if_pos c25] at H
          have c25b0 := decide_eq_true c25
          clear c25
          replace H := bind_eq_some_iff.mp H
          obtain ⟨t321, A260, H⟩ := H
          replace H : (if x4_1.length + t321.length < 140737488355328 then ((some (x4_1 ++ t321 : List Int)).bind fun y324 => ((medlarref16_put.f k1 ((rd_T41 l0_3 x33_1).f0.f1) 8).bind fun t327 => (if y324.length + t327.length < 140737488355328 then ((some (y324 ++ t327 : List Int)).bind fun y330 => ((medlarref04_Octets.f k1 ((rd_T41 l0_3 x33_1).f1.f3.f0.f0) ((rd_T41 l0_3 x33_1).f1.f3.f0.f1) ((rd_T41 l0_3 x33_1).f1.f3.f1.f0) ((rd_T41 l0_3 x33_1).f1.f3.f1.f1)).bind fun t333 => (if y330.length + t333.length < 140737488355328 then (medlarref16_Bytes.l0 k1 (y330 ++ t333) l0_3 (l0_3.length : Int) (wrap64 (x33_1 + 1)) a0_0 a0_1 a0_2 l0_3 a0_4 a0_5 a0_6 a0_7 a0_8 a0_9 a0_10 a0_11 a0_12) else (none)))) else (none)))) else (none)) = some (r1, r2) := H
          have A26 := ak_ A260
          clear A260
          by_cases c27 : x4_1.length + t321.length < 140737488355328
          ·rw [if_pos c27] at H
           have LMc27 := ak_ c27
           clear c27
           obtain ⟨y324, hy324⟩ : ∃ y_ : List Int, y_ = (x4_1 ++ t321) := ⟨_, rfl⟩
           replace H : ((medlarref16_put.f k1 ((rd_T41 l0_3 x33_1).f0.f1) 8).bind fun t327 => (if y324.length + t327.length < 140737488355328 then ((some (y324 ++ t327 : List Int)).bind fun y330 => ((medlarref04_Octets.f k1 ((rd_T41 l0_3 x33_1).f1.f3.f0.f0) ((rd_T41 l0_3 x33_1).f1.f3.f0.f1) ((rd_T41 l0_3 x33_1).f1.f3.f1.f0) ((rd_T41 l0_3 x33_1).f1.f3.f1.f1)).bind fun t333 => (if y330.length + t333.length < 140737488355328 then (medlarref16_Bytes.l0 k1 (y330 ++ t333) l0_3 (l0_3.length : Int) (wrap64 (x33_1 + 1)) a0_0 a0_1 a0_2 l0_3 a0_4 a0_5 a0_6 a0_7 a0_8 a0_9 a0_10 a0_11 a0_12) else (none)))) else (none))) = some (r1, r2) := by first | (rw [hy324]; with_reducible exact H) | (have H2_ := (Option.bind_some _ _).symm.trans H; rw [hy324]; with_reducible exact H2_) | (have H2_ := (Option.bind_some _ _).symm.trans H; with_reducible exact H2_) | with_reducible exact H | (rw [hy324]; exact H) | exact H
           have Ny324 := ak_ hy324
           clear hy324
           replace H := bind_eq_some_iff.mp H
           obtain ⟨t327, A280, H⟩ := H
           replace H : (if y324.length + t327.length < 140737488355328 then ((some (y324 ++ t327 : List Int)).bind fun y330 => ((medlarref04_Octets.f k1 ((rd_T41 l0_3 x33_1).f1.f3.f0.f0) ((rd_T41 l0_3 x33_1).f1.f3.f0.f1) ((rd_T41 l0_3 x33_1).f1.f3.f1.f0) ((rd_T41 l0_3 x33_1).f1.f3.f1.f1)).bind fun t333 => (if y330.length + t333.length < 140737488355328 then (medlarref16_Bytes.l0 k1 (y330 ++ t333) l0_3 (l0_3.length : Int) (wrap64 (x33_1 + 1)) a0_0 a0_1 a0_2 l0_3 a0_4 a0_5 a0_6 a0_7 a0_8 a0_9 a0_10 a0_11 a0_12) else (none)))) else (none)) = some (r1, r2) := H
           have A28 := ak_ A280
           clear A280
           by_cases c29 : y324.length + t327.length < 140737488355328
           ·rw [if_pos c29] at H
            have LMc29 := ak_ c29
            clear c29
            obtain ⟨y330, hy330⟩ : ∃ y_ : List Int, y_ = (y324 ++ t327) := ⟨_, rfl⟩
            replace H : ((medlarref04_Octets.f k1 ((rd_T41 l0_3 x33_1).f1.f3.f0.f0) ((rd_T41 l0_3 x33_1).f1.f3.f0.f1) ((rd_T41 l0_3 x33_1).f1.f3.f1.f0) ((rd_T41 l0_3 x33_1).f1.f3.f1.f1)).bind fun t333 => (if y330.length + t333.length < 140737488355328 then (medlarref16_Bytes.l0 k1 (y330 ++ t333) l0_3 (l0_3.length : Int) (wrap64 (x33_1 + 1)) a0_0 a0_1 a0_2 l0_3 a0_4 a0_5 a0_6 a0_7 a0_8 a0_9 a0_10 a0_11 a0_12) else (none))) = some (r1, r2) := by first | (rw [hy330]; with_reducible exact H) | (have H2_ := (Option.bind_some _ _).symm.trans H; rw [hy330]; with_reducible exact H2_) | (have H2_ := (Option.bind_some _ _).symm.trans H; with_reducible exact H2_) | with_reducible exact H | (rw [hy330]; exact H) | exact H
            have Ny330 := ak_ hy330
            clear hy330
            replace H := bind_eq_some_iff.mp H
            obtain ⟨t333, A300, H⟩ := H
            replace H : (if y330.length + t333.length < 140737488355328 then (medlarref16_Bytes.l0 k1 (y330 ++ t333) l0_3 (l0_3.length : Int) (wrap64 (x33_1 + 1)) a0_0 a0_1 a0_2 l0_3 a0_4 a0_5 a0_6 a0_7 a0_8 a0_9 a0_10 a0_11 a0_12) else (none)) = some (r1, r2) := H
            have A30 := ak_ A300
            clear A300
            by_cases c31 : y330.length + t333.length < 140737488355328
            ·rw [if_pos c31] at H
             have LMc31 := ak_ c31
             clear c31
             obtain ⟨y336, hy336⟩ : ∃ y_ : List Int, y_ = (y330 ++ t333) := ⟨_, rfl⟩
             replace H : (medlarref16_Bytes.l0 k1 y336 l0_3 (l0_3.length : Int) (wrap64 (x33_1 + 1)) a0_0 a0_1 a0_2 l0_3 a0_4 a0_5 a0_6 a0_7 a0_8 a0_9 a0_10 a0_11 a0_12) = some (r1, r2) := by first | (rw [hy336]; with_reducible exact H) | (have H2_ := (Option.bind_some _ _).symm.trans H; rw [hy336]; with_reducible exact H2_) | (have H2_ := (Option.bind_some _ _).symm.trans H; with_reducible exact H2_) | with_reducible exact H | (rw [hy336]; exact H) | exact H
             have Ny336 := ak_ hy336
             clear hy336
             have H' := ak_ H
             clear H
             have p319 : 0 ≤ (x33_1 : Int) := od_ (by first | (with_reducible assumption) | assumption)
             have q319 : x33_1 < (l0_3.length : Int) := od_ (by first | (with_reducible assumption) | assumption)
             obtain ⟨ad319, e319, hx319_0, hx319_1, hx319_2, hx319_3, hx319_4, hx319_5, hx319_6, hx319_7, hx319_8, hx319_9, hx319_10⟩ := at_T41 HR0_3.out x33_1 p319 q319
             cases e319
             replace hx319_0 := cx_ HB hx319_0
             replace hx319_1 := cx_ HB hx319_1
             replace hx319_2 := cx_ HB hx319_2
             replace hx319_3 := cx_ HB hx319_3
             replace hx319_4 := cx_ HB hx319_4
             replace hx319_5 := cx_ HB hx319_5
             replace hx319_6 := cx_ HB hx319_6
             replace hx319_7 := cx_ HB hx319_7
             replace hx319_8 := cx_ HB hx319_8
             replace hx319_9 := cx_ HB hx319_9
             replace hx319_10 := cx_ HB hx319_10
             replace p319 := eq_true p319
             replace q319 := eq_true q319
             go_wp2_with (first | ((with_reducible refine gate_dst (N := 6) rfl ?_); refine bx_ 6 #[.int .u64 0, .int .u64 0, .bool false, .bool false, .int .u64 0, .int .u64 0, .int .u64 0, .int .u64 0, .int .u64 0, .int .u64 0, .int .i64 0] 41 ?_; intro gb320 hg w32 hbox hb; replace HO_4 := ak_ (Kd.R_below (rl_ HO_4) hb); have BK320 := ak_ hbox; have GW320 := ak_ (gw1_ HB GE302 hg); have GE320 := ak_ (gw1_ HB GE302 hg); replace HB := ak_ (bt_ (bw1_ HB GE302) hb); have NB302_320 := ak_ (nl_ hg BK302); have NB320_302 := ak_ (nr_ hg BK302); replace BK302 := ak_ (kb_ (kl_ BK302) hb); clear hb hbox hg; have hnb33 := NB320_302.out; have hnc33 := NB302_320.out; obtain ⟨hcz34_0, hcz34_1, hcz34_2, hcz34_3, hcz34_4, hcz34_5, hcz34_6, hcz34_7, hcz34_8, hcz34_9, hcz34_10, hfz34_0, hfz34_1, hfz34_2, hfz34_3, hfz34_4, hfz34_5, hfz34_6, hfz34_7, hfz34_8, hfz34_9, hfz34_10⟩ := kc11_ BK320.out) | ((with_reducible refine gate_callee (f := 56) rfl ?_); refine gl_ (some 41) func56 #[.int .u64 ((rd_T41 l0_3 x33_1).f0.f0), .int .i64 8] ?_; (with_reducible refine (medlarref16_put.calls k1 ((rd_T41 l0_3 x33_1).f0.f0) 8 t321 _ A26.out).mono ?_); rintro e w35 ⟨v322, rfl, ho0, hb⟩; refine ⟨_, rfl, ?_⟩; have HO323 := ak_ (Kd.R_lower (Kd.R_new' ho0 (Kd.R_lt (by (with_reducible repeat (first | apply Kd.R_alloc | apply Kd.R_drewN | apply Kd.R_drew)); exact (Kd.R_mono (Kd.R_far (p := ⟨gb320, 10, none⟩) (Kd.R_far (p := ⟨gb320, 9, none⟩) (Kd.R_far (p := ⟨gb320, 8, none⟩) (Kd.R_far (p := ⟨gb320, 7, none⟩) (Kd.R_far (p := ⟨gb320, 6, none⟩) (Kd.R_far (p := ⟨gb320, 5, none⟩) (Kd.R_far (p := ⟨gb320, 4, none⟩) (Kd.R_far (p := ⟨gb320, 3, none⟩) (Kd.R_far (p := ⟨gb320, 2, none⟩) (Kd.R_far (p := ⟨gb320, 1, none⟩) (Kd.R_far (p := ⟨gb320, 0, none⟩) (Kd.R_types HO_4.out BK320.out (by decide)) (fun _ hk => hk.2) (.int .u64 ((rd_T41 l0_3 x33_1).f0.f0))) (fun _ hk => hk.2) (.int .u64 ((rd_T41 l0_3 x33_1).f0.f1))) (fun _ hk => hk.2) (.bool ((rd_T41 l0_3 x33_1).f1.f0))) (fun _ hk => hk.2) (.bool ((rd_T41 l0_3 x33_1).f1.f1))) (fun _ hk => hk.2) (.int .u64 ((rd_T41 l0_3 x33_1).f1.f2.f0))) (fun _ hk => hk.2) (.int .u64 ((rd_T41 l0_3 x33_1).f1.f2.f1))) (fun _ hk => hk.2) (.int .u64 ((rd_T41 l0_3 x33_1).f1.f3.f0.f0))) (fun _ hk => hk.2) (.int .u64 ((rd_T41 l0_3 x33_1).f1.f3.f0.f1))) (fun _ hk => hk.2) (.int .u64 ((rd_T41 l0_3 x33_1).f1.f3.f1.f0))) (fun _ hk => hk.2) (.int .u64 ((rd_T41 l0_3 x33_1).f1.f3.f1.f1))) (fun _ hk => hk.2) (.int .i64 ((rd_T41 l0_3 x33_1).f1.f4))) (fun _ h_ => h_.1))))) (bz_ (bw2_ HB GE302 GE320))); replace HO_4 := ak_ (Kd.R_elder' (by (with_reducible repeat (first | apply Kd.R_alloc | apply Kd.R_drewN | apply Kd.R_drew)); exact (Kd.R_mono (Kd.R_far (p := ⟨gb320, 10, none⟩) (Kd.R_far (p := ⟨gb320, 9, none⟩) (Kd.R_far (p := ⟨gb320, 8, none⟩) (Kd.R_far (p := ⟨gb320, 7, none⟩) (Kd.R_far (p := ⟨gb320, 6, none⟩) (Kd.R_far (p := ⟨gb320, 5, none⟩) (Kd.R_far (p := ⟨gb320, 4, none⟩) (Kd.R_far (p := ⟨gb320, 3, none⟩) (Kd.R_far (p := ⟨gb320, 2, none⟩) (Kd.R_far (p := ⟨gb320, 1, none⟩) (Kd.R_far (p := ⟨gb320, 0, none⟩) (Kd.R_types HO_4.out BK320.out (by decide)) (fun _ hk => hk.2) (.int .u64 ((rd_T41 l0_3 x33_1).f0.f0))) (fun _ hk => hk.2) (.int .u64 ((rd_T41 l0_3 x33_1).f0.f1))) (fun _ hk => hk.2) (.bool ((rd_T41 l0_3 x33_1).f1.f0))) (fun _ hk => hk.2) (.bool ((rd_T41 l0_3 x33_1).f1.f1))) (fun _ hk => hk.2) (.int .u64 ((rd_T41 l0_3 x33_1).f1.f2.f0))) (fun _ hk => hk.2) (.int .u64 ((rd_T41 l0_3 x33_1).f1.f2.f1))) (fun _ hk => hk.2) (.int .u64 ((rd_T41 l0_3 x33_1).f1.f3.f0.f0))) (fun _ hk => hk.2) (.int .u64 ((rd_T41 l0_3 x33_1).f1.f3.f0.f1))) (fun _ hk => hk.2) (.int .u64 ((rd_T41 l0_3 x33_1).f1.f3.f1.f0))) (fun _ hk => hk.2) (.int .u64 ((rd_T41 l0_3 x33_1).f1.f3.f1.f1))) (fun _ hk => hk.2) (.int .i64 ((rd_T41 l0_3 x33_1).f1.f4))) (fun _ h_ => h_.1))) (Kd.R_base ho0) hb); replace BK302 := ak_ (kb_ (g := gb302) (o := .cells #[.int .i64 a0_0, .int .i64 a0_1, .int .i64 a0_2, .slice (some ad319) l0_3.length c0_3, .bool a0_4, .bool a0_5, .int .u64 a0_6, .int .u64 a0_7, .int .u64 a0_8, .int .u64 a0_9, .int .u64 a0_10, .int .u64 a0_11, .int .i64 a0_12] 31 (0, 0)) (by (with_reducible repeat (first | refine kn_ ?_ _ | refine kd_ ?_ | refine ka_ ?_ _)); (iterate 11 refine blk_far ?_ NB302_320.out _); exact BK302.out) hb); replace BK320 := ak_ (kb_ (g := gb320) (o := .cells #[.int .u64 ((rd_T41 l0_3 x33_1).f0.f0), .int .u64 ((rd_T41 l0_3 x33_1).f0.f1), .bool ((rd_T41 l0_3 x33_1).f1.f0), .bool ((rd_T41 l0_3 x33_1).f1.f1), .int .u64 ((rd_T41 l0_3 x33_1).f1.f2.f0), .int .u64 ((rd_T41 l0_3 x33_1).f1.f2.f1), .int .u64 ((rd_T41 l0_3 x33_1).f1.f3.f0.f0), .int .u64 ((rd_T41 l0_3 x33_1).f1.f3.f0.f1), .int .u64 ((rd_T41 l0_3 x33_1).f1.f3.f1.f0), .int .u64 ((rd_T41 l0_3 x33_1).f1.f3.f1.f1), .int .i64 ((rd_T41 l0_3 x33_1).f1.f4)] 41 (0, 0)) (by (with_reducible repeat (first | refine kn_ ?_ _ | refine kd_ ?_ | refine ka_ ?_ _)); exact sC_blk BK320.out rfl rfl) hb); replace HB := ak_ (bt_ (bw2_ HB GE302 GE320) hb); (try clear hb); (try clear hk); (try clear ho0); obtain ⟨Ao37, co37, eo37⟩ := Kd.R_slice HO323.out; subst eo37) | ((with_reducible refine gate_builtin (b := .append) (xs := #[.tmp 37, .tmp 41]) rfl ?_); at_builtin; refine Kd.R_append_rows (Kd.int .u8) (w0 := w) w.heap.size rfl (.tmp 37) (.tmp 41) 35 5 (.int .u8 0) 1 rfl underlying35 info5 rfl (by decide) (by omega) u4 x4_1 t321 _ _ _ (fun k_ => some k_ ≠ (.slice Ao37 t321.length co37 : Value).ownBlock) (fun _ => False) rfl rfl ?aO ?aR (fun _ _ h => h) (fun _ h => h.elim) ?aF ?aB ?aS ?aL ?_; (case aR => repeat (first | exact (Kd.R_reads' HO323.out).2.2 | (with_reducible refine Kd.C_alloc ?_ _) | (with_reducible refine Kd.C_drewN ?_ _) | (with_reducible refine Kd.C_drew ?_))); (case aB => exact (bw2_ HB GE302 GE320)); (case aF => exact (fun k_ hk => Kd.fresh' (Kd.R_lt (rl_ HO323)) k_ hk)); (case aO => exact (by (with_reducible repeat (first | apply Kd.R_alloc | apply Kd.R_drewN | apply Kd.R_drew)); exact Kd.R_mono HO_4.out (fun _ hk => hk.2))); (case aS => exact (bz_ (bw2_ HB GE302 GE320))); (case aL => have := LMc27.out; omega); intro v325 w36 ho hb hg hat; rw [← Ny324.out] at ho; replace BK302 := ak_ (blk_grown (g := gb302) (o := .cells #[.int .i64 a0_0, .int .i64 a0_1, .int .i64 a0_2, .slice (some ad319) l0_3.length c0_3, .bool a0_4, .bool a0_5, .int .u64 a0_6, .int .u64 a0_7, .int .u64 a0_8, .int .u64 a0_9, .int .u64 a0_10, .int .u64 a0_11, .int .i64 a0_12] 31 (0, 0)) (kl_ BK302) hg (Kd.R_ne HO_4.out BK302.out (by decide))); replace BK320 := ak_ (blk_grown (g := gb320) (o := .cells #[.int .u64 ((rd_T41 l0_3 x33_1).f0.f0), .int .u64 ((rd_T41 l0_3 x33_1).f0.f1), .bool ((rd_T41 l0_3 x33_1).f1.f0), .bool ((rd_T41 l0_3 x33_1).f1.f1), .int .u64 ((rd_T41 l0_3 x33_1).f1.f2.f0), .int .u64 ((rd_T41 l0_3 x33_1).f1.f2.f1), .int .u64 ((rd_T41 l0_3 x33_1).f1.f3.f0.f0), .int .u64 ((rd_T41 l0_3 x33_1).f1.f3.f0.f1), .int .u64 ((rd_T41 l0_3 x33_1).f1.f3.f1.f0), .int .u64 ((rd_T41 l0_3 x33_1).f1.f3.f1.f1), .int .i64 ((rd_T41 l0_3 x33_1).f1.f4)] 41 (0, 0)) (kl_ BK320) hg (Kd.R_ne HO_4.out BK320.out (by decide))); replace HO323 := ak_ (Kd.R_after (ok := (fun _ => True)) (rl_ HO323) hg hat); replace HB := ak_ hb; have HO326 := ak_ ho; clear HO_4; clear ho hb hg hat; obtain ⟨hcz38_0, hcz38_1, hcz38_2, hcz38_3, hcz38_4, hcz38_5, hcz38_6, hcz38_7, hcz38_8, hcz38_9, hcz38_10, hfz38_0, hfz38_1, hfz38_2, hfz38_3, hfz38_4, hfz38_5, hfz38_6, hfz38_7, hfz38_8, hfz38_9, hfz38_10⟩ := kc11_ BK320.out) | ((with_reducible refine gate_callee (f := 56) rfl ?_); refine gl_ (some 47) func56 #[.int .u64 ((rd_T41 l0_3 x33_1).f0.f1), .int .i64 8] ?_; (with_reducible refine (medlarref16_put.calls k1 ((rd_T41 l0_3 x33_1).f0.f1) 8 t327 _ A28.out).mono ?_); rintro e w39 ⟨v328, rfl, ho0, hb⟩; refine ⟨_, rfl, ?_⟩; have HO329 := ak_ (Kd.R_lower (Kd.R_new' (Kd.R_new' ho0 (Kd.R_lt (rl_ HO323))) (Kd.R_lt (rl_ HO326))) (bz_ (bw2_ HB GE302 GE320))); replace HO323 := ak_ (Kd.R_elder' (rl_ HO323) (Kd.R_base ho0) hb); replace HO326 := ak_ (Kd.R_elder' (rl_ HO326) (Kd.R_base ho0) hb); replace BK302 := ak_ (kb_ (kl_ BK302) hb); replace BK320 := ak_ (kb_ (kl_ BK320) hb); replace HB := ak_ (bt_ (bw2_ HB GE302 GE320) hb); (try clear hb); (try clear hk); (try clear ho0); obtain ⟨Ao41, co41, eo41⟩ := Kd.R_slice HO329.out; subst eo41) | ((with_reducible refine gate_builtin (b := .append) (xs := #[.tmp 43, .tmp 47]) rfl ?_); at_builtin; refine Kd.R_append_rows (Kd.int .u8) (w0 := w) w.heap.size rfl (.tmp 43) (.tmp 47) 35 5 (.int .u8 0) 1 rfl underlying35 info5 rfl (by decide) (by omega) v325 y324 t327 _ _ _ (fun k_ => some k_ ≠ (.slice Ao37 t321.length co37 : Value).ownBlock ∧ some k_ ≠ (.slice Ao41 t327.length co41 : Value).ownBlock) (fun _ => False) rfl rfl ?aO ?aR (fun _ _ h => h) (fun _ h => h.elim) ?aF ?aB ?aS ?aL ?_; (case aR => repeat (first | exact (Kd.R_reads' HO329.out).2.2 | (with_reducible refine Kd.C_alloc ?_ _) | (with_reducible refine Kd.C_drewN ?_ _) | (with_reducible refine Kd.C_drew ?_))); (case aB => exact (bw2_ HB GE302 GE320)); (case aF => exact (fun k_ hk => ⟨Kd.fresh' (Kd.R_lt (rl_ HO323)) k_ hk, Kd.fresh' (Kd.R_lt (rl_ HO329)) k_ hk⟩)); (case aO => exact (rl_ HO326)); (case aS => exact (bz_ (bw2_ HB GE302 GE320))); (case aL => have := LMc29.out; omega); intro v331 w40 ho hb hg hat; rw [← Ny330.out] at ho; replace BK302 := ak_ (blk_grown (g := gb302) (o := .cells #[.int .i64 a0_0, .int .i64 a0_1, .int .i64 a0_2, .slice (some ad319) l0_3.length c0_3, .bool a0_4, .bool a0_5, .int .u64 a0_6, .int .u64 a0_7, .int .u64 a0_8, .int .u64 a0_9, .int .u64 a0_10, .int .u64 a0_11, .int .i64 a0_12] 31 (0, 0)) (kl_ BK302) hg (Kd.R_ne HO326.out BK302.out (by decide))); replace BK320 := ak_ (blk_grown (g := gb320) (o := .cells #[.int .u64 ((rd_T41 l0_3 x33_1).f0.f0), .int .u64 ((rd_T41 l0_3 x33_1).f0.f1), .bool ((rd_T41 l0_3 x33_1).f1.f0), .bool ((rd_T41 l0_3 x33_1).f1.f1), .int .u64 ((rd_T41 l0_3 x33_1).f1.f2.f0), .int .u64 ((rd_T41 l0_3 x33_1).f1.f2.f1), .int .u64 ((rd_T41 l0_3 x33_1).f1.f3.f0.f0), .int .u64 ((rd_T41 l0_3 x33_1).f1.f3.f0.f1), .int .u64 ((rd_T41 l0_3 x33_1).f1.f3.f1.f0), .int .u64 ((rd_T41 l0_3 x33_1).f1.f3.f1.f1), .int .i64 ((rd_T41 l0_3 x33_1).f1.f4)] 41 (0, 0)) (kl_ BK320) hg (Kd.R_ne HO326.out BK320.out (by decide))); replace HO323 := ak_ (Kd.R_after (ok := (fun k_ => some k_ ≠ (.slice Ao41 t327.length co41 : Value).ownBlock)) (by (with_reducible repeat (first | apply Kd.R_alloc | apply Kd.R_drewN | apply Kd.R_drew)); exact Kd.R_mono HO323.out (fun _ hk => ⟨hk.2, hk.1.2⟩)) hg hat); replace HO329 := ak_ (Kd.R_after (ok := (fun k_ => some k_ ≠ (.slice Ao37 t321.length co37 : Value).ownBlock)) (by (with_reducible repeat (first | apply Kd.R_alloc | apply Kd.R_drewN | apply Kd.R_drew)); exact Kd.R_mono HO329.out (fun _ hk => ⟨hk.1.2, hk.2⟩)) hg hat); replace HB := ak_ hb; have HO332 := ak_ ho; clear HO326; clear ho hb hg hat; obtain ⟨hcz42_0, hcz42_1, hcz42_2, hcz42_3, hcz42_4, hcz42_5, hcz42_6, hcz42_7, hcz42_8, hcz42_9, hcz42_10, hfz42_0, hfz42_1, hfz42_2, hfz42_3, hfz42_4, hfz42_5, hfz42_6, hfz42_7, hfz42_8, hfz42_9, hfz42_10⟩ := kc11_ BK320.out) | ((with_reducible refine gate_callee (f := 57) rfl ?_); refine gl_ (some 53) func57 #[.agg #[.int .u64 ((rd_T41 l0_3 x33_1).f1.f3.f0.f0), .int .u64 ((rd_T41 l0_3 x33_1).f1.f3.f0.f1), .int .u64 ((rd_T41 l0_3 x33_1).f1.f3.f1.f0), .int .u64 ((rd_T41 l0_3 x33_1).f1.f3.f1.f1)]] ?_; (with_reducible refine (medlarref04_Octets.calls k1 ((rd_T41 l0_3 x33_1).f1.f3.f0.f0) ((rd_T41 l0_3 x33_1).f1.f3.f0.f1) ((rd_T41 l0_3 x33_1).f1.f3.f1.f0) ((rd_T41 l0_3 x33_1).f1.f3.f1.f1) t333 _ A30.out).mono ?_); rintro e w43 ⟨v334, rfl, ho0, hb⟩; refine ⟨_, rfl, ?_⟩; have HO335 := ak_ (Kd.R_lower (Kd.R_new' (Kd.R_new' (Kd.R_new' ho0 (Kd.R_lt (rl_ HO323))) (Kd.R_lt (rl_ HO329))) (Kd.R_lt (rl_ HO332))) (bz_ (bw2_ HB GE302 GE320))); replace HO323 := ak_ (Kd.R_elder' (rl_ HO323) (Kd.R_base ho0) hb); replace HO329 := ak_ (Kd.R_elder' (rl_ HO329) (Kd.R_base ho0) hb); replace HO332 := ak_ (Kd.R_elder' (rl_ HO332) (Kd.R_base ho0) hb); replace BK302 := ak_ (kb_ (kl_ BK302) hb); replace BK320 := ak_ (kb_ (kl_ BK320) hb); replace HB := ak_ (bt_ (bw2_ HB GE302 GE320) hb); (try clear hb); (try clear hk); (try clear ho0); obtain ⟨Ao45, co45, eo45⟩ := Kd.R_slice HO335.out; subst eo45) | ((with_reducible refine gate_builtin (b := .append) (xs := #[.tmp 49, .tmp 53]) rfl ?_); at_builtin; refine Kd.R_append_rows (Kd.int .u8) (w0 := w) w.heap.size rfl (.tmp 49) (.tmp 53) 35 5 (.int .u8 0) 1 rfl underlying35 info5 rfl (by decide) (by omega) v331 y330 t333 _ _ _ (fun k_ => some k_ ≠ (.slice Ao37 t321.length co37 : Value).ownBlock ∧ some k_ ≠ (.slice Ao41 t327.length co41 : Value).ownBlock ∧ some k_ ≠ (.slice Ao45 t333.length co45 : Value).ownBlock) (fun _ => False) rfl rfl ?aO ?aR (fun _ _ h => h) (fun _ h => h.elim) ?aF ?aB ?aS ?aL ?_; (case aR => repeat (first | exact (Kd.R_reads' HO335.out).2.2 | (with_reducible refine Kd.C_alloc ?_ _) | (with_reducible refine Kd.C_drewN ?_ _) | (with_reducible refine Kd.C_drew ?_))); (case aB => exact (bw2_ HB GE302 GE320)); (case aF => exact (fun k_ hk => ⟨Kd.fresh' (Kd.R_lt (rl_ HO323)) k_ hk, Kd.fresh' (Kd.R_lt (rl_ HO329)) k_ hk, Kd.fresh' (Kd.R_lt (rl_ HO335)) k_ hk⟩)); (case aO => exact (by (with_reducible repeat (first | apply Kd.R_alloc | apply Kd.R_drewN | apply Kd.R_drew)); exact Kd.R_mono HO332.out (fun _ hk => ⟨hk.1.1, ⟨hk.1.2, hk.2⟩⟩))); (case aS => exact (bz_ (bw2_ HB GE302 GE320))); (case aL => have := LMc31.out; omega); intro v337 w44 ho hb hg hat; rw [← Ny336.out] at ho; replace BK302 := ak_ (blk_grown (g := gb302) (o := .cells #[.int .i64 a0_0, .int .i64 a0_1, .int .i64 a0_2, .slice (some ad319) l0_3.length c0_3, .bool a0_4, .bool a0_5, .int .u64 a0_6, .int .u64 a0_7, .int .u64 a0_8, .int .u64 a0_9, .int .u64 a0_10, .int .u64 a0_11, .int .i64 a0_12] 31 (0, 0)) (kl_ BK302) hg (Kd.R_ne HO332.out BK302.out (by decide))); replace BK320 := ak_ (blk_grown (g := gb320) (o := .cells #[.int .u64 ((rd_T41 l0_3 x33_1).f0.f0), .int .u64 ((rd_T41 l0_3 x33_1).f0.f1), .bool ((rd_T41 l0_3 x33_1).f1.f0), .bool ((rd_T41 l0_3 x33_1).f1.f1), .int .u64 ((rd_T41 l0_3 x33_1).f1.f2.f0), .int .u64 ((rd_T41 l0_3 x33_1).f1.f2.f1), .int .u64 ((rd_T41 l0_3 x33_1).f1.f3.f0.f0), .int .u64 ((rd_T41 l0_3 x33_1).f1.f3.f0.f1), .int .u64 ((rd_T41 l0_3 x33_1).f1.f3.f1.f0), .int .u64 ((rd_T41 l0_3 x33_1).f1.f3.f1.f1), .int .i64 ((rd_T41 l0_3 x33_1).f1.f4)] 41 (0, 0)) (kl_ BK320) hg (Kd.R_ne HO332.out BK320.out (by decide))); replace HO323 := ak_ (Kd.R_after (ok := (fun k_ => some k_ ≠ (.slice Ao41 t327.length co41 : Value).ownBlock ∧ some k_ ≠ (.slice Ao45 t333.length co45 : Value).ownBlock)) (by (with_reducible repeat (first | apply Kd.R_alloc | apply Kd.R_drewN | apply Kd.R_drew)); exact Kd.R_mono HO323.out (fun _ hk => ⟨⟨hk.1.1, hk.2⟩, hk.1.2⟩)) hg hat); replace HO329 := ak_ (Kd.R_after (ok := (fun k_ => some k_ ≠ (.slice Ao37 t321.length co37 : Value).ownBlock ∧ some k_ ≠ (.slice Ao45 t333.length co45 : Value).ownBlock)) (by (with_reducible repeat (first | apply Kd.R_alloc | apply Kd.R_drewN | apply Kd.R_drew)); exact Kd.R_mono HO329.out (fun _ hk => ⟨⟨hk.1.1, hk.2⟩, hk.1.2⟩)) hg hat); replace HO335 := ak_ (Kd.R_after (ok := (fun k_ => some k_ ≠ (.slice Ao37 t321.length co37 : Value).ownBlock ∧ some k_ ≠ (.slice Ao41 t327.length co41 : Value).ownBlock)) (by (with_reducible repeat (first | apply Kd.R_alloc | apply Kd.R_drewN | apply Kd.R_drew)); exact Kd.R_mono HO335.out (fun _ hk => ⟨⟨hk.1.1.2, hk.1.2⟩, hk.2⟩)) hg hat); replace HB := ak_ hb; have HO338 := ak_ ho; clear HO332; clear ho hb hg hat))
             go_roundg k1
             case measure => have := HK1.out; omega
             case rel => exact ⟨(y336), (wrap64 (x33_1 + 1)), rf_, H', ⟨by have := HK1.out; omega⟩, ⟨by (with_reducible repeat (first | apply Kd.R_alloc | apply Kd.R_drewN | apply Kd.R_drew)); exact Kd.R_mono HO338.out (fun _ hk => trivial)⟩, ⟨kl_ BK302⟩, ⟨bw2_ HB GE302 GE320⟩⟩
            ·rw [if_neg c31] at H
             exact absurd H (by simp)
           ·rw [if_neg c29] at H
            exact absurd H (by simp)
          ·rw [if_neg c27] at H
           exact absurd H (by simp)
         ·rw [if_neg c25] at H
          exact absurd H (by simp)
        ·rw [if_neg c24] at H
         exact absurd H (by simp)
       ·rw [if_neg c23] at H
        have c23b0 := decide_eq_false c23
        clear c23
        replace H := bind_eq_some_iff.mp H
        obtain ⟨t339, A460, H⟩ := H
        replace H : (if x4_1.length + t339.length < 140737488355328 then (some ((x4_1 ++ t339), 0)) else (none)) = some (r1, r2) := H
        have A46 := ak_ A460
        clear A460
        by_cases c47 : x4_1.length + t339.length < 140737488355328
        ·rw [if_pos c47] at H
         have LMc47 := ak_ c47
         clear c47
         obtain ⟨y342, hy342⟩ : ∃ y_ : List Int, y_ = (x4_1 ++ t339) := ⟨_, rfl⟩
         replace H : (some (y342, 0)) = some (r1, r2) := by first | (rw [hy342]; with_reducible exact H) | (have H2_ := (Option.bind_some _ _).symm.trans H; rw [hy342]; with_reducible exact H2_) | (have H2_ := (Option.bind_some _ _).symm.trans H; with_reducible exact H2_) | with_reducible exact H | (rw [hy342]; exact H) | exact H
         have Ny342 := ak_ hy342
         clear hy342
         simp only [some.injEq, Prod.mk.injEq] at H
         obtain ⟨rfl, rfl⟩ := H
         obtain ⟨hcz48_0, hcz48_1, hcz48_2, hcz48_3, hcz48_4, hcz48_5, hcz48_6, hcz48_7, hcz48_8, hcz48_9, hcz48_10, hcz48_11, hcz48_12, hfz48_0, hfz48_1, hfz48_2, hfz48_3, hfz48_4, hfz48_5, hfz48_6, hfz48_7, hfz48_8, hfz48_9, hfz48_10, hfz48_11, hfz48_12⟩ := kc13_ BK302.out
         go_wp2_with (first | ((with_reducible refine gate_callee (f := 57) rfl ?_); refine gl_ (some 60) func57 #[.agg #[.int .u64 a0_8, .int .u64 a0_9, .int .u64 a0_10, .int .u64 a0_11]] ?_; (with_reducible refine (medlarref04_Octets.calls k1 a0_8 a0_9 a0_10 a0_11 t339 _ A46.out).mono ?_); rintro e w49 ⟨v340, rfl, ho0, hb⟩; refine ⟨_, rfl, ?_⟩; have HO341 := ak_ (Kd.R_lower (Kd.R_new' ho0 (Kd.R_lt (rl_ HO_4))) (bz_ (bw1_ HB GE302))); replace HO_4 := ak_ (Kd.R_elder' (rl_ HO_4) (Kd.R_base ho0) hb); replace BK302 := ak_ (kb_ (kl_ BK302) hb); replace HB := ak_ (bt_ (bw1_ HB GE302) hb); (try clear hb); (try clear hk); (try clear ho0); obtain ⟨Ao51, co51, eo51⟩ := Kd.R_slice HO341.out; subst eo51) | ((with_reducible refine gate_builtin (b := .append) (xs := #[.tmp 56, .tmp 60]) rfl ?_); at_builtin; refine Kd.R_append_rows (Kd.int .u8) (w0 := w) w.heap.size rfl (.tmp 56) (.tmp 60) 35 5 (.int .u8 0) 1 rfl underlying35 info5 rfl (by decide) (by omega) u4 x4_1 t339 _ _ _ (fun k_ => some k_ ≠ (.slice Ao51 t339.length co51 : Value).ownBlock) (fun _ => False) rfl rfl ?aO ?aR (fun _ _ h => h) (fun _ h => h.elim) ?aF ?aB ?aS ?aL ?_; (case aR => repeat (first | exact (Kd.R_reads' HO341.out).2.2 | (with_reducible refine Kd.C_alloc ?_ _) | (with_reducible refine Kd.C_drewN ?_ _) | (with_reducible refine Kd.C_drew ?_))); (case aB => exact (bw1_ HB GE302)); (case aF => exact (fun k_ hk => Kd.fresh' (Kd.R_lt (rl_ HO341)) k_ hk)); (case aO => exact (by (with_reducible repeat (first | apply Kd.R_alloc | apply Kd.R_drewN | apply Kd.R_drew)); exact Kd.R_mono HO_4.out (fun _ hk => hk.2))); (case aS => exact (bz_ (bw1_ HB GE302))); (case aL => have := LMc47.out; omega); intro v343 w50 ho hb hg hat; rw [← Ny342.out] at ho; replace BK302 := ak_ (blk_grown (g := gb302) (o := .cells #[.int .i64 a0_0, .int .i64 a0_1, .int .i64 a0_2, .slice A0_3 l0_3.length c0_3, .bool a0_4, .bool a0_5, .int .u64 a0_6, .int .u64 a0_7, .int .u64 a0_8, .int .u64 a0_9, .int .u64 a0_10, .int .u64 a0_11, .int .i64 a0_12] 31 (0, 0)) (kl_ BK302) hg (Kd.R_ne HO_4.out BK302.out (by decide))); replace HO341 := ak_ (Kd.R_after (ok := (fun _ => True)) (rl_ HO341) hg hat); replace HB := ak_ hb; have HO344 := ak_ ho; clear HO_4; clear ho hb hg hat))
         go_wp2_with (first | ((with_reducible refine gate_callee (f := 57) rfl ?_); refine gl_ (some 60) func57 #[.agg #[.int .u64 a0_8, .int .u64 a0_9, .int .u64 a0_10, .int .u64 a0_11]] ?_; (with_reducible refine (medlarref04_Octets.calls k1 a0_8 a0_9 a0_10 a0_11 t339 _ A46.out).mono ?_); rintro e w49 ⟨v340, rfl, ho0, hb⟩; refine ⟨_, rfl, ?_⟩; have HO341 := ak_ (Kd.R_lower (Kd.R_new' ho0 (Kd.R_lt (rl_ HO_4))) (bz_ (bw1_ HB GE302))); replace HO_4 := ak_ (Kd.R_elder' (rl_ HO_4) (Kd.R_base ho0) hb); replace BK302 := ak_ (kb_ (kl_ BK302) hb); replace HB := ak_ (bt_ (bw1_ HB GE302) hb); (try clear hb); (try clear hk); (try clear ho0); obtain ⟨Ao51, co51, eo51⟩ := Kd.R_slice HO341.out; subst eo51) | ((with_reducible refine gate_builtin (b := .append) (xs := #[.tmp 56, .tmp 60]) rfl ?_); at_builtin; refine Kd.R_append_rows (Kd.int .u8) (w0 := w) w.heap.size rfl (.tmp 56) (.tmp 60) 35 5 (.int .u8 0) 1 rfl underlying35 info5 rfl (by decide) (by omega) u4 x4_1 t339 _ _ _ (fun k_ => some k_ ≠ (.slice Ao51 t339.length co51 : Value).ownBlock) (fun _ => False) rfl rfl ?aO ?aR (fun _ _ h => h) (fun _ h => h.elim) ?aF ?aB ?aS ?aL ?_; (case aR => repeat (first | exact (Kd.R_reads' HO341.out).2.2 | (with_reducible refine Kd.C_alloc ?_ _) | (with_reducible refine Kd.C_drewN ?_ _) | (with_reducible refine Kd.C_drew ?_))); (case aB => exact (bw1_ HB GE302)); (case aF => exact (fun k_ hk => Kd.fresh' (Kd.R_lt (rl_ HO341)) k_ hk)); (case aO => exact (by (with_reducible repeat (first | apply Kd.R_alloc | apply Kd.R_drewN | apply Kd.R_drew)); exact Kd.R_mono HO_4.out (fun _ hk => hk.2))); (case aS => exact (bz_ (bw1_ HB GE302))); (case aL => have := LMc47.out; omega); intro v343 w50 ho hb hg hat; rw [← Ny342.out] at ho; replace BK302 := ak_ (blk_grown (g := gb302) (o := .cells #[.int .i64 a0_0, .int .i64 a0_1, .int .i64 a0_2, .slice A0_3 l0_3.length c0_3, .bool a0_4, .bool a0_5, .int .u64 a0_6, .int .u64 a0_7, .int .u64 a0_8, .int .u64 a0_9, .int .u64 a0_10, .int .u64 a0_11, .int .i64 a0_12] 31 (0, 0)) (kl_ BK302) hg (Kd.R_ne HO_4.out BK302.out (by decide))); replace HO341 := ak_ (Kd.R_after (ok := (fun _ => True)) (rl_ HO341) hg hat); replace HB := ak_ hb; have HO344 := ak_ ho; clear HO_4; clear ho hb hg hat))
         go_ret2
         exact ⟨_, by first | rfl | (simp <;> rfl) | (simp [*] <;> rfl), by (with_reducible repeat (first | apply Kd.R_alloc | apply Kd.R_drewN | apply Kd.R_drew)); exact Kd.R_mono HO344.out (fun _ hk => trivial), bw1_ HB GE302⟩
        ·rw [if_neg c47] at H
         exact absurd H (by simp)
    ·rw [if_neg c7] at H
     exact absurd H (by simp)
   ·rw [if_neg c5] at H
    exact absurd H (by simp)
  ·rw [if_neg c3] at H
   have c3b0 : (t303 == 0) = false := beq_eq_false_iff_ne.mpr c3
   have c3b1 : (t303 != 0) = true := bne_iff_ne.mpr c3
   simp only [some.injEq, Prod.mk.injEq] at H
   obtain ⟨rfl, rfl⟩ := H
   go_enter func20, ntmps20
   go_wp2_with (first | ((with_reducible refine gate_dst (N := 1) rfl ?_); refine bx_ 1 #[.int .i64 a0_0, .int .i64 a0_1, .int .i64 a0_2, .slice A0_3 l0_3.length c0_3, .bool a0_4, .bool a0_5, .int .u64 a0_6, .int .u64 a0_7, .int .u64 a0_8, .int .u64 a0_9, .int .u64 a0_10, .int .u64 a0_11, .int .i64 a0_12] 31 ?_; intro gb302 hg w52 hbox hb; have BK302 := ak_ hbox; have GW302 := ak_ (gs_ hg HB); have GE302 := ak_ (gs_ hg HB); replace HB := ak_ (bt_ (bl_ HB) hb); clear hb hbox hg; obtain ⟨hcz53_0, hcz53_1, hcz53_2, hcz53_3, hcz53_4, hcz53_5, hcz53_6, hcz53_7, hcz53_8, hcz53_9, hcz53_10, hcz53_11, hcz53_12, hfz53_0, hfz53_1, hfz53_2, hfz53_3, hfz53_4, hfz53_5, hfz53_6, hfz53_7, hfz53_8, hfz53_9, hfz53_10, hfz53_11, hfz53_12⟩ := kc13_ BK302.out) | ((with_reducible refine gate_callee (f := 25) rfl ?_); refine gl_ (some 8) func25 #[.agg #[.int .i64 a0_0, .int .i64 a0_1, .int .i64 a0_2, .slice A0_3 l0_3.length c0_3, .bool a0_4, .bool a0_5, .int .u64 a0_6, .int .u64 a0_7, .int .u64 a0_8, .int .u64 a0_9, .int .u64 a0_10, .int .u64 a0_11, .int .i64 a0_12]] ?_; (with_reducible refine (medlarref16_Check.calls k a0_0 a0_1 a0_2 _ _ l0_3 a0_4 a0_5 a0_6 a0_7 a0_8 a0_9 a0_10 a0_11 a0_12 t303 _ ?side1 ?side2 A2.out).mono ?_); (case side1 => repeat (first | exact (Kd.C_below HR0_3.out HB.out) | (with_reducible refine Kd.C_alloc ?_ _) | (with_reducible refine Kd.C_drewN ?_ _) | (with_reducible refine Kd.C_drew ?_))); (case side2 => exact HC0_3.out); rintro e w54 ⟨rfl, hb⟩; refine ⟨_, rfl, ?_⟩; replace BK302 := ak_ (kb_ (kl_ BK302) hb); replace HB := ak_ (bt_ (bw1_ HB GE302) hb); (try clear hb); (try clear hk)))
   go_ret2
   exact ⟨_, by first | rfl | (simp <;> rfl) | (simp [*] <;> rfl), by first | exact Kd.R_nil _ _ _ _ _ | exact Kd.N_nil _ _ _ _ _ | exact Kd.V_nil _ _ _ _ _ | exact Kd.Q_nil _ _ _ _ _ | exact Kd.S_nil _ _ _ _ _, bw1_ HB GE302⟩
def medlarref16_take.l0 : Nat → List Int → Int → Int → Option (Int)
  | 0, _, _, _ => none
  | k + 1, x0, x3, x4 => if x4 ≥ 0 then (if 0 ≤ x4 then (if x4 < (x0.length : Int) then (medlarref16_take.l0 k x0 (IntKind.u64.wrap ((IntKind.u64.wrap (256 * x3)) + (IntKind.u64.wrap (rd x0 x4)))) (wrap64 (x4 - 1))) else (none)) else (none)) else (some x3)
def medlarref16_take.f (k : Nat) (l0 : List Int) : Option (Int) := medlarref16_take.l0 k l0 0 (wrap64 ((l0.length : Int) - 1))
theorem medlarref16_take.mono_l : ∀ k, (∀ y0 y1 y2, LeO (medlarref16_take.l0 k y0 y1 y2) (medlarref16_take.l0 (k + 1) y0 y1 y2))
  | 0 => fun _ _ _ r h => by simp [medlarref16_take.l0] at h
  | k + 1 => by
   have ih0 := medlarref16_take.mono_l k
   ·intro y0 y1 y2
    unfold medlarref16_take.l0
    repeat' first | (with_reducible first | exact ih0 .. | exact LeO.refl _ | exact LeO.none _ | refine LeO.ite ?_ ?_ | refine LeO.bind ?_ (fun _ => ?_)) | exact ih0 .. | refine LeO.ite ?_ ?_ | refine LeO.bind ?_ (fun _ => ?_)
theorem medlarref16_take.mono : ∀ a0 k, LeO (medlarref16_take.f k a0) (medlarref16_take.f (k + 1) a0) := by
  intro a0 k
  have ih0 := medlarref16_take.mono_l k
  unfold medlarref16_take.f
  repeat' first | (with_reducible first | exact ih0 .. | exact LeO.refl _ | exact LeO.none _ | refine LeO.ite ?_ ?_ | refine LeO.bind ?_ (fun _ => ?_)) | exact ih0 .. | refine LeO.ite ?_ ?_ | refine LeO.bind ?_ (fun _ => ?_)
set_option maxHeartbeats 8000000 in
set_option maxRecDepth 100000 in
theorem medlarref16_take.calls (k : Nat) (A0 : Option Addr) (c0 : Nat) (l0 : List Int) (r : Int) (w : World) (hr0 : Kd.C (Kd.int .u8) w A0 l0.length l0) (hc0 : l0.length ≤ c0) (h : medlarref16_take.f k l0 = some r) :
   Calls Try.prog 58 #[.slice A0 l0.length c0] w fun e w' => e = .returned (.int .u64 r) ∧ Drawn0 w w' := by
  have HR0 := ak_ hr0
  have HC0 := ak_ hc0
  clear hr0 hc0
  have H : (medlarref16_take.l0 k l0 0 (wrap64 ((l0.length : Int) - 1))) = some r := h
  clear h
  have H' := ak_ H
  clear H
  go_enter func58, ntmps58
  go_wp2
  go_loopg [3, 4] k (fun kq v3 v4 w' => ∃ (x3_1 : Int) (x4_1 : Int), v3 = .int .u64 x3_1 ∧ v4 = .int .i64 x4_1 ∧ Aside0 (medlarref16_take.l0 kq l0 x3_1 x4_1 = some r) ∧ Aside0 (kq ≤ k) ∧ Drawn0 w w')
  case atStart => exact ⟨(0), (wrap64 ((l0.length : Int) - 1)), rf_, rf_, H', ⟨Nat.le_refl _⟩, by repeat (first | exact Drawn0.refl _ | apply Drawn0.step)⟩
  case round =>
   clear H'
   obtain ⟨x3_1, x4_1, rfl, rfl, HA, HK1, ⟨m1, rfl⟩⟩ := hrel
   cases gk with
   | zero => exact absurd HA.out (by simp [medlarref16_take.l0])
   | succ k1 =>
    have H := HA.out
    clear HA
    simp only [medlarref16_take.l0] at H
    by_cases c2 : x4_1 ≥ 0
    ·rw [if_pos c2] at H
     have c2b0 : decide (0 ≤ x4_1) = true := decide_eq_true c2
     clear c2
     by_cases c3 : 0 ≤ x4_1
     ·rw [if_pos c3] at H
      have c3b0 := decide_eq_true c3
      clear c3
      by_cases c4 : x4_1 < (l0.length : Int)
      ·rw [if_pos c4] at H
       have c4b0 := decide_eq_true c4
       clear c4
       have H' := ak_ H
       clear H
       have p345 : 0 ≤ (x4_1 : Int) := od_ (by first | (with_reducible assumption) | assumption)
       have q345 : x4_1 < (l0.length : Int) := od_ (by first | (with_reducible assumption) | assumption)
       obtain ⟨ad345, e345, hx345_0⟩ := Kd.at_int HR0.out x4_1 p345 q345
       cases e345
       replace p345 := eq_true p345
       replace q345 := eq_true q345
       go_wp2
       go_roundg k1
       case measure => have := HK1.out; omega
       case rel => exact ⟨(IntKind.u64.wrap ((IntKind.u64.wrap (256 * x3_1)) + (IntKind.u64.wrap (rd l0 x4_1)))), (wrap64 (x4_1 - 1)), rf_, rf_, H', ⟨by have := HK1.out; omega⟩, by repeat (first | exact Drawn0.refl _ | apply Drawn0.step)⟩
      ·rw [if_neg c4] at H
       exact absurd H (by simp)
     ·rw [if_neg c3] at H
      exact absurd H (by simp)
    ·rw [if_neg c2] at H
     have c2b0 : decide (0 ≤ x4_1) = false := decide_eq_false c2
     clear c2
     obtain rfl := Option.some.inj H
     go_wp2
     go_ret
     exact ⟨by first | rfl | (simp; done) | (simp [*]; done), by repeat (first | exact Drawn0.refl _ | apply Drawn0.step)⟩
def medlarref03_number.l0 : Nat → List Int → Int → Int → Option (Int)
  | 0, _, _, _ => none
  | k + 1, x0, x3, x4 => if x4 ≥ 0 then (if 0 ≤ x4 then (if x4 < (x0.length : Int) then (medlarref03_number.l0 k x0 (IntKind.u64.wrap ((IntKind.u64.wrap (256 * x3)) + (IntKind.u64.wrap (rd x0 x4)))) (wrap64 (x4 - 1))) else (none)) else (none)) else (some x3)
def medlarref03_number.f (k : Nat) (l0 : List Int) : Option (Int) := medlarref03_number.l0 k l0 0 (wrap64 ((l0.length : Int) - 1))
theorem medlarref03_number.mono_l : ∀ k, (∀ y0 y1 y2, LeO (medlarref03_number.l0 k y0 y1 y2) (medlarref03_number.l0 (k + 1) y0 y1 y2))
  | 0 => fun _ _ _ r h => by simp [medlarref03_number.l0] at h
  | k + 1 => by
   have ih0 := medlarref03_number.mono_l k
   ·intro y0 y1 y2
    unfold medlarref03_number.l0
    repeat' first | (with_reducible first | exact ih0 .. | exact LeO.refl _ | exact LeO.none _ | refine LeO.ite ?_ ?_ | refine LeO.bind ?_ (fun _ => ?_)) | exact ih0 .. | refine LeO.ite ?_ ?_ | refine LeO.bind ?_ (fun _ => ?_)
theorem medlarref03_number.mono : ∀ a0 k, LeO (medlarref03_number.f k a0) (medlarref03_number.f (k + 1) a0) := by
  intro a0 k
  have ih0 := medlarref03_number.mono_l k
  unfold medlarref03_number.f
  repeat' first | (with_reducible first | exact ih0 .. | exact LeO.refl _ | exact LeO.none _ | refine LeO.ite ?_ ?_ | refine LeO.bind ?_ (fun _ => ?_)) | exact ih0 .. | refine LeO.ite ?_ ?_ | refine LeO.bind ?_ (fun _ => ?_)
set_option maxHeartbeats 8000000 in
set_option maxRecDepth 100000 in
theorem medlarref03_number.calls (k : Nat) (A0 : Option Addr) (c0 : Nat) (l0 : List Int) (r : Int) (w : World) (hr0 : Kd.C (Kd.int .u8) w A0 l0.length l0) (hc0 : l0.length ≤ c0) (h : medlarref03_number.f k l0 = some r) :
   Calls Try.prog 118 #[.slice A0 l0.length c0] w fun e w' => e = .returned (.int .u64 r) ∧ Drawn0 w w' := by
  have HR0 := ak_ hr0
  have HC0 := ak_ hc0
  clear hr0 hc0
  have H : (medlarref03_number.l0 k l0 0 (wrap64 ((l0.length : Int) - 1))) = some r := h
  clear h
  have H' := ak_ H
  clear H
  go_enter func118, ntmps118
  go_wp2
  go_loopg [3, 4] k (fun kq v3 v4 w' => ∃ (x3_1 : Int) (x4_1 : Int), v3 = .int .u64 x3_1 ∧ v4 = .int .i64 x4_1 ∧ Aside0 (medlarref03_number.l0 kq l0 x3_1 x4_1 = some r) ∧ Aside0 (kq ≤ k) ∧ Drawn0 w w')
  case atStart => exact ⟨(0), (wrap64 ((l0.length : Int) - 1)), rf_, rf_, H', ⟨Nat.le_refl _⟩, by repeat (first | exact Drawn0.refl _ | apply Drawn0.step)⟩
  case round =>
   clear H'
   try clear c1
   obtain ⟨x3_1, x4_1, rfl, rfl, HA, HK1, ⟨m1, rfl⟩⟩ := hrel
   cases gk with
   | zero => exact absurd HA.out (by simp [medlarref03_number.l0])
   | succ k1 =>
    have H := HA.out
    clear HA
    simp only [medlarref03_number.l0] at H
    by_cases c2 : x4_1 ≥ 0
    ·rw [if_pos c2] at H
     have c2b0 : decide (0 ≤ x4_1) = true := decide_eq_true c2
     clear c2
     by_cases c3 : 0 ≤ x4_1
     ·rw [if_pos c3] at H
      have c3b0 := decide_eq_true c3
      clear c3
      by_cases c4 : x4_1 < (l0.length : Int)
      ·rw [if_pos c4] at H
       have c4b0 := decide_eq_true c4
       clear c4
       have H' := ak_ H
       clear H
       have p346 : 0 ≤ (x4_1 : Int) := od_ (by first | (with_reducible assumption) | assumption)
       have q346 : x4_1 < (l0.length : Int) := od_ (by first | (with_reducible assumption) | assumption)
       obtain ⟨ad346, e346, hx346_0⟩ := Kd.at_int HR0.out x4_1 p346 q346
       cases e346
       replace p346 := eq_true p346
       replace q346 := eq_true q346
       go_wp2
       go_roundg k1
       case measure => have := HK1.out; omega
       case rel => exact ⟨(IntKind.u64.wrap ((IntKind.u64.wrap (256 * x3_1)) + (IntKind.u64.wrap (rd l0 x4_1)))), (wrap64 (x4_1 - 1)), rf_, rf_, H', ⟨by have := HK1.out; omega⟩, by repeat (first | exact Drawn0.refl _ | apply Drawn0.step)⟩
      ·rw [if_neg c4] at H
       exact absurd H (by simp)
     ·rw [if_neg c3] at H
      exact absurd H (by simp)
    ·rw [if_neg c2] at H
     have c2b0 : decide (0 ≤ x4_1) = false := decide_eq_false c2
     clear c2
     obtain rfl := Option.some.inj H
     go_wp2
     go_ret
     exact ⟨by first | rfl | (simp; done) | (simp [*]; done), by repeat (first | exact Drawn0.refl _ | apply Drawn0.step)⟩
def medlarref03_Of.f (k : Nat) (l0 : List Int) : Option (Int × Int × Int) := if (l0.length : Int) = 16 then (if 8 ≤ (l0.length : Int) then ((medlarref03_number.f k (l0.take 8)).bind fun t349 => ((medlarref03_number.f k (l0.drop 8)).bind fun t351 => (some (t349, t351, 0)))) else (none)) else (some (0, 0, 2))
theorem medlarref03_Of.mono : ∀ a0 k, LeO (medlarref03_Of.f k a0) (medlarref03_Of.f (k + 1) a0) := by
  intro a0 k
  unfold medlarref03_Of.f
  repeat' first | (with_reducible first | exact medlarref03_number.mono .. | exact LeO.refl _ | exact LeO.none _ | refine LeO.ite ?_ ?_ | refine LeO.bind ?_ (fun _ => ?_)) | exact medlarref03_number.mono .. | refine LeO.ite ?_ ?_ | refine LeO.bind ?_ (fun _ => ?_)
def medlarref03_Of.T3 : Bool × List (List Nat × List Nat) := (true, [([], []), ([0], [0]), ([1], [1]), ([], []), ([3], [3]), ([4, 2], [4]), ([2, 5], [2, 5]), ([6, 5, 0, 1, 2, 3, 4, 5, 6], [6]), ([7, 0, 1, 2, 3, 4, 5, 6, 7], [])])
def medlarref03_Of.B3 : List Nat := [0, 1, 3, 0, 8, 31, 63, 127, 255]
theorem medlarref03_Of.tab3 : rtab .any (opsOf Try.f81 3) = medlarref03_Of.T3 := by kernel_rfl
theorem medlarref03_Of.bits3 : waitsOk medlarref03_Of.T3.2 medlarref03_Of.B3 = true := by kernel_rfl
set_option maxHeartbeats 8000000 in
set_option maxRecDepth 100000 in
theorem medlarref03_Of.calls (k : Nat) (A0 : Option Addr) (c0 : Nat) (l0 : List Int) (r1 : Int) (r2 : Int) (r3 : Int) (w : World) (hr0 : Kd.C (Kd.int .u8) w A0 l0.length l0) (hc0 : l0.length ≤ c0) (h : medlarref03_Of.f k l0 = some (r1, r2, r3)) :
   Calls Try.prog 81 #[.slice A0 l0.length c0] w fun e w' => e = .returned (.tuple #[.agg #[.int .u64 r1, .int .u64 r2], .int .i64 r3]) ∧ Below w.heap.size w w' := by
  have hu25 := underlying25
  have HR0 := ak_ hr0
  have HC0 := ak_ hc0
  clear hr0 hc0
  have HB := ak_ (Below.refl w.heap.size w)
  have H : (if (l0.length : Int) = 16 then (if 8 ≤ (l0.length : Int) then ((medlarref03_number.f k (l0.take 8)).bind fun t349 => ((medlarref03_number.f k (l0.drop 8)).bind fun t351 => (some (t349, t351, 0)))) else (none)) else (some (0, 0, 2))) = some (r1, r2, r3) := h
  clear h
  by_cases c2 : (l0.length : Int) = 16
  ·rw [if_pos c2] at H
   have c2b0 : ((l0.length : Int) == 16) = true := beq_iff_eq.mpr c2
   have c2b1 : ((l0.length : Int) != 16) = false := bne_eq_false_iff_eq.mpr c2
   clear c2
   by_cases c3 : 8 ≤ (l0.length : Int)
   ·rw [if_pos c3] at H
    have c3b0 := eq_true c3
    have c3b1 := decide_eq_true c3
    clear c3
    replace H := bind_eq_some_iff.mp H
    obtain ⟨t349, A40, H⟩ := H
    replace H : ((medlarref03_number.f k (l0.drop 8)).bind fun t351 => (some (t349, t351, 0))) = some (r1, r2, r3) := H
    have A4 := ak_ A40
    clear A40
    have c5b0 := eq_true (od_ (by first | (with_reducible assumption) | assumption) : 8 ≤ (l0.length : Int))
    replace H := bind_eq_some_iff.mp H
    obtain ⟨t351, A60, H⟩ := H
    replace H : (some (t349, t351, 0)) = some (r1, r2, r3) := H
    have A6 := ak_ A60
    clear A60
    simp only [some.injEq, Prod.mk.injEq] at H
    obtain ⟨rfl, rfl, rfl⟩ := H
    go_enter func81, ntmps81
    try go_wp2_with (first | ((with_reducible refine gate_dst (N := 2) rfl ?_); refine bx_ 2 #[.int .u64 0, .int .u64 0] 25 ?_; intro gb347 hg w7 hbox hb; have BK347 := ak_ hbox; have GW347 := ak_ (gs_ hg HB); have GE347 := ak_ (gs_ hg HB); replace HB := ak_ (bt_ (bl_ HB) hb); clear hb hbox hg))
    replace BK347 := ak_ (kd_ BK347.out)
    replace HB := ak_ (bd_ HB.out)
    obtain ⟨i09, hi09, _, hsz9, _⟩ := info_parts info5
    obtain ⟨hcut9, hA9, hC9⟩ := print_take_of (P := Try.prog) (Value.int .u8) 0 35 5 .i64 underlying35 hi09 hsz9 A0 c0 l0 8 (by omega) (od_ (by first | (with_reducible assumption) | assumption)) HC0.out
    have HR348 := ak_ (Kd.C_of_reads (h1 := fun _ => rfl) (hA9 _ (Kd.reads_of_C HR0.out)))
    have HC348 := ak_ hC9
    clear hA9 hC9 hi09 hsz9
    obtain ⟨i010, hi010, _, hsz10, _⟩ := info_parts info5
    obtain ⟨A10, hcut10, hA10, hC10⟩ := print_drop_of (P := Try.prog) (Value.int .u8) 0 35 5 .i64 underlying35 hi010 hsz10 A0 c0 l0 8 (by omega) (od_ (by first | (with_reducible assumption) | assumption)) HC0.out
    have HR350 := ak_ (Kd.C_of_reads (h1 := fun _ => rfl) (hA10 _ (Kd.reads_of_C HR0.out)))
    have HC350 := ak_ hC10
    clear hA10 hC10 hi010 hsz10
    refine start_ (n := 9) (S := fun w' => True) (ds := []) #[false, false, false, false, false, false, false, false, false] (by kernel_rfl) rfl rfl trivial (fun hHeld => ?_); refine with_tabW medlarref03_Of.tab3 medlarref03_Of.bits3 (fun HT_ HW_ => ?_)
    generalize w7.drew = w8 at BK347 HB HR348 HR350 hHeld ⊢
    refine pu_ HT_ 0 (some 8) #[true, false, false, false, false, false, false, false, false] ?_
    refine pu_ HT_ 1 (some 9) #[true, true, false, false, false, false, false, false, false] ?_
    refine pu_ HT_ 3 (some 11) #[true, true, false, true, false, false, false, false, false] ?_
    refine pu_ HT_ 4 (some 12) #[true, true, false, true, true, false, false, false, false] ?_
    refine one_ (i := 2) (N := some 10) #[true, true, true, true, true, false, false, false, false] rfl rfl (one_of HT_.out (by kernel_rfl)) (by decide) (fun K hK => ?_)
    refine goes_ func118 (by kernel_rfl) rfl #[.slice A0 (l0.take 8).length c0] (by rfl) rfl rfl (by (try simp only [map_toArray, map_cons, map_nil]); first | done | (rw [show (l0.take 8).length = 8 from (by rw [List.length_take]; have h_ : (8 : Int) ≤ (l0.length : Int) := od_ (by first | (with_reducible assumption) | assumption); omega)] <;> rfl) | rfl | (simp only [length_drop, length_take]; rfl)) ?_
    with_reducible refine (medlarref03_number.calls k _ _ (l0.take 8) t349 _ ?side1 ?side2 A4.out).mono ?_
    (case side1 => repeat (first | exact (Kd.C_below HR348.out HB.out) | (with_reducible refine Kd.C_alloc ?_ _) | (with_reducible refine Kd.C_drewN ?_ _) | (with_reducible refine Kd.C_drew ?_)))
    (case side2 => exact HC348.out)
    rintro e w' ⟨rfl, ⟨nd, rfl⟩⟩
    refine ⟨_, rfl, ?_⟩
    refine hK.out _ _ trivial (fun hHeld => ?_)
    clear hK K
    refine norm_ (a' := ?_) ?_ ?_
    rotate_left
    ·show Act.put _ (some 10) _ = _
     simp only [Act.put, setIfInBounds_toArray, set_cons_zero, set_cons_succ, i64_w, i32_w]
     rfl
    refine one_ (i := 5) (N := some 13) #[true, true, true, true, true, true, false, false, false] rfl rfl (one_of HT_.out (by kernel_rfl)) (by decide) (fun K hK => ?_)
    refine goes_ func118 (by kernel_rfl) rfl #[.slice A10 (l0.drop 8).length (c0 - 8)] (by rfl) rfl rfl (by (try simp only [map_toArray, map_cons, map_nil]); first | done | (rw [show (l0.drop 8).length = (l0.length - 8) from List.length_drop] <;> rfl) | rfl | (simp only [length_drop, length_take]; rfl)) ?_
    with_reducible refine (medlarref03_number.calls k _ _ (l0.drop 8) t351 _ ?side1 ?side2 A6.out).mono ?_
    (case side1 => repeat (first | exact (Kd.C_below HR350.out (bw1_ HB GE347)) | (with_reducible refine Kd.C_alloc ?_ _) | (with_reducible refine Kd.C_drewN ?_ _) | (with_reducible refine Kd.C_drew ?_)))
    (case side2 => exact HC350.out)
    rintro e w' ⟨rfl, ⟨nd, rfl⟩⟩
    refine ⟨_, rfl, ?_⟩
    refine hK.out _ _ trivial (fun hHeld => ?_)
    clear hK K
    refine norm_ (a' := ?_) ?_ ?_
    rotate_left
    ·show Act.put _ (some 13) _ = _
     simp only [Act.put, setIfInBounds_toArray, set_cons_zero, set_cons_succ, i64_w, i32_w]
     rfl
    refine pu_ HT_ 6 (some 14) #[true, true, true, true, true, true, true, false, false] ?_
    refine one_ (i := 7) (N := none) #[true, true, true, true, true, true, true, true, false] rfl rfl (one_of HT_.out (by kernel_rfl)) (by decide) (fun K hK => ?_)
    have hs11 : w8.cell? ⟨gb347, 0, none⟩ = some (.int .u64 0) := (kc_ BK347.out 0).trans rfl
    have hfs11 := kf_ BK347.out 0
    have hs12 : w8.cell? ⟨gb347, 1, none⟩ = some (.int .u64 0) := (kc_ BK347.out 1).trans rfl
    have hfs12 := kf_ BK347.out 1
    refine skip_ (w1 := ?_) (by rfl) rfl ?_ ?_
    rotate_left
    ·go_simp
     rfl
    refine hK.out _ _ trivial (fun hHeld => ?_)
    clear hK K
    refine pu_ HT_ 8 (some 3) #[true, true, true, true, true, true, true, true, true] ?_
    refine done_ (done_of HT_.out (by kernel_rfl)) ?_
    try go_wp2
    refine bodyPost_ret (results_ct rfl _ _ gb347 25 #[.int .u64 t349, .int .u64 t351] (0, 0) _ rfl (by (with_reducible repeat (first | refine kn_ ?_ _ | refine kd_ ?_ | refine ka_ ?_ _)); exact bp_ (bp_ BK347.out 0 _) 1 _) underlying25 rfl (by kernel_rfl)) rfl ?_
    exact ea_ (bw1_ HB GE347)
   ·rw [if_neg c3] at H
    exact absurd H (by simp)
  ·rw [if_neg c2] at H
   have c2b0 : ((l0.length : Int) == 16) = false := beq_eq_false_iff_ne.mpr c2
   have c2b1 : ((l0.length : Int) != 16) = true := bne_iff_ne.mpr c2
   simp only [some.injEq, Prod.mk.injEq] at H
   obtain ⟨rfl, rfl, rfl⟩ := H
   go_enter func81, ntmps81
   go_wp2_with (first | ((with_reducible refine gate_dst (N := 2) rfl ?_); refine bx_ 2 #[.int .u64 0, .int .u64 0] 25 ?_; intro gb347 hg w13 hbox hb; have BK347 := ak_ hbox; have GW347 := ak_ (gs_ hg HB); have GE347 := ak_ (gs_ hg HB); replace HB := ak_ (bt_ (bl_ HB) hb); clear hb hbox hg; obtain ⟨hcz14_0, hcz14_1, hfz14_0, hfz14_1⟩ := kc2_ BK347.out))
   refine bodyPost_ret (results_ct rfl _ _ gb347 25 #[.int .u64 0, .int .u64 0] (0, 0) _ rfl (by (with_reducible repeat (first | refine kn_ ?_ _ | refine kd_ ?_ | refine ka_ ?_ _)); exact bp_ (bp_ BK347.out 0 _) 1 _) underlying25 rfl (by kernel_rfl)) rfl ?_
   exact ea_ (bw1_ HB GE347)
def medlarref04_Of.f (k : Nat) (l0 : List Int) : Option (Int × Int × Int × Int × Int) := if (l0.length : Int) = 32 then (if 16 ≤ (l0.length : Int) then ((medlarref03_Of.f k (l0.take 16)).bind fun bt354 => ((medlarref03_Of.f k (l0.drop 16)).bind fun bt359 => (some (bt354.1, bt354.2.1, bt359.1, bt359.2.1, 0)))) else (none)) else (some (0, 0, 0, 0, 2))
theorem medlarref04_Of.mono : ∀ a0 k, LeO (medlarref04_Of.f k a0) (medlarref04_Of.f (k + 1) a0) := by
  intro a0 k
  unfold medlarref04_Of.f
  repeat' first | (with_reducible first | exact medlarref03_Of.mono .. | exact LeO.refl _ | exact LeO.none _ | refine LeO.ite ?_ ?_ | refine LeO.bind ?_ (fun _ => ?_)) | exact medlarref03_Of.mono .. | refine LeO.ite ?_ ?_ | refine LeO.bind ?_ (fun _ => ?_)
set_option maxHeartbeats 8000000 in
set_option maxRecDepth 100000 in
theorem medlarref04_Of.calls (k : Nat) (A0 : Option Addr) (c0 : Nat) (l0 : List Int) (r1 : Int) (r2 : Int) (r3 : Int) (r4 : Int) (r5 : Int) (w : World) (hr0 : Kd.C (Kd.int .u8) w A0 l0.length l0) (hc0 : l0.length ≤ c0) (h : medlarref04_Of.f k l0 = some (r1, r2, r3, r4, r5)) :
   Calls Try.prog 102 #[.slice A0 l0.length c0] w fun e w' => e = .returned (.tuple #[.agg #[.int .u64 r1, .int .u64 r2, .int .u64 r3, .int .u64 r4], .int .i64 r5]) ∧ Below w.heap.size w w' := by
  have hu27 := underlying27
  have hu25 := underlying25
  have HR0 := ak_ hr0
  have HC0 := ak_ hc0
  clear hr0 hc0
  have HB := ak_ (Below.refl w.heap.size w)
  have H : (if (l0.length : Int) = 32 then (if 16 ≤ (l0.length : Int) then ((medlarref03_Of.f k (l0.take 16)).bind fun bt354 => ((medlarref03_Of.f k (l0.drop 16)).bind fun bt359 => (some (bt354.1, bt354.2.1, bt359.1, bt359.2.1, 0)))) else (none)) else (some (0, 0, 0, 0, 2))) = some (r1, r2, r3, r4, r5) := h
  clear h
  by_cases c2 : (l0.length : Int) = 32
  ·rw [if_pos c2] at H
   have c2b0 : ((l0.length : Int) == 32) = true := beq_iff_eq.mpr c2
   have c2b1 : ((l0.length : Int) != 32) = false := bne_eq_false_iff_eq.mpr c2
   clear c2
   by_cases c3 : 16 ≤ (l0.length : Int)
   ·rw [if_pos c3] at H
    have c3b0 := eq_true c3
    have c3b1 := decide_eq_true c3
    clear c3
    replace H := bind_eq_some_iff.mp H
    obtain ⟨⟨t354, t355, t356⟩, A40, H⟩ := H
    replace H : ((medlarref03_Of.f k (l0.drop 16)).bind fun bt359 => (some (t354, t355, bt359.1, bt359.2.1, 0))) = some (r1, r2, r3, r4, r5) := H
    have A4 := ak_ A40
    clear A40
    have c5b0 := eq_true (od_ (by first | (with_reducible assumption) | assumption) : 16 ≤ (l0.length : Int))
    replace H := bind_eq_some_iff.mp H
    obtain ⟨⟨t359, t360, t361⟩, A60, H⟩ := H
    replace H : (some (t354, t355, t359, t360, 0)) = some (r1, r2, r3, r4, r5) := H
    have A6 := ak_ A60
    clear A60
    simp only [some.injEq, Prod.mk.injEq] at H
    obtain ⟨rfl, rfl, rfl, rfl, rfl⟩ := H
    go_enter func102, ntmps102
    go_wp2_with (first | ((with_reducible refine gate_dst (N := 2) rfl ?_); refine bx_ 2 #[.int .u64 0, .int .u64 0, .int .u64 0, .int .u64 0] 27 ?_; intro gb352 hg w7 hbox hb; have BK352 := ak_ hbox; have GW352 := ak_ (gs_ hg HB); have GE352 := ak_ (gs_ hg HB); replace HB := ak_ (bt_ (bl_ HB) hb); clear hb hbox hg; obtain ⟨i08, hi08, _, hsz8, _⟩ := info_parts info5; obtain ⟨hcut8, hA8, hC8⟩ := print_take_of (P := Try.prog) (Value.int .u8) 0 35 5 .i64 underlying35 hi08 hsz8 A0 c0 l0 16 (by omega) (od_ (by first | (with_reducible assumption) | assumption)) HC0.out; have HR353 := ak_ (Kd.C_of_reads (h1 := fun _ => rfl) (hA8 _ (Kd.reads_of_C HR0.out))); have HC353 := ak_ hC8; clear hA8 hC8 hi08 hsz8) | ((with_reducible refine gate_callee (f := 81) rfl ?_); refine goesL_ (some 15) rfl rfl func81 (by kernel_rfl) rfl #[.slice A0 (l0.take 16).length c0] rfl (by (try simp only [map_toArray, map_cons, map_nil]); first | done | (rw [show (l0.take 16).length = 16 from (by rw [List.length_take]; have h_ : (16 : Int) ≤ (l0.length : Int) := od_ (by first | (with_reducible assumption) | assumption); omega)] <;> rfl) | rfl | (simp only [length_drop, length_take]; rfl)) ?_; (with_reducible refine (medlarref03_Of.calls k _ _ (l0.take 16) t354 t355 t356 _ ?side1 ?side2 A4.out).mono ?_); (case side1 => repeat (first | exact (Kd.C_below HR353.out HB.out) | (with_reducible refine Kd.C_alloc ?_ _) | (with_reducible refine Kd.C_drewN ?_ _) | (with_reducible refine Kd.C_drew ?_))); (case side2 => exact HC353.out); rintro e w9 ⟨rfl, hb⟩; refine ⟨_, rfl, ?_⟩; replace BK352 := ak_ (kb_ (kl_ BK352) hb); replace HB := ak_ (bt_ (bw1_ HB GE352) hb); (try clear hb); (try clear hk)) | ((with_reducible refine gate_dst (N := 4) rfl ?_); refine bx_ 4 #[.int .u64 0, .int .u64 0] 25 ?_; intro gb357 hg w10 hbox hb; have BK357 := ak_ hbox; have GW357 := ak_ (gw1_ HB GE352 hg); have GE357 := ak_ (gw1_ HB GE352 hg); replace HB := ak_ (bt_ (bw1_ HB GE352) hb); have NB352_357 := ak_ (nl_ hg BK352); have NB357_352 := ak_ (nr_ hg BK352); replace BK352 := ak_ (kb_ (kl_ BK352) hb); clear hb hbox hg; have hnb11 := NB357_352.out; have hnc11 := NB352_357.out; obtain ⟨hcz12_0, hcz12_1, hfz12_0, hfz12_1⟩ := kc2_ BK357.out; obtain ⟨i013, hi013, _, hsz13, _⟩ := info_parts info5; obtain ⟨A13, hcut13, hA13, hC13⟩ := print_drop_of (P := Try.prog) (Value.int .u8) 0 35 5 .i64 underlying35 hi013 hsz13 A0 c0 l0 16 (by omega) (od_ (by first | (with_reducible assumption) | assumption)) HC0.out; have HR358 := ak_ (Kd.C_of_reads (h1 := fun _ => rfl) (hA13 _ (Kd.reads_of_C HR0.out))); have HC358 := ak_ hC13; clear hA13 hC13 hi013 hsz13) | ((with_reducible refine gate_callee (f := 81) rfl ?_); refine goesL_ (some 21) rfl rfl func81 (by kernel_rfl) rfl #[.slice A13 (l0.drop 16).length (c0 - 16)] rfl (by (try simp only [map_toArray, map_cons, map_nil]); first | done | (rw [show (l0.drop 16).length = (l0.length - 16) from List.length_drop] <;> rfl) | rfl | (simp only [length_drop, length_take]; rfl)) ?_; (with_reducible refine (medlarref03_Of.calls k _ _ (l0.drop 16) t359 t360 t361 _ ?side1 ?side2 A6.out).mono ?_); (case side1 => exact Kd.C_below HR358.out (bw2_ HB GE352 GE357)); (case side2 => exact HC358.out); rintro e w14 ⟨rfl, hb⟩; refine ⟨_, rfl, ?_⟩; replace BK352 := ak_ (kb_ (g := gb352) (o := .cells #[.int .u64 0, .int .u64 0, .int .u64 0, .int .u64 0] 27 (0, 0)) (by (with_reducible repeat (first | refine kn_ ?_ _ | refine kd_ ?_ | refine ka_ ?_ _)); (iterate 2 refine blk_far ?_ NB352_357.out _); exact BK352.out) hb); replace BK357 := ak_ (kb_ (g := gb357) (o := .cells #[.int .u64 t354, .int .u64 t355] 25 (0, 0)) (by (with_reducible repeat (first | refine kn_ ?_ _ | refine kd_ ?_ | refine ka_ ?_ _)); exact bp_ (bp_ BK357.out 0 _) 1 _) hb); replace HB := ak_ (bt_ (bw2_ HB GE352 GE357) hb); (try clear hb); (try clear hk)) | ((with_reducible refine gate_dst (N := 6) rfl ?_); refine bx_ 6 #[.int .u64 0, .int .u64 0] 25 ?_; intro gb362 hg w15 hbox hb; have BK362 := ak_ hbox; have GW362 := ak_ (gw2_ HB GE352 GE357 hg); have GE362 := ak_ (gw2_ HB GE352 GE357 hg); replace HB := ak_ (bt_ (bw2_ HB GE352 GE357) hb); have NB352_362 := ak_ (nl_ hg BK352); have NB362_352 := ak_ (nr_ hg BK352); replace BK352 := ak_ (kb_ (kl_ BK352) hb); have NB357_362 := ak_ (nl_ hg BK357); have NB362_357 := ak_ (nr_ hg BK357); replace BK357 := ak_ (kb_ (kl_ BK357) hb); clear hb hbox hg; have hnb16 := NB362_352.out; have hnc16 := NB352_362.out; have hnb17 := NB362_357.out; have hnc17 := NB357_362.out; obtain ⟨hcz18_0, hcz18_1, hfz18_0, hfz18_1⟩ := kc2_ BK362.out; obtain ⟨hcz19_0, hcz19_1, hfz19_0, hfz19_1⟩ := kc2_ BK357.out; obtain ⟨hcz20_0, hcz20_1, hcz20_2, hcz20_3, hfz20_0, hfz20_1, hfz20_2, hfz20_3⟩ := kc4_ BK352.out))
    refine bodyPost_ret (results_ct rfl _ _ gb352 27 #[.int .u64 t354, .int .u64 t355, .int .u64 t359, .int .u64 t360] (0, 0) _ rfl (by (with_reducible repeat (first | refine kn_ ?_ _ | refine kd_ ?_ | refine ka_ ?_ _)); exact bp_ (bp_ (bp_ (bp_ (blk_far (blk_far BK352.out NB352_362.out _) NB352_362.out _) 0 _) 1 _) 2 _) 3 _) underlying27 rfl (by kernel_rfl)) rfl ?_
    exact ea_ (bw3_ HB GE352 GE357 GE362)
   ·rw [if_neg c3] at H
    exact absurd H (by simp)
  ·rw [if_neg c2] at H
   have c2b0 : ((l0.length : Int) == 32) = false := beq_eq_false_iff_ne.mpr c2
   have c2b1 : ((l0.length : Int) != 32) = true := bne_iff_ne.mpr c2
   simp only [some.injEq, Prod.mk.injEq] at H
   obtain ⟨rfl, rfl, rfl, rfl, rfl⟩ := H
   go_enter func102, ntmps102
   go_wp2_with (first | ((with_reducible refine gate_dst (N := 2) rfl ?_); refine bx_ 2 #[.int .u64 0, .int .u64 0, .int .u64 0, .int .u64 0] 27 ?_; intro gb352 hg w21 hbox hb; have BK352 := ak_ hbox; have GW352 := ak_ (gs_ hg HB); have GE352 := ak_ (gs_ hg HB); replace HB := ak_ (bt_ (bl_ HB) hb); clear hb hbox hg; obtain ⟨hcz22_0, hcz22_1, hcz22_2, hcz22_3, hfz22_0, hfz22_1, hfz22_2, hfz22_3⟩ := kc4_ BK352.out))
   refine bodyPost_ret (results_ct rfl _ _ gb352 27 #[.int .u64 0, .int .u64 0, .int .u64 0, .int .u64 0] (0, 0) _ rfl (by (with_reducible repeat (first | refine kn_ ?_ _ | refine kd_ ?_ | refine ka_ ?_ _)); exact bp_ (bp_ (bp_ (bp_ BK352.out 0 _) 1 _) 2 _) 3 _) underlying27 rfl (by kernel_rfl)) rfl ?_
   exact ea_ (bw1_ HB GE352)
def medlarref16_sealed.f (k : Nat) (l0 : List Int) : Option (Bool × Bool × Int × Int × Int × Int × Int × Int × Int) := (medlarref04_Of.f k l0).bind fun bt364 => (some (false, true, 0, 0, bt364.1, bt364.2.1, bt364.2.2.1, bt364.2.2.2.1, 0))
theorem medlarref16_sealed.mono : ∀ a0 k, LeO (medlarref16_sealed.f k a0) (medlarref16_sealed.f (k + 1) a0) := by
  intro a0 k
  unfold medlarref16_sealed.f
  repeat' first | (with_reducible first | exact medlarref04_Of.mono .. | exact LeO.refl _ | exact LeO.none _ | refine LeO.ite ?_ ?_ | refine LeO.bind ?_ (fun _ => ?_)) | exact medlarref04_Of.mono .. | refine LeO.ite ?_ ?_ | refine LeO.bind ?_ (fun _ => ?_)
set_option maxHeartbeats 8000000 in
set_option maxRecDepth 100000 in
theorem medlarref16_sealed.calls (k : Nat) (A0 : Option Addr) (c0 : Nat) (l0 : List Int) (r1 : Bool) (r2 : Bool) (r3 : Int) (r4 : Int) (r5 : Int) (r6 : Int) (r7 : Int) (r8 : Int) (r9 : Int) (w : World) (hr0 : Kd.C (Kd.int .u8) w A0 l0.length l0) (hc0 : l0.length ≤ c0) (h : medlarref16_sealed.f k l0 = some (r1, r2, r3, r4, r5, r6, r7, r8, r9)) :
   Calls Try.prog 59 #[.slice A0 l0.length c0] w fun e w' => e = .returned (.agg #[.bool r1, .bool r2, .int .u64 r3, .int .u64 r4, .int .u64 r5, .int .u64 r6, .int .u64 r7, .int .u64 r8, .int .i64 r9]) ∧ Below w.heap.size w w' := by
  have hu29 := underlying29
  have hu27 := underlying27
  have HR0 := ak_ hr0
  have HC0 := ak_ hc0
  clear hr0 hc0
  have HB := ak_ (Below.refl w.heap.size w)
  have H : ((medlarref04_Of.f k l0).bind fun bt364 => (some (false, true, 0, 0, bt364.1, bt364.2.1, bt364.2.2.1, bt364.2.2.2.1, 0))) = some (r1, r2, r3, r4, r5, r6, r7, r8, r9) := h
  clear h
  replace H := bind_eq_some_iff.mp H
  obtain ⟨⟨t364, t365, t366, t367, t368⟩, A20, H⟩ := H
  replace H : (some (false, true, 0, 0, t364, t365, t366, t367, 0)) = some (r1, r2, r3, r4, r5, r6, r7, r8, r9) := H
  have A2 := ak_ A20
  clear A20
  simp only [some.injEq, Prod.mk.injEq] at H
  obtain ⟨rfl, rfl, rfl, rfl, rfl, rfl, rfl, rfl, rfl⟩ := H
  go_enter func59, ntmps59
  go_wp2_with (first | ((with_reducible refine gate_dst (N := 2) rfl ?_); refine bx_ 2 #[.bool false, .bool false, .int .u64 0, .int .u64 0, .int .u64 0, .int .u64 0, .int .u64 0, .int .u64 0, .int .i64 0] 29 ?_; intro gb363 hg w3 hbox hb; have BK363 := ak_ hbox; have GW363 := ak_ (gs_ hg HB); have GE363 := ak_ (gs_ hg HB); replace HB := ak_ (bt_ (bl_ HB) hb); clear hb hbox hg) | ((with_reducible refine gate_callee (f := 102) rfl ?_); refine gl_ (some 7) func102 #[.slice A0 l0.length c0] ?_; (with_reducible refine (medlarref04_Of.calls k _ _ l0 t364 t365 t366 t367 t368 _ ?side1 ?side2 A2.out).mono ?_); (case side1 => repeat (first | exact (Kd.C_below HR0.out HB.out) | (with_reducible refine Kd.C_alloc ?_ _) | (with_reducible refine Kd.C_drewN ?_ _) | (with_reducible refine Kd.C_drew ?_))); (case side2 => exact HC0.out); rintro e w4 ⟨rfl, hb⟩; refine ⟨_, rfl, ?_⟩; replace BK363 := ak_ (kb_ (kl_ BK363) hb); replace HB := ak_ (bt_ (bw1_ HB GE363) hb); (try clear hb); (try clear hk)) | ((with_reducible refine gate_dst (N := 3) rfl ?_); refine bx_ 3 #[.int .u64 0, .int .u64 0, .int .u64 0, .int .u64 0] 27 ?_; intro gb369 hg w5 hbox hb; have BK369 := ak_ hbox; have GW369 := ak_ (gw1_ HB GE363 hg); have GE369 := ak_ (gw1_ HB GE363 hg); replace HB := ak_ (bt_ (bw1_ HB GE363) hb); have NB363_369 := ak_ (nl_ hg BK363); have NB369_363 := ak_ (nr_ hg BK363); replace BK363 := ak_ (kb_ (kl_ BK363) hb); clear hb hbox hg; have hnb6 := NB369_363.out; have hnc6 := NB363_369.out; obtain ⟨hcz7_0, hcz7_1, hcz7_2, hcz7_3, hfz7_0, hfz7_1, hfz7_2, hfz7_3⟩ := kc4_ BK369.out; obtain ⟨hcz8_0, hcz8_1, hcz8_2, hcz8_3, hcz8_4, hcz8_5, hcz8_6, hcz8_7, hcz8_8, hfz8_0, hfz8_1, hfz8_2, hfz8_3, hfz8_4, hfz8_5, hfz8_6, hfz8_7, hfz8_8⟩ := kc9_ BK363.out))
  refine bodyPost_ret (results_cell_row rfl _ _ gb363 29 #[.bool false, .bool true, .int .u64 0, .int .u64 0, .int .u64 t364, .int .u64 t365, .int .u64 t366, .int .u64 t367, .int .i64 0] (0, 0) _ rfl (by (with_reducible repeat (first | refine kn_ ?_ _ | refine kd_ ?_ | refine ka_ ?_ _)); exact bp_ (bp_ (bp_ (bp_ (bp_ (bp_ (bp_ (bp_ (bp_ (blk_far (blk_far (blk_far (blk_far BK363.out NB363_369.out _) NB363_369.out _) NB363_369.out _) NB363_369.out _) 0 _) 1 _) 2 _) 3 _) 4 _) 5 _) 6 _) 7 _) 8 _) underlying29 rfl (by kernel_rfl)) rfl ?_
  exact ea_ (bw2_ HB GE363 GE369)
end Go.Proofs.Ytoljdfgkkkpnbaa.MP
