-- written by a program of this session (wip/tools/mprint.sh) for this seat
import Derived.Test.YtccmoohcpaohmaaMPx0
import Derived.Test.YtccmoohcpaohmaaMPx3
namespace Go.Proofs.Ytccmoohcpaohmaa.MP
open Go.RowKit Go.Proofs.YtccmoohcpaohmaaW.PrintWords Go.Proofs.YtccmoohcpaohmaaW.PrintLast Go.Proofs.YtccmoohcpaohmaaW.PrintMore
attribute [local go_sem] max2_int min2_int max_two min_two max_three min_three max_four min_four   -- for this text's walks alone
set_option linter.unusedVariables false
set_option linter.unusedSimpArgs false

/-! ### medlarref14_Pairs: function 37 -/
mutual
def medlarref14_Pairs.j0 : Nat → Int → Int → Int → Bool → Option ((List (S24)) × Int)
  | 0, _, _, _, _ => none
  | k + 1, x0, x1, x8, x38 => if x38 = true then (some (([] : List (S24)), 1)) else ((medlarref01_Chain.f k x8).bind fun t206 => (if x1 = 1 then (medlarref14_Pairs.l0 k ([] : List (S24)) t206 (t206.length : Int) 0) else (if ([] : List (S24)).length < 8796093022208 then (medlarref14_Pairs.l1 k x0 x1 t206 (([] : List (S24)) ++ [(⟨1, 0⟩ : S24)]) t206 (t206.length : Int) 0) else (none))))
def medlarref14_Pairs.l0 : Nat → List (S24) → List Int → Int → Int → Option ((List (S24)) × Int)
  | 0, _, _, _, _ => none
  | k + 1, x11, x43, x44, x45 => if x45 < x44 then (if 0 ≤ x45 then (if x45 < (x43.length : Int) then (if x11.length < 8796093022208 then (medlarref14_Pairs.l0 k (x11 ++ [(⟨rd x43 x45, 0⟩ : S24)]) x43 x44 (wrap64 (x45 + 1))) else (none)) else (none)) else (none)) else (some (x11, 0))
def medlarref14_Pairs.l1 : Nat → Int → Int → List Int → List (S24) → List Int → Int → Int → Option ((List (S24)) × Int)
  | 0, _, _, _, _, _, _, _ => none
  | k + 1, x0, x1, x10, x11, x60, x61, x62 => if x62 < x61 then (if 0 ≤ x62 then (if x62 < (x60.length : Int) then (if 0 ≤ (wrap64 (x62 + 1)) then (if (wrap64 (x62 + 1)) ≤ (x10.length : Int) then ((some (x10.drop ((wrap64 (x62 + 1)) : Int).toNat : List Int)).bind fun y217 => (medlarref14_Pairs.l2 k x0 x1 x10 x11 (rd x60 x62) x60 x61 x62 y217 (y217.length : Int) 0)) else (none)) else (none)) else (none)) else (none)) else (some (x11, 0))
def medlarref14_Pairs.l2 : Nat → Int → Int → List Int → List (S24) → Int → List Int → Int → Int → List Int → Int → Int → Option ((List (S24)) × Int)
  | 0, _, _, _, _, _, _, _, _, _, _, _ => none
  | k + 1, x0, x1, x10, x11, x15, x60, x61, x62, x70, x71, x72 => if x72 < x71 then (if 0 ≤ x72 then (if x72 < (x70.length : Int) then ((medlarref01_Other.f k x0 (rd x70 x72)).bind fun bt222 => ((medlarref08_Useful.f k x0 x15 bt222.1).bind fun bt225 => (if x1 = 2 then (if x11.length < 8796093022208 then (medlarref14_Pairs.l2 k x0 x1 x10 (x11 ++ [(⟨x15, bt222.1⟩ : S24)]) x15 x60 x61 x62 x70 x71 (wrap64 (x72 + 1))) else (none)) else (if bt225.1 = true then (if x11.length < 8796093022208 then (medlarref14_Pairs.l2 k x0 x1 x10 (x11 ++ [(⟨x15, bt222.1⟩ : S24)]) x15 x60 x61 x62 x70 x71 (wrap64 (x72 + 1))) else (none)) else (medlarref14_Pairs.l2 k x0 x1 x10 x11 x15 x60 x61 x62 x70 x71 (wrap64 (x72 + 1))))))) else (none)) else (none)) else (medlarref14_Pairs.l1 k x0 x1 x10 x11 x60 x61 (wrap64 (x62 + 1)))
end
def medlarref14_Pairs.f (k : Nat) (a0 : Int) (a1 : Int) (a2 : Int) : Option ((List (S24)) × Int) := (medlarref01_Leaf.f k a0 a2).bind fun bt204 => (if bt204.2 = 0 then (if a1 < 1 then (medlarref14_Pairs.j0 k a0 a1 bt204.1 true) else (medlarref14_Pairs.j0 k a0 a1 bt204.1 (decide (a1 > 3)))) else (medlarref14_Pairs.j0 k a0 a1 bt204.1 true))
theorem medlarref14_Pairs.mono_l : ∀ k, (∀ y0 y1 y2 y3, LeO (medlarref14_Pairs.j0 k y0 y1 y2 y3) (medlarref14_Pairs.j0 (k + 1) y0 y1 y2 y3)) ∧ (∀ y0 y1 y2 y3, LeO (medlarref14_Pairs.l0 k y0 y1 y2 y3) (medlarref14_Pairs.l0 (k + 1) y0 y1 y2 y3)) ∧ (∀ y0 y1 y2 y3 y4 y5 y6, LeO (medlarref14_Pairs.l1 k y0 y1 y2 y3 y4 y5 y6) (medlarref14_Pairs.l1 (k + 1) y0 y1 y2 y3 y4 y5 y6)) ∧ (∀ y0 y1 y2 y3 y4 y5 y6 y7 y8 y9 y10, LeO (medlarref14_Pairs.l2 k y0 y1 y2 y3 y4 y5 y6 y7 y8 y9 y10) (medlarref14_Pairs.l2 (k + 1) y0 y1 y2 y3 y4 y5 y6 y7 y8 y9 y10))
  | 0 => ⟨fun _ _ _ _ r h => by simp [medlarref14_Pairs.j0] at h, fun _ _ _ _ r h => by simp [medlarref14_Pairs.l0] at h, fun _ _ _ _ _ _ _ r h => by simp [medlarref14_Pairs.l1] at h, fun _ _ _ _ _ _ _ _ _ _ _ r h => by simp [medlarref14_Pairs.l2] at h⟩
  | k + 1 => by
    obtain ⟨ih0, ih1, ih2, ih3⟩ := medlarref14_Pairs.mono_l k
    refine ⟨?_, ?_, ?_, ?_⟩
    · intro y0 y1 y2 y3
      unfold medlarref14_Pairs.j0
      repeat' first
      | (with_reducible exact ih0 _ _ _ _)
      | (with_reducible exact ih1 _ _ _ _)
      | (with_reducible exact ih2 _ _ _ _ _ _ _)
      | (with_reducible exact ih3 _ _ _ _ _ _ _ _ _ _ _)
      | (with_reducible exact medlarref01_Chain.mono _ _)
      | (with_reducible exact medlarref01_Leaf.mono _ _ _)
      | (with_reducible exact medlarref01_Other.mono _ _ _)
      | (with_reducible exact medlarref08_Useful.mono _ _ _ _)
      | (with_reducible exact LeO.refl _)
      | (with_reducible exact LeO.none _)
      | (with_reducible refine LeO.ite ?_ ?_)
      | (with_reducible refine LeO.bind ?_ (fun _ => ?_))
      | exact ih0 _ _ _ _
      | exact ih1 _ _ _ _
      | exact ih2 _ _ _ _ _ _ _
      | exact ih3 _ _ _ _ _ _ _ _ _ _ _
      | exact medlarref01_Chain.mono _ _
      | exact medlarref01_Leaf.mono _ _ _
      | exact medlarref01_Other.mono _ _ _
      | exact medlarref08_Useful.mono _ _ _ _
      | exact LeO.none _
      | refine LeO.ite ?_ ?_
      | refine LeO.bind ?_ (fun _ => ?_)
    · intro y0 y1 y2 y3
      unfold medlarref14_Pairs.l0
      repeat' first
      | (with_reducible exact ih0 _ _ _ _)
      | (with_reducible exact ih1 _ _ _ _)
      | (with_reducible exact ih2 _ _ _ _ _ _ _)
      | (with_reducible exact ih3 _ _ _ _ _ _ _ _ _ _ _)
      | (with_reducible exact medlarref01_Chain.mono _ _)
      | (with_reducible exact medlarref01_Leaf.mono _ _ _)
      | (with_reducible exact medlarref01_Other.mono _ _ _)
      | (with_reducible exact medlarref08_Useful.mono _ _ _ _)
      | (with_reducible exact LeO.refl _)
      | (with_reducible exact LeO.none _)
      | (with_reducible refine LeO.ite ?_ ?_)
      | (with_reducible refine LeO.bind ?_ (fun _ => ?_))
      | exact ih0 _ _ _ _
      | exact ih1 _ _ _ _
      | exact ih2 _ _ _ _ _ _ _
      | exact ih3 _ _ _ _ _ _ _ _ _ _ _
      | exact medlarref01_Chain.mono _ _
      | exact medlarref01_Leaf.mono _ _ _
      | exact medlarref01_Other.mono _ _ _
      | exact medlarref08_Useful.mono _ _ _ _
      | exact LeO.none _
      | refine LeO.ite ?_ ?_
      | refine LeO.bind ?_ (fun _ => ?_)
    · intro y0 y1 y2 y3 y4 y5 y6
      unfold medlarref14_Pairs.l1
      repeat' first
      | (with_reducible exact ih0 _ _ _ _)
      | (with_reducible exact ih1 _ _ _ _)
      | (with_reducible exact ih2 _ _ _ _ _ _ _)
      | (with_reducible exact ih3 _ _ _ _ _ _ _ _ _ _ _)
      | (with_reducible exact medlarref01_Chain.mono _ _)
      | (with_reducible exact medlarref01_Leaf.mono _ _ _)
      | (with_reducible exact medlarref01_Other.mono _ _ _)
      | (with_reducible exact medlarref08_Useful.mono _ _ _ _)
      | (with_reducible exact LeO.refl _)
      | (with_reducible exact LeO.none _)
      | (with_reducible refine LeO.ite ?_ ?_)
      | (with_reducible refine LeO.bind ?_ (fun _ => ?_))
      | exact ih0 _ _ _ _
      | exact ih1 _ _ _ _
      | exact ih2 _ _ _ _ _ _ _
      | exact ih3 _ _ _ _ _ _ _ _ _ _ _
      | exact medlarref01_Chain.mono _ _
      | exact medlarref01_Leaf.mono _ _ _
      | exact medlarref01_Other.mono _ _ _
      | exact medlarref08_Useful.mono _ _ _ _
      | exact LeO.none _
      | refine LeO.ite ?_ ?_
      | refine LeO.bind ?_ (fun _ => ?_)
    · intro y0 y1 y2 y3 y4 y5 y6 y7 y8 y9 y10
      unfold medlarref14_Pairs.l2
      repeat' first
      | (with_reducible exact ih0 _ _ _ _)
      | (with_reducible exact ih1 _ _ _ _)
      | (with_reducible exact ih2 _ _ _ _ _ _ _)
      | (with_reducible exact ih3 _ _ _ _ _ _ _ _ _ _ _)
      | (with_reducible exact medlarref01_Chain.mono _ _)
      | (with_reducible exact medlarref01_Leaf.mono _ _ _)
      | (with_reducible exact medlarref01_Other.mono _ _ _)
      | (with_reducible exact medlarref08_Useful.mono _ _ _ _)
      | (with_reducible exact LeO.refl _)
      | (with_reducible exact LeO.none _)
      | (with_reducible refine LeO.ite ?_ ?_)
      | (with_reducible refine LeO.bind ?_ (fun _ => ?_))
      | exact ih0 _ _ _ _
      | exact ih1 _ _ _ _
      | exact ih2 _ _ _ _ _ _ _
      | exact ih3 _ _ _ _ _ _ _ _ _ _ _
      | exact medlarref01_Chain.mono _ _
      | exact medlarref01_Leaf.mono _ _ _
      | exact medlarref01_Other.mono _ _ _
      | exact medlarref08_Useful.mono _ _ _ _
      | exact LeO.none _
      | refine LeO.ite ?_ ?_
      | refine LeO.bind ?_ (fun _ => ?_)
theorem medlarref14_Pairs.mono : ∀ a0 a1 a2 k, LeO (medlarref14_Pairs.f k a0 a1 a2) (medlarref14_Pairs.f (k + 1) a0 a1 a2) := by
  intro a0 a1 a2 k
  obtain ⟨ih0, ih1, ih2, ih3⟩ := medlarref14_Pairs.mono_l k
  unfold medlarref14_Pairs.f
  repeat' first
      | (with_reducible exact ih0 _ _ _ _)
      | (with_reducible exact ih1 _ _ _ _)
      | (with_reducible exact ih2 _ _ _ _ _ _ _)
      | (with_reducible exact ih3 _ _ _ _ _ _ _ _ _ _ _)
      | (with_reducible exact medlarref01_Chain.mono _ _)
      | (with_reducible exact medlarref01_Leaf.mono _ _ _)
      | (with_reducible exact medlarref01_Other.mono _ _ _)
      | (with_reducible exact medlarref08_Useful.mono _ _ _ _)
      | (with_reducible exact LeO.refl _)
      | (with_reducible exact LeO.none _)
      | (with_reducible refine LeO.ite ?_ ?_)
      | (with_reducible refine LeO.bind ?_ (fun _ => ?_))
      | exact ih0 _ _ _ _
      | exact ih1 _ _ _ _
      | exact ih2 _ _ _ _ _ _ _
      | exact ih3 _ _ _ _ _ _ _ _ _ _ _
      | exact medlarref01_Chain.mono _ _
      | exact medlarref01_Leaf.mono _ _ _
      | exact medlarref01_Other.mono _ _ _
      | exact medlarref08_Useful.mono _ _ _ _
      | exact LeO.none _
      | refine LeO.ite ?_ ?_
      | refine LeO.bind ?_ (fun _ => ?_)
set_option maxHeartbeats 8000000 in
set_option maxRecDepth 100000 in
theorem medlarref14_Pairs.calls (k : Nat) (a0 : Int) (a1 : Int) (a2 : Int) (r1 : List (S24)) (r2 : Int) (w : World) (h : medlarref14_Pairs.f k a0 a1 a2 = some (r1, r2)) :
    Calls Try.prog 37 #[.int .i64 a0, .int .i64 a1, .int .u64 a2] w fun e w' => ∃ v0_ : Value, e = .returned (.tuple #[v0_, .int .i64 r2]) ∧ Kd.R k24 24 w' w.heap.size (fun _ => True) v0_ r1 ∧ Below w.heap.size w w' := by
  have hu24 := Try.underlying24
  have HB := Aside0.mk (Below.refl w.heap.size w)
  have H : ((medlarref01_Leaf.f k a0 a2).bind fun bt204 => (if bt204.2 = 0 then (if a1 < 1 then (medlarref14_Pairs.j0 k a0 a1 bt204.1 true) else (medlarref14_Pairs.j0 k a0 a1 bt204.1 (decide (a1 > 3)))) else (medlarref14_Pairs.j0 k a0 a1 bt204.1 true))) = some (r1, r2) := h
  clear h
  replace H := Option.bind_eq_some_iff.mp H
  obtain ⟨⟨t204, t205⟩, A40, H⟩ := H
  replace H : (if t205 = 0 then (if a1 < 1 then (medlarref14_Pairs.j0 k a0 a1 t204 true) else (medlarref14_Pairs.j0 k a0 a1 t204 (decide (a1 > 3)))) else (medlarref14_Pairs.j0 k a0 a1 t204 true)) = some (r1, r2) := H
  have A4 := Aside0.mk A40
  clear A40
  have HC5 := Aside0.mk H
  clear H
  go_enter Try.func37, Try.ntmps37
  go_upto_region 2 with (first | ((with_reducible refine gate_callee (f := 57) rfl ?_); refine goesL_ (some 26) rfl rfl Try.func57 (by kernel_rfl) rfl #[.int .i64 a0, .int .u64 a2] rfl (by (try simp only [List.map_toArray, List.map_cons, List.map_nil]); first | done | rfl | (simp only [List.length_drop, List.length_take]; rfl)) ?_; (with_reducible refine (medlarref01_Leaf.calls k a0 a2 t204 t205 _ A4.out).mono ?_); rintro e w' ⟨rfl, ⟨nd, rfl⟩⟩; refine ⟨_, rfl, ?_⟩))
  (try simp only [Act.put, List.setIfInBounds_toArray, List.set_cons_zero, List.set_cons_succ])
  go_cut [38] (fun v38 wc => ∃ (kq : Nat) (x38_4 : Bool), v38 = .bool x38_4 ∧ Aside0 (medlarref14_Pairs.j0 kq a0 a1 t204 x38_4 = some (r1, r2)) ∧ Aside0 (kq ≤ k) ∧ Aside0 (Below w.heap.size w wc))
  case first =>
    have H := HC5.out
    clear HC5
    by_cases c6 : t205 = 0
    · rw [if_pos c6] at H
      have c6b0 : (t205 == 0) = true := beq_iff_eq.mpr c6
      have c6b1 : (t205 != 0) = false := bne_eq_false_iff_eq.mpr c6
      clear c6
      (first | rw [c6b0] | (simp only [i64_w, i32_w]; rw [c6b0]) | skip)
      by_cases c7 : a1 < 1
      · rw [if_pos c7] at H
        have c7b0 : decide (a1 < 1) = true := decide_eq_true c7
        clear c7
        have H' := Aside0.mk H
        clear H
        go_wp2
        go_meet
        case rel => exact ⟨_, (true), (by first | rfl | (simp; done) | (simp [*]; done)), H', ⟨by first | omega | exact Nat.le_refl _⟩, ⟨by repeat (first | (with_reducible first | exact HB.out | apply below_alloc | apply pw_below_drewN | apply below_drew1) | exact HB.out)⟩⟩
      · rw [if_neg c7] at H
        have c7b0 : decide (a1 < 1) = false := decide_eq_false c7
        clear c7
        have H' := Aside0.mk H
        clear H
        go_wp2
        go_meet
        case rel => exact ⟨_, (decide (a1 > 3)), (by first | rfl | (simp; done) | (simp [*]; done)), H', ⟨by first | omega | exact Nat.le_refl _⟩, ⟨by repeat (first | (with_reducible first | exact HB.out | apply below_alloc | apply pw_below_drewN | apply below_drew1) | exact HB.out)⟩⟩
    · rw [if_neg c6] at H
      have c6b0 : (t205 == 0) = false := beq_eq_false_iff_ne.mpr c6
      have c6b1 : (t205 != 0) = true := bne_iff_ne.mpr c6
      (first | rw [c6b0] | (simp only [i64_w, i32_w]; rw [c6b0]) | skip)
      have H' := Aside0.mk H
      clear H
      go_wp2
      go_meet
      case rel => exact ⟨_, (true), (by first | rfl | (simp; done) | (simp [*]; done)), H', ⟨by first | omega | exact Nat.le_refl _⟩, ⟨by repeat (first | (with_reducible first | exact HB.out | apply below_alloc | apply pw_below_drewN | apply below_drew1) | exact HB.out)⟩⟩
  case rest =>
    clear HC5
    try clear p2
    try clear c3
    try clear c5
    try clear c6
    try clear c6b0
    try clear c6b1
    try clear c7
    try clear c7b0
    obtain ⟨kq, x38_4, rfl, HA, HJ4, HB⟩ := hcut
    cases kq with
    | zero => exact absurd HA.out (by simp [medlarref14_Pairs.j0])
    | succ kj4 =>
      have H := HA.out
      clear HA
      simp only [medlarref14_Pairs.j0] at H
      by_cases c8 : x38_4 = true
      · subst c8
        have H1 : (some (([] : List (S24)), 1)) = some (r1, r2) := by rw [if_pos rfl] at H; exact H
        clear H
        have H := H1
        clear H1
        simp only [Option.some.injEq, Prod.mk.injEq] at H
        obtain ⟨rfl, rfl⟩ := H
        go_wp2
        go_ret2
        exact ⟨_, by first | rfl | (simp [errW_none, errW_some] <;> rfl) | (simp [*, errW_none, errW_some] <;> rfl), by first | exact Kd.R_nil _ _ _ _ _ | exact Kd.N_nil _ _ _ _ _ | exact Kd.V_nil _ _ _ _ _ | exact Kd.Q_nil _ _ _ _ _ | exact Kd.S_nil _ _ _ _ _, by repeat (first | (with_reducible first | exact HB.out | apply below_alloc | apply pw_below_drewN | apply below_drew1) | exact HB.out)⟩
      · replace c8 := Bool.eq_false_iff.mpr c8
        subst c8
        have H1 : ((medlarref01_Chain.f kj4 t204).bind fun t206 => (if a1 = 1 then (medlarref14_Pairs.l0 kj4 ([] : List (S24)) t206 (t206.length : Int) 0) else (if ([] : List (S24)).length < 8796093022208 then (medlarref14_Pairs.l1 kj4 a0 a1 t206 (([] : List (S24)) ++ [(⟨1, 0⟩ : S24)]) t206 (t206.length : Int) 0) else (none)))) = some (r1, r2) := by rw [if_neg (show ¬ (false = true) by decide)] at H; exact H
        clear H
        have H := H1
        clear H1
        replace H := Option.bind_eq_some_iff.mp H
        obtain ⟨t206, A90, H⟩ := H
        replace H : (if a1 = 1 then (medlarref14_Pairs.l0 kj4 ([] : List (S24)) t206 (t206.length : Int) 0) else (if ([] : List (S24)).length < 8796093022208 then (medlarref14_Pairs.l1 kj4 a0 a1 t206 (([] : List (S24)) ++ [(⟨1, 0⟩ : S24)]) t206 (t206.length : Int) 0) else (none))) = some (r1, r2) := H
        have A9 := Aside0.mk A90
        clear A90
        by_cases c10 : a1 = 1
        · rw [if_pos c10] at H
          have c10b0 : (a1 == 1) = true := beq_iff_eq.mpr c10
          have c10b1 : (a1 != 1) = false := bne_eq_false_iff_eq.mpr c10
          clear c10
          have H' := Aside0.mk H
          clear H
          go_wp2_with (first | ((with_reducible refine gate_callee (f := 62) rfl ?_); refine goesL_ (some 40) rfl rfl Try.func62 (by kernel_rfl) rfl #[.int .u64 t204] rfl (by (try simp only [List.map_toArray, List.map_cons, List.map_nil]); first | done | rfl | (simp only [List.length_drop, List.length_take]; rfl)) ?_; (with_reducible refine (medlarref01_Chain.calls kj4 t204 t206 _ A9.out).mono ?_); rintro e w11 ⟨v207, rfl, ho0, hb⟩; refine ⟨_, rfl, ?_⟩; have n0_ := Aside0.mk (Kd.R_lower ho0 (below_size (by repeat (first | (with_reducible first | exact HB.out | apply below_alloc | apply pw_below_drewN | apply below_drew1) | exact HB.out)))); have n1_ := Aside0.mk (below_step (by repeat (first | (with_reducible first | exact HB.out | apply below_alloc | apply pw_below_drewN | apply below_drew1) | exact HB.out)) hb); clear HB; have HO208 := n0_; have HB := n1_; clear n0_ n1_; (try clear hb); (try clear hb2); (try clear hk); (try clear hi); (try clear ho0); obtain ⟨Ao12, co12, eo12⟩ := Kd.R_slice HO208.out; subst eo12))
          go_loopg [11, 45] kj4 (fun kq v11 v45 w' => ∃ (x11_2 : List (S24)) (x45_2 : Int), v45 = .int .i64 x45_2 ∧ Aside0 (medlarref14_Pairs.l0 kq x11_2 t206 (t206.length : Int) x45_2 = some (r1, r2)) ∧ Aside0 (kq ≤ kj4) ∧ Aside0 (Kd.R k24 24 w' w.heap.size (fun _ => True) v11 x11_2) ∧ Aside0 (Kd.R (Kd.int .u64) 22 w' w.heap.size (fun _ => True) (.slice Ao12 t206.length co12) t206) ∧ Aside0 (Below w.heap.size w w'))
          case atStart => exact ⟨(([] : List (S24))), (0), (by first | rfl | (simp; done) | (simp [*]; done)), H', ⟨Nat.le_refl _⟩, ⟨by first | exact Kd.R_nil _ _ _ _ _ | exact Kd.N_nil _ _ _ _ _ | exact Kd.V_nil _ _ _ _ _ | exact Kd.Q_nil _ _ _ _ _ | exact Kd.S_nil _ _ _ _ _⟩, ⟨by (with_reducible repeat (first | apply Kd.R_alloc | apply Kd.R_drewN | apply Kd.R_drew)); exact HO208.out⟩, ⟨by repeat (first | (with_reducible first | exact HB.out | apply below_alloc | apply pw_below_drewN | apply below_drew1) | exact HB.out)⟩⟩
          case round =>
            clear H'
            try clear c1
            try clear p2
            try clear c3
            try clear c5
            try clear c6
            try clear c6b0
            try clear c6b1
            try clear c7
            try clear c7b0
            try clear c8
            try clear c10
            try clear c10b0
            try clear c10b1
            try clear p2
            obtain ⟨x11_2, x45_2, rfl, HA, HK2, HO_11, HO_43, HB⟩ := hrel
            cases gk with
            | zero => exact absurd HA.out (by simp [medlarref14_Pairs.l0])
            | succ k2 =>
              have H := HA.out
              clear HA
              simp only [medlarref14_Pairs.l0] at H
              by_cases c13 : x45_2 < (t206.length : Int)
              · rw [if_pos c13] at H
                have c13b0 : decide (x45_2 < (t206.length : Int)) = true := decide_eq_true c13
                clear c13
                by_cases c14 : 0 ≤ x45_2
                · rw [if_pos c14] at H
                  have c14b0 : decide (0 ≤ x45_2) = true := decide_eq_true c14
                  clear c14
                  by_cases c15 : x45_2 < (t206.length : Int)
                  · rw [if_pos c15] at H
                    have c15b0 : decide (x45_2 < (t206.length : Int)) = true := decide_eq_true c15
                    clear c15
                    by_cases c16 : x11_2.length < 8796093022208
                    · rw [if_pos c16] at H
                      have LMc16 := Aside0.mk c16
                      clear c16
                      obtain ⟨y210, hy210⟩ : ∃ y_ : List (S24), y_ = (x11_2 ++ [(⟨rd t206 x45_2, 0⟩ : S24)]) := ⟨_, rfl⟩
                      replace H : (medlarref14_Pairs.l0 k2 y210 t206 (t206.length : Int) (wrap64 (x45_2 + 1))) = some (r1, r2) := by first | (rw [hy210]; with_reducible exact H) | (have H2_ := (Option.bind_some _ _).symm.trans H; rw [hy210]; with_reducible exact H2_) | (have H2_ := (Option.bind_some _ _).symm.trans H; with_reducible exact H2_) | with_reducible exact H | (rw [hy210]; exact H) | exact H
                      have Ny210 := Aside0.mk hy210
                      clear hy210
                      have H' := Aside0.mk H
                      clear H
                      have p209 : 0 ≤ (x45_2 : Int) := of_decide_eq_true (by first | (with_reducible assumption) | assumption)
                      have q209 : x45_2 < (t206.length : Int) := of_decide_eq_true (by first | (with_reducible assumption) | assumption)
                      obtain ⟨ad209, e209, hx209_0⟩ := Kd.at_int (Kd.R_reads' HO_43.out).2.2 x45_2 p209 q209
                      cases e209
                      replace p209 := eq_true p209
                      replace q209 := eq_true q209
                      go_wp2_with (first | ((with_reducible refine gate_builtin (b := .append) (xs := #[.tmp 49, .tmp 52]) rfl ?_); at_builtin; refine Kd.R_append k24 (w0 := w) w.heap.size rfl (.tmp 49) (.tmp 52) 31 24 (.agg #[(.int .u64 0), (.int .u64 0)]) 16 rfl Try.underlying31 info24 rfl (by decide) (by omega) u11 x11_2 (⟨rd t206 x45_2, 0⟩ : S24) [.int .u64 (rd t206 x45_2), .int .u64 0] (fun _ => True) (fun _ => False) rfl rfl ?aP (fun _ hk => hk.elim) ?aF ?aO ?aB ?aS ?aL ?_; (case aP => exact k24_mkM _ _ _ (⟨rd t206 x45_2, 0⟩ : S24)); (case aB => exact (by repeat (first | (with_reducible first | exact HB.out | apply below_alloc | apply pw_below_drewN | apply below_drew1) | exact HB.out))); (case aF => exact (fun _ _ => trivial)); (case aO => exact (by (with_reducible repeat (first | apply Kd.R_alloc | apply Kd.R_drewN | apply Kd.R_drew)); exact HO_11.out)); (case aS => exact (below_size (by repeat (first | (with_reducible first | exact HB.out | apply below_alloc | apply pw_below_drewN | apply below_drew1) | exact HB.out)))); (case aL => have := LMc16.out; omega); intro v211 w17 ho hb hg hat; rw [← Ny210.out] at ho; have n0_ := Aside0.mk (Kd.R_over' (by (with_reducible repeat (first | apply Kd.R_alloc | apply Kd.R_drewN | apply Kd.R_drew)); exact HO_43.out) (Kd.R_typed (by (with_reducible repeat (first | apply Kd.R_alloc | apply Kd.R_drewN | apply Kd.R_drew)); exact HO_11.out)) (by decide) hg); have n1_ := Aside0.mk (hb); have n2_ := Aside0.mk (ho); clear HO_43; clear HB; clear HO_11; have HO_43 := n0_; have HB := n1_; have HO212 := n2_; clear n0_ n1_ n2_; clear ho hb hg hat))
                      go_roundg k2
                      case measure => have := HJ4.out; have := HK2.out; omega
                      case rel => exact ⟨(y210), (wrap64 (x45_2 + 1)), (by first | rfl | (simp; done) | (simp [*]; done)), H', ⟨by have := HJ4.out; have := HK2.out; omega⟩, ⟨by (with_reducible repeat (first | apply Kd.R_alloc | apply Kd.R_drewN | apply Kd.R_drew)); exact HO212.out⟩, ⟨by (with_reducible repeat (first | apply Kd.R_alloc | apply Kd.R_drewN | apply Kd.R_drew)); exact HO_43.out⟩, ⟨by repeat (first | (with_reducible first | exact HB.out | apply below_alloc | apply pw_below_drewN | apply below_drew1) | exact HB.out)⟩⟩
                    · rw [if_neg c16] at H
                      exact absurd H (by simp)
                  · rw [if_neg c15] at H
                    exact absurd H (by simp)
                · rw [if_neg c14] at H
                  exact absurd H (by simp)
              · rw [if_neg c13] at H
                have c13b0 : decide (x45_2 < (t206.length : Int)) = false := decide_eq_false c13
                clear c13
                simp only [Option.some.injEq, Prod.mk.injEq] at H
                obtain ⟨rfl, rfl⟩ := H
                go_wp2
                go_ret2
                exact ⟨_, by first | rfl | (simp [errW_none, errW_some] <;> rfl) | (simp [*, errW_none, errW_some] <;> rfl), by (with_reducible repeat (first | apply Kd.R_alloc | apply Kd.R_drewN | apply Kd.R_drew)); exact HO_11.out, by repeat (first | (with_reducible first | exact HB.out | apply below_alloc | apply pw_below_drewN | apply below_drew1) | exact HB.out)⟩
        · rw [if_neg c10] at H
          have c10b0 : (a1 == 1) = false := beq_eq_false_iff_ne.mpr c10
          have c10b1 : (a1 != 1) = true := bne_iff_ne.mpr c10
          by_cases c18 : ([] : List (S24)).length < 8796093022208
          · rw [if_pos c18] at H
            have LMc18 := Aside0.mk c18
            clear c18
            obtain ⟨y213, hy213⟩ : ∃ y_ : List (S24), y_ = (([] : List (S24)) ++ [(⟨1, 0⟩ : S24)]) := ⟨_, rfl⟩
            replace H : (medlarref14_Pairs.l1 kj4 a0 a1 t206 y213 t206 (t206.length : Int) 0) = some (r1, r2) := by first | (rw [hy213]; with_reducible exact H) | (have H2_ := (Option.bind_some _ _).symm.trans H; rw [hy213]; with_reducible exact H2_) | (have H2_ := (Option.bind_some _ _).symm.trans H; with_reducible exact H2_) | with_reducible exact H | (rw [hy213]; exact H) | exact H
            have Ny213 := Aside0.mk hy213
            clear hy213
            have H' := Aside0.mk H
            clear H
            go_wp2_with (first | ((with_reducible refine gate_callee (f := 62) rfl ?_); refine goesL_ (some 40) rfl rfl Try.func62 (by kernel_rfl) rfl #[.int .u64 t204] rfl (by (try simp only [List.map_toArray, List.map_cons, List.map_nil]); first | done | rfl | (simp only [List.length_drop, List.length_take]; rfl)) ?_; (with_reducible refine (medlarref01_Chain.calls kj4 t204 t206 _ A9.out).mono ?_); rintro e w19 ⟨v207, rfl, ho0, hb⟩; refine ⟨_, rfl, ?_⟩; have n0_ := Aside0.mk (Kd.R_lower ho0 (below_size (by repeat (first | (with_reducible first | exact HB.out | apply below_alloc | apply pw_below_drewN | apply below_drew1) | exact HB.out)))); have n1_ := Aside0.mk (below_step (by repeat (first | (with_reducible first | exact HB.out | apply below_alloc | apply pw_below_drewN | apply below_drew1) | exact HB.out)) hb); clear HB; have HO208 := n0_; have HB := n1_; clear n0_ n1_; (try clear hb); (try clear hb2); (try clear hk); (try clear hi); (try clear ho0)) | ((with_reducible refine gate_builtin (b := .append) (xs := #[.tmp 56, .tmp 58]) rfl ?_); at_builtin; refine Kd.R_append k24 (w0 := w) w.heap.size rfl (.tmp 56) (.tmp 58) 31 24 (.agg #[(.int .u64 0), (.int .u64 0)]) 16 rfl Try.underlying31 info24 rfl (by decide) (by omega) (.slice none 0 0) ([] : List (S24)) (⟨1, 0⟩ : S24) [.int .u64 1, .int .u64 0] (fun _ => True) (fun _ => False) rfl rfl ?aP (fun _ hk => hk.elim) ?aF ?aO ?aB ?aS ?aL ?_; (case aP => exact k24_mkM _ _ _ (⟨1, 0⟩ : S24)); (case aB => exact (by repeat (first | (with_reducible first | exact HB.out | apply below_alloc | apply pw_below_drewN | apply below_drew1) | exact HB.out))); (case aF => exact (fun _ _ => trivial)); (case aO => exact ((Kd.R_nil _ _ _ _ (fun _ => True)))); (case aS => exact (below_size (by repeat (first | (with_reducible first | exact HB.out | apply below_alloc | apply pw_below_drewN | apply below_drew1) | exact HB.out)))); (case aL => have := LMc18.out; omega); intro v214 w20 ho hb hg hat; rw [← Ny213.out] at ho; have n0_ := Aside0.mk (Kd.R_grown (by (with_reducible repeat (first | apply Kd.R_alloc | apply Kd.R_drewN | apply Kd.R_drew)); exact HO208.out) hg (fun _ _ => by simp [Value.ownBlock])); have n1_ := Aside0.mk (hb); have n2_ := Aside0.mk (ho); clear HO208; clear HB; have HO208 := n0_; have HB := n1_; have HO215 := n2_; clear n0_ n1_ n2_; clear ho hb hg hat; obtain ⟨Ao21, co21, eo21⟩ := Kd.R_slice HO208.out; subst eo21))
            go_loopg [11, 62] kj4 (fun kq v11 v62 w' => ∃ (x11_2 : List (S24)) (x62_2 : Int), v62 = .int .i64 x62_2 ∧ Aside0 (medlarref14_Pairs.l1 kq a0 a1 t206 x11_2 t206 (t206.length : Int) x62_2 = some (r1, r2)) ∧ Aside0 (kq ≤ kj4) ∧ Aside0 (Kd.R (Kd.int .u64) 22 w' w.heap.size (fun _ => True) (.slice Ao21 t206.length co21) t206) ∧ Aside0 (Kd.R k24 24 w' w.heap.size (fun _ => True) v11 x11_2) ∧ Aside0 (Kd.R (Kd.int .u64) 22 w' w.heap.size (fun _ => True) (.slice Ao21 t206.length co21) t206) ∧ Aside0 (Below w.heap.size w w'))
            case atStart => exact ⟨(y213), (0), (by first | rfl | (simp; done) | (simp [*]; done)), H', ⟨Nat.le_refl _⟩, ⟨by (with_reducible repeat (first | apply Kd.R_alloc | apply Kd.R_drewN | apply Kd.R_drew)); exact HO208.out⟩, ⟨by (with_reducible repeat (first | apply Kd.R_alloc | apply Kd.R_drewN | apply Kd.R_drew)); exact HO215.out⟩, ⟨by (with_reducible repeat (first | apply Kd.R_alloc | apply Kd.R_drewN | apply Kd.R_drew)); exact HO208.out⟩, ⟨by repeat (first | (with_reducible first | exact HB.out | apply below_alloc | apply pw_below_drewN | apply below_drew1) | exact HB.out)⟩⟩
            case round =>
              clear H'
              try clear c1
              try clear p2
              try clear q2
              try clear hx2
              try clear c3
              try clear c5
              try clear c6
              try clear c6b0
              try clear c6b1
              try clear p6
              try clear c7
              try clear c7b0
              try clear c8
              try clear c10
              try clear c10b0
              try clear c10b1
              try clear c13
              try clear c13b0
              try clear c14
              try clear c14b0
              try clear c15
              try clear c15b0
              try clear c16
              try clear c18
              try clear p20
              try clear q20
              try clear hx20
              try clear hx209_0
              try clear p2
              try clear p209
              try clear q209
              obtain ⟨x11_2, x62_2, rfl, HA, HK2, HO_10, HO_11, HO_60, HB⟩ := hrel
              cases gk with
              | zero => exact absurd HA.out (by simp [medlarref14_Pairs.l1])
              | succ k2 =>
                have H := HA.out
                clear HA
                simp only [medlarref14_Pairs.l1] at H
                by_cases c22 : x62_2 < (t206.length : Int)
                · rw [if_pos c22] at H
                  have c22b0 : decide (x62_2 < (t206.length : Int)) = true := decide_eq_true c22
                  clear c22
                  by_cases c23 : 0 ≤ x62_2
                  · rw [if_pos c23] at H
                    have c23b0 : decide (0 ≤ x62_2) = true := decide_eq_true c23
                    clear c23
                    by_cases c24 : x62_2 < (t206.length : Int)
                    · rw [if_pos c24] at H
                      have c24b0 : decide (x62_2 < (t206.length : Int)) = true := decide_eq_true c24
                      clear c24
                      obtain ⟨ji25, hji25⟩ : ∃ j_ : Int, (wrap64 (x62_2 + 1)) = j_ := ⟨_, rfl⟩
                      replace H : (if 0 ≤ (ji25) then (if (ji25) ≤ (t206.length : Int) then ((some (t206.drop ((ji25) : Int).toNat : List Int)).bind fun y217 => (medlarref14_Pairs.l2 k2 a0 a1 t206 x11_2 (rd t206 x62_2) t206 (t206.length : Int) x62_2 y217 (y217.length : Int) 0)) else (none)) else (none)) = some (r1, r2) := by first | (rw [hji25] at H; exact H) | (simp only [hji25] at H ⊢; exact H)
                      have hji25w : (IntKind.i64.wrap (x62_2 + 1)) = ji25 := (i64_w _).trans hji25
                      by_cases c26 : 0 ≤ (ji25)
                      · rw [if_pos c26] at H
                        have c26b0 := eq_true c26
                        have c26b1 : decide (0 ≤ (ji25)) = true := decide_eq_true c26
                        clear c26
                        by_cases c27 : (ji25) ≤ (t206.length : Int)
                        · rw [if_pos c27] at H
                          have c27b0 := eq_true c27
                          have c27b1 : decide ((ji25) ≤ (t206.length : Int)) = true := decide_eq_true c27
                          clear c27
                          obtain ⟨y217, hy217⟩ : ∃ y_ : List Int, y_ = (t206.drop ((ji25) : Int).toNat) := ⟨_, rfl⟩
                          replace H : (medlarref14_Pairs.l2 k2 a0 a1 t206 x11_2 (rd t206 x62_2) t206 (t206.length : Int) x62_2 y217 (y217.length : Int) 0) = some (r1, r2) := by first | (rw [hy217]; with_reducible exact H) | (have H2_ := (Option.bind_some _ _).symm.trans H; rw [hy217]; with_reducible exact H2_) | (have H2_ := (Option.bind_some _ _).symm.trans H; with_reducible exact H2_) | with_reducible exact H | (rw [hy217]; exact H) | exact H
                          have Ny217 := Aside0.mk hy217
                          clear hy217
                          have H' := Aside0.mk H
                          clear H
                          have p216 : 0 ≤ (x62_2 : Int) := of_decide_eq_true (by first | (with_reducible assumption) | assumption)
                          have q216 : x62_2 < (t206.length : Int) := of_decide_eq_true (by first | (with_reducible assumption) | assumption)
                          obtain ⟨ad216, e216, hx216_0⟩ := Kd.at_int (Kd.R_reads' HO_60.out).2.2 x62_2 p216 q216
                          cases e216
                          replace p216 := eq_true p216
                          replace q216 := eq_true q216
                          have q28 : ((ji25) : Int) ≤ ((t206.length : Int) : Int) := of_decide_eq_true (by first | (with_reducible assumption) | assumption)
                          obtain ⟨i028, hi028, _, hsz28, _⟩ := info_parts info22
                          have hroom28 : t206.length ≤ co21 := (Kd.R_reads' HO_10.out).2.1
                          have hC28 : Kd.C (Kd.int .u64) _ (some ad216) t206.length t206 := (Kd.R_reads' HO_10.out).2.2
                          have q028 : (0 : Int) ≤ ((ji25) : Int) := of_decide_eq_true (by first | (with_reducible assumption) | assumption)
                          have hcut28 := cut_from (P := Try.prog) 77 22 .i64 Try.underlying77 hi028 1 hsz28 (some ad216) t206.length co21 (ji25) q028 q28
                          have hr28 := Kd.C_drop (m := ((ji25) : Int).toNat) (c := co21) hC28 (by omega) hroom28
                          obtain ⟨A28, hA28⟩ : ∃ A1, A1 = (if co21 = ((ji25) : Int).toNat then (some ad216) else ((some ad216) : Option Addr).map (·.add (((ji25) : Int).toNat * 1))) := ⟨_, rfl⟩
                          obtain ⟨c28, hc28⟩ : ∃ c1, c1 = co21 - ((ji25) : Int).toNat := ⟨_, rfl⟩
                          have hy28 : y217.length = t206.length - ((ji25) : Int).toNat := (by rw [Ny217.out, List.length_drop] <;> omega)
                          rw [show (t206).drop ((ji25) : Int).toNat = y217 from Ny217.out.symm] at hr28
                          replace hr28 : Kd.C (Kd.int .u64) _ A28 y217.length y217 := (by rw [hA28]; exact hr28)
                          rw [← hy28, ← hA28, ← hc28] at hcut28
                          have HR220 := Aside0.mk hr28
                          have HC220 := Aside0.mk (show y217.length ≤ c28 from by rw [hy28, hc28]; exact Nat.sub_le_sub_right hroom28 _)
                          clear hr28 hC28 hroom28 hi028 hsz28 hc28
                          have KY28 := Aside0.mk hy28
                          have KA28 := Aside0.mk hA28
                          clear hy28 hA28
                          have KL28 := Aside0.mk (show ((ji25) : Int).toNat ≤ t206.length from by omega)
                          replace q28 := eq_true q28
                          go_wp2
                          go_loopg [11, 72] k2 (fun kq v11 v72 w' => ∃ (x11_3 : List (S24)) (x72_3 : Int), v72 = .int .i64 x72_3 ∧ Aside0 (medlarref14_Pairs.l2 kq a0 a1 t206 x11_3 (rd t206 x62_2) t206 (t206.length : Int) x62_2 y217 (y217.length : Int) x72_3 = some (r1, r2)) ∧ Aside0 (kq ≤ k2) ∧ Aside0 (Kd.R (Kd.int .u64) 22 w' w.heap.size (fun _ => True) (.slice (some ad216) t206.length co21) t206) ∧ Aside0 (Kd.R k24 24 w' w.heap.size (fun _ => True) v11 x11_3) ∧ Aside0 (Kd.R (Kd.int .u64) 22 w' w.heap.size (fun _ => True) (.slice (some ad216) t206.length co21) t206) ∧ Aside0 (Kd.C (Kd.int .u64) w' A28 y217.length y217) ∧ Aside0 (Below w.heap.size w w'))
                          case atStart => exact ⟨(x11_2), (0), (by first | rfl | (simp; done) | (simp [*]; done)), H', ⟨Nat.le_refl _⟩, ⟨by (with_reducible repeat (first | apply Kd.R_alloc | apply Kd.R_drewN | apply Kd.R_drew)); exact HO_10.out⟩, ⟨by (with_reducible repeat (first | apply Kd.R_alloc | apply Kd.R_drewN | apply Kd.R_drew)); exact HO_11.out⟩, ⟨by (with_reducible repeat (first | apply Kd.R_alloc | apply Kd.R_drewN | apply Kd.R_drew)); exact HO_60.out⟩, ⟨by repeat (first | (with_reducible exact HR220.out) | (with_reducible refine Kd.C_alloc ?_ _) | (with_reducible refine Kd.C_drewN ?_ _) | (with_reducible refine Kd.C_drew ?_) | exact HR220.out)⟩, ⟨by repeat (first | (with_reducible first | exact HB.out | apply below_alloc | apply pw_below_drewN | apply below_drew1) | exact HB.out)⟩⟩
                          case round =>
                            clear H'
                            try clear c1
                            try clear c2
                            try clear p2
                            try clear q2
                            try clear hx2
                            try clear c3
                            try clear c5
                            try clear c6
                            try clear c6b0
                            try clear c6b1
                            try clear p6
                            try clear c7
                            try clear c7b0
                            try clear c8
                            try clear c10
                            try clear c10b0
                            try clear c10b1
                            try clear c13
                            try clear c13b0
                            try clear c14
                            try clear c14b0
                            try clear c15
                            try clear c15b0
                            try clear c16
                            try clear c18
                            try clear p20
                            try clear q20
                            try clear hx20
                            try clear p21
                            try clear q21
                            try clear hx21
                            try clear c22
                            try clear c22b0
                            try clear c23
                            try clear c23b0
                            try clear c24
                            try clear c24b0
                            try clear c26
                            try clear c26b0
                            try clear c26b1
                            try clear c27
                            try clear c27b0
                            try clear c27b1
                            try clear c28
                            try clear q28
                            try clear hx209_0
                            try clear hx216_0
                            try clear p2
                            try clear p20
                            try clear p209
                            try clear p216
                            try clear p6
                            try clear q028
                            try clear q2
                            try clear q20
                            try clear q209
                            try clear q216
                            try clear q28
                            obtain ⟨x11_3, x72_3, rfl, HA, HK3, HO_10, HO_11, HO_60, HR220, HB⟩ := hrel
                            cases gk with
                            | zero => exact absurd HA.out (by simp [medlarref14_Pairs.l2])
                            | succ k3 =>
                              have H := HA.out
                              clear HA
                              simp only [medlarref14_Pairs.l2] at H
                              by_cases c29 : x72_3 < (y217.length : Int)
                              · rw [if_pos c29] at H
                                have c29b0 : decide (x72_3 < (y217.length : Int)) = true := decide_eq_true c29
                                clear c29
                                by_cases c30 : 0 ≤ x72_3
                                · rw [if_pos c30] at H
                                  have c30b0 : decide (0 ≤ x72_3) = true := decide_eq_true c30
                                  clear c30
                                  by_cases c31 : x72_3 < (y217.length : Int)
                                  · rw [if_pos c31] at H
                                    have c31b0 : decide (x72_3 < (y217.length : Int)) = true := decide_eq_true c31
                                    clear c31
                                    replace H := Option.bind_eq_some_iff.mp H
                                    obtain ⟨⟨t222, t223⟩, A320, H⟩ := H
                                    replace H : ((medlarref08_Useful.f k3 a0 (rd t206 x62_2) t222).bind fun bt225 => (if a1 = 2 then (if x11_3.length < 8796093022208 then (medlarref14_Pairs.l2 k3 a0 a1 t206 (x11_3 ++ [(⟨(rd t206 x62_2), t222⟩ : S24)]) (rd t206 x62_2) t206 (t206.length : Int) x62_2 y217 (y217.length : Int) (wrap64 (x72_3 + 1))) else (none)) else (if bt225.1 = true then (if x11_3.length < 8796093022208 then (medlarref14_Pairs.l2 k3 a0 a1 t206 (x11_3 ++ [(⟨(rd t206 x62_2), t222⟩ : S24)]) (rd t206 x62_2) t206 (t206.length : Int) x62_2 y217 (y217.length : Int) (wrap64 (x72_3 + 1))) else (none)) else (medlarref14_Pairs.l2 k3 a0 a1 t206 x11_3 (rd t206 x62_2) t206 (t206.length : Int) x62_2 y217 (y217.length : Int) (wrap64 (x72_3 + 1)))))) = some (r1, r2) := H
                                    have A32 := Aside0.mk A320
                                    clear A320
                                    replace H := Option.bind_eq_some_iff.mp H
                                    obtain ⟨⟨t225, t226⟩, A330, H⟩ := H
                                    replace H : (if a1 = 2 then (if x11_3.length < 8796093022208 then (medlarref14_Pairs.l2 k3 a0 a1 t206 (x11_3 ++ [(⟨(rd t206 x62_2), t222⟩ : S24)]) (rd t206 x62_2) t206 (t206.length : Int) x62_2 y217 (y217.length : Int) (wrap64 (x72_3 + 1))) else (none)) else (if t225 = true then (if x11_3.length < 8796093022208 then (medlarref14_Pairs.l2 k3 a0 a1 t206 (x11_3 ++ [(⟨(rd t206 x62_2), t222⟩ : S24)]) (rd t206 x62_2) t206 (t206.length : Int) x62_2 y217 (y217.length : Int) (wrap64 (x72_3 + 1))) else (none)) else (medlarref14_Pairs.l2 k3 a0 a1 t206 x11_3 (rd t206 x62_2) t206 (t206.length : Int) x62_2 y217 (y217.length : Int) (wrap64 (x72_3 + 1))))) = some (r1, r2) := H
                                    have A33 := Aside0.mk A330
                                    clear A330
                                    by_cases c34 : a1 = 2
                                    · rw [if_pos c34] at H
                                      have c34b0 : (a1 == 2) = true := beq_iff_eq.mpr c34
                                      have c34b1 : (a1 != 2) = false := bne_eq_false_iff_eq.mpr c34
                                      clear c34
                                      by_cases c35 : x11_3.length < 8796093022208
                                      · rw [if_pos c35] at H
                                        have LMc35 := Aside0.mk c35
                                        clear c35
                                        obtain ⟨y227, hy227⟩ : ∃ y_ : List (S24), y_ = (x11_3 ++ [(⟨(rd t206 x62_2), t222⟩ : S24)]) := ⟨_, rfl⟩
                                        replace H : (medlarref14_Pairs.l2 k3 a0 a1 t206 y227 (rd t206 x62_2) t206 (t206.length : Int) x62_2 y217 (y217.length : Int) (wrap64 (x72_3 + 1))) = some (r1, r2) := by first | (rw [hy227]; with_reducible exact H) | (have H2_ := (Option.bind_some _ _).symm.trans H; rw [hy227]; with_reducible exact H2_) | (have H2_ := (Option.bind_some _ _).symm.trans H; with_reducible exact H2_) | with_reducible exact H | (rw [hy227]; exact H) | exact H
                                        have Ny227 := Aside0.mk hy227
                                        clear hy227
                                        have H' := Aside0.mk H
                                        clear H
                                        have p221 : 0 ≤ (x72_3 : Int) := of_decide_eq_true (by first | (with_reducible assumption) | assumption)
                                        have q221 : x72_3 < (y217.length : Int) := of_decide_eq_true (by first | (with_reducible assumption) | assumption)
                                        obtain ⟨ad221, e221, hx221_0⟩ := Kd.at_int HR220.out x72_3 p221 q221
                                        cases e221
                                        replace p221 := eq_true p221
                                        replace q221 := eq_true q221
                                        go_wp2_with (first | ((with_reducible refine gate_callee (f := 63) rfl ?_); refine goesL_ (some 79) rfl rfl Try.func63 (by kernel_rfl) rfl #[.int .i64 a0, .int .u64 (rd y217 x72_3)] rfl (by (try simp only [List.map_toArray, List.map_cons, List.map_nil]); first | done | rfl | (simp only [List.length_drop, List.length_take]; rfl)) ?_; (with_reducible refine (medlarref01_Other.calls k3 a0 (rd y217 x72_3) t222 t223 _ A32.out).mono ?_); rintro e w' ⟨rfl, ⟨nd, rfl⟩⟩; refine ⟨_, rfl, ?_⟩; (try (rw [drewN_self wr]; generalize hq_ : World.drewN wr _ = wr; (try (have nz_ := Aside0.mk (Kd.C_eqN hq_ HR220.out); clear HR220; have HR220 := nz_; clear nz_)); have n0_ : Aside0 (Kd.R (Kd.int .u64) 22 wr w.heap.size (fun _ => True) (.slice (some ad216) t206.length co21) t206) := ⟨by rw [← hq_]; exact (by (with_reducible repeat (first | apply Kd.R_alloc | apply Kd.R_drewN | apply Kd.R_drew)); exact HO_10.out)⟩; have n1_ : Aside0 (Kd.R k24 24 wr w.heap.size (fun _ => True) u11 x11_3) := ⟨by rw [← hq_]; exact (by (with_reducible repeat (first | apply Kd.R_alloc | apply Kd.R_drewN | apply Kd.R_drew)); exact HO_11.out)⟩; have n2_ : Aside0 (Kd.R (Kd.int .u64) 22 wr w.heap.size (fun _ => True) (.slice (some ad216) t206.length co21) t206) := ⟨by rw [← hq_]; exact (by (with_reducible repeat (first | apply Kd.R_alloc | apply Kd.R_drewN | apply Kd.R_drew)); exact HO_60.out)⟩; have n3_ : Aside0 (Below w.heap.size w wr) := ⟨by rw [← hq_]; exact (by repeat (first | (with_reducible first | exact HB.out | apply below_alloc | apply pw_below_drewN | apply below_drew1) | exact HB.out))⟩; clear HO_10 HO_11 HO_60 HB hq_; have HO_10 := n0_; have HO_11 := n1_; have HO_60 := n2_; have HB := n3_; clear n0_ n1_ n2_ n3_))) | ((with_reducible refine gate_dst (N := 20) rfl ?_); refine box_event ?hg (N := 20) ?hd (cs := #[.int .u64 0, .int .u64 0]) (t := 24) ?hr ?_; (case hd => rfl); (case hg => rfl); (case hr => first | (go_simp; done) | (go_simp; rfl)); intro gb224 hg w36 hbox hb; have n0_ := Aside0.mk (Kd.R_below (by (with_reducible repeat (first | apply Kd.R_alloc | apply Kd.R_drewN | apply Kd.R_drew)); exact HO_10.out) hb); have n1_ := Aside0.mk (Kd.R_below (Kd.R_elderB (by (with_reducible repeat (first | apply Kd.R_alloc | apply Kd.R_drewN | apply Kd.R_drew)); exact HO_11.out) gb224 (Nat.le_of_eq hg.symm)) hb); have n2_ := Aside0.mk (Kd.R_below (by (with_reducible repeat (first | apply Kd.R_alloc | apply Kd.R_drewN | apply Kd.R_drew)); exact HO_60.out) hb); have n3_ := Aside0.mk (Kd.C_below (by repeat (first | (with_reducible exact HR220.out) | (with_reducible refine Kd.C_alloc ?_ _) | (with_reducible refine Kd.C_drewN ?_ _) | (with_reducible refine Kd.C_drew ?_) | exact HR220.out)) hb); have n4_ := Aside0.mk (below_step (by repeat (first | (with_reducible first | exact HB.out | apply below_alloc | apply pw_below_drewN | apply below_drew1) | exact HB.out)) hb); have n5_ := Aside0.mk (hbox); have n6_ := Aside0.mk ((by rw [hg]; exact (below_size (by repeat (first | (with_reducible first | exact HB.out | apply below_alloc | apply pw_below_drewN | apply below_drew1) | exact HB.out))) : w.heap.size ≤ gb224)); have n7_ := Aside0.mk ((by rw [hg]; exact (below_size (by repeat (first | (with_reducible first | exact HB.out | apply below_alloc | apply pw_below_drewN | apply below_drew1) | exact HB.out))) : w.heap.size ≤ gb224)); clear HO_10; clear HO_11; clear HO_60; clear HR220; clear HB; have HO_10 := n0_; have HO_11 := n1_; have HO_60 := n2_; have HR220 := n3_; have HB := n4_; have BK224 := n5_; have GW224 := n6_; have GE224 := n7_; clear n0_ n1_ n2_ n3_ n4_ n5_ n6_ n7_; clear hb hbox hg; have hcz37_0 : w36.cell? ⟨gb224, 0, none⟩ = some (.int .u64 0) := (blk_cell BK224.out 0).trans rfl; have hcz37_1 : w36.cell? ⟨gb224, 1, none⟩ = some (.int .u64 0) := (blk_cell BK224.out 1).trans rfl; have hfz37_0 := blk_frozen BK224.out 0; have hfz37_1 := blk_frozen BK224.out 1) | ((with_reducible refine gate_callee (f := 18) rfl ?_); refine goesL_ (some 88) rfl rfl Try.func18 (by kernel_rfl) rfl #[.int .i64 a0, .agg #[.int .u64 (rd t206 x62_2), .int .u64 t222]] rfl (by (try simp only [List.map_toArray, List.map_cons, List.map_nil]); first | done | rfl | (simp only [List.length_drop, List.length_take]; rfl)) ?_; (with_reducible refine (medlarref08_Useful.calls k3 a0 (rd t206 x62_2) t222 t225 t226 _ A33.out).mono ?_); rintro e w38 ⟨rfl, hb⟩; refine ⟨_, rfl, ?_⟩; have n0_ := Aside0.mk (Kd.R_below (by (with_reducible repeat (first | apply Kd.R_alloc | apply Kd.R_drewN | apply Kd.R_drew)); exact (Kd.R_mono (Kd.R_far (p := ⟨gb224, 1, none⟩) (Kd.R_far (p := ⟨gb224, 0, none⟩) (Kd.R_types HO_10.out BK224.out (by decide)) (fun _ hk => hk.2) (.int .u64 (rd t206 x62_2))) (fun _ hk => hk.2) (.int .u64 t222)) (fun _ h_ => h_.1))) hb); have n1_ := Aside0.mk (Kd.R_below (by (with_reducible repeat (first | apply Kd.R_alloc | apply Kd.R_drewN | apply Kd.R_drew)); exact (Kd.R_mono (Kd.R_far (p := ⟨gb224, 1, none⟩) (Kd.R_far (p := ⟨gb224, 0, none⟩) (Kd.R_mono HO_11.out (fun k_ hk => (⟨hk, hk.2⟩ : _ ∧ k_ ≠ gb224))) (fun _ hk => hk.2) (.int .u64 (rd t206 x62_2))) (fun _ hk => hk.2) (.int .u64 t222)) (fun _ h_ => h_.1))) hb); have n2_ := Aside0.mk (Kd.R_below (by (with_reducible repeat (first | apply Kd.R_alloc | apply Kd.R_drewN | apply Kd.R_drew)); exact (Kd.R_mono (Kd.R_far (p := ⟨gb224, 1, none⟩) (Kd.R_far (p := ⟨gb224, 0, none⟩) (Kd.R_types HO_60.out BK224.out (by decide)) (fun _ hk => hk.2) (.int .u64 (rd t206 x62_2))) (fun _ hk => hk.2) (.int .u64 t222)) (fun _ h_ => h_.1))) hb); have n3_ := Aside0.mk (Kd.C_below ((Kd.C_cutR (d := (Kd.int .u64)) (m := ((ji25) : Int).toNat) (c := co21) KA28.out Ny217.out (by (with_reducible repeat (first | apply Kd.R_alloc | apply Kd.R_drewN | apply Kd.R_drew)); exact (Kd.R_mono (Kd.R_far (p := ⟨gb224, 1, none⟩) (Kd.R_far (p := ⟨gb224, 0, none⟩) (Kd.R_types HO_10.out BK224.out (by decide)) (fun _ hk => hk.2) (.int .u64 (rd t206 x62_2))) (fun _ hk => hk.2) (.int .u64 t222)) (fun _ h_ => h_.1))) KL28.out)) hb); have n4_ := Aside0.mk (blk_below (g := gb224) (o := .cells #[.int .u64 (rd t206 x62_2), .int .u64 t222] 24 (0, 0)) (by (with_reducible repeat (first | refine blk_drewN ?_ _ | refine blk_drew ?_ | refine blk_alloc ?_ _)); refine blk_put (cs := #[.int .u64 (rd t206 x62_2), .int .u64 0]) ?_ 1 _ rfl; (with_reducible repeat (first | refine blk_drewN ?_ _ | refine blk_drew ?_ | refine blk_alloc ?_ _)); refine blk_put (cs := #[.int .u64 0, .int .u64 0]) ?_ 0 _ rfl; (with_reducible repeat (first | refine blk_drewN ?_ _ | refine blk_drew ?_ | refine blk_alloc ?_ _)); exact BK224.out) hb); have n5_ := Aside0.mk (below_step (by repeat (first | (with_reducible first | exact HB.out | apply below_alloc | apply pw_below_drewN | apply below_drew1 | refine below_set ?_ GE224.out) | exact HB.out)) hb); clear HO_10; clear HO_11; clear HO_60; clear HR220; clear BK224; clear HB; have HO_10 := n0_; have HO_11 := n1_; have HO_60 := n2_; have HR220 := n3_; have BK224 := n4_; have HB := n5_; clear n0_ n1_ n2_ n3_ n4_ n5_; (try clear hb); (try clear hb2); (try clear hk); (try clear hi); have hcz39_0 : w38.cell? ⟨gb224, 0, none⟩ = some (.int .u64 (rd t206 x62_2)) := (blk_cell BK224.out 0).trans rfl; have hcz39_1 : w38.cell? ⟨gb224, 1, none⟩ = some (.int .u64 t222) := (blk_cell BK224.out 1).trans rfl; have hfz39_0 := blk_frozen BK224.out 0; have hfz39_1 := blk_frozen BK224.out 1) | ((with_reducible refine gate_builtin (b := .append) (xs := #[.tmp 96, .tmp 98]) rfl ?_); at_builtin; refine Kd.R_append k24 (w0 := w) w.heap.size rfl (.tmp 96) (.tmp 98) 31 24 (.agg #[(.int .u64 0), (.int .u64 0)]) 16 rfl Try.underlying31 info24 rfl (by decide) (by omega) u11 x11_3 (⟨(rd t206 x62_2), t222⟩ : S24) [.int .u64 (rd t206 x62_2), .int .u64 t222] (fun k_ => k_ ≠ gb224) (fun _ => False) rfl rfl ?aP (fun _ hk => hk.elim) ?aF ?aO ?aB ?aS ?aL ?_; (case aP => exact k24_mkM _ _ _ (⟨(rd t206 x62_2), t222⟩ : S24)); (case aB => exact (by repeat (first | (with_reducible first | exact HB.out | apply below_alloc | apply pw_below_drewN | apply below_drew1 | refine below_set ?_ GE224.out) | exact HB.out))); (case aF => exact (fun k_ hk => Kd.freshB (g := gb224) (o := .cells #[.int .u64 (rd t206 x62_2), .int .u64 t222] 24 (0, 0)) (by (with_reducible repeat (first | refine blk_drewN ?_ _ | refine blk_drew ?_ | refine blk_alloc ?_ _)); exact BK224.out) k_ hk)); (case aO => exact (by (with_reducible repeat (first | apply Kd.R_alloc | apply Kd.R_drewN | apply Kd.R_drew)); exact Kd.R_mono HO_11.out (fun _ hk => hk.2))); (case aS => exact (below_size (by repeat (first | (with_reducible first | exact HB.out | apply below_alloc | apply pw_below_drewN | apply below_drew1 | refine below_set ?_ GE224.out) | exact HB.out)))); (case aL => have := LMc35.out; omega); intro v228 w40 ho hb hg hat; rw [← Ny227.out] at ho; have n0_ := Aside0.mk (Kd.R_over' (by (with_reducible repeat (first | apply Kd.R_alloc | apply Kd.R_drewN | apply Kd.R_drew)); exact HO_10.out) (Kd.R_typed (by (with_reducible repeat (first | apply Kd.R_alloc | apply Kd.R_drewN | apply Kd.R_drew)); exact HO_11.out)) (by decide) hg); have n1_ := Aside0.mk (Kd.R_over' (by (with_reducible repeat (first | apply Kd.R_alloc | apply Kd.R_drewN | apply Kd.R_drew)); exact HO_60.out) (Kd.R_typed (by (with_reducible repeat (first | apply Kd.R_alloc | apply Kd.R_drewN | apply Kd.R_drew)); exact HO_11.out)) (by decide) hg); have n2_ := Aside0.mk (blk_grown (g := gb224) (o := .cells #[.int .u64 (rd t206 x62_2), .int .u64 t222] 24 (0, 0)) (by (with_reducible repeat (first | refine blk_drewN ?_ _ | refine blk_drew ?_ | refine blk_alloc ?_ _)); exact BK224.out) hg (Kd.R_away HO_11.out (fun _ hk => hk.2))); have n3_ := Aside0.mk (hb); have n4_ := Aside0.mk ((Kd.C_cutR (d := (Kd.int .u64)) (W := w40) (m := ((ji25) : Int).toNat) (c := co21) KA28.out Ny217.out (Kd.R_over' (by (with_reducible repeat (first | apply Kd.R_alloc | apply Kd.R_drewN | apply Kd.R_drew)); exact HO_10.out) (Kd.R_typed (by (with_reducible repeat (first | apply Kd.R_alloc | apply Kd.R_drewN | apply Kd.R_drew)); exact HO_11.out)) (by decide) hg) KL28.out)); have n5_ := Aside0.mk (ho); clear HO_10; clear HO_60; clear BK224; clear HB; clear HR220; clear HO_11; have HO_10 := n0_; have HO_60 := n1_; have BK224 := n2_; have HB := n3_; have HR220 := n4_; have HO229 := n5_; clear n0_ n1_ n2_ n3_ n4_ n5_; clear ho hb hg hat))
                                        go_roundg k3
                                        case measure => have := HJ4.out; have := HK2.out; have := HK3.out; omega
                                        case rel => exact ⟨(y227), (wrap64 (x72_3 + 1)), (by first | rfl | (simp; done) | (simp [*]; done)), H', ⟨by have := HJ4.out; have := HK2.out; have := HK3.out; omega⟩, ⟨by (with_reducible repeat (first | apply Kd.R_alloc | apply Kd.R_drewN | apply Kd.R_drew)); exact HO_10.out⟩, ⟨by (with_reducible repeat (first | apply Kd.R_alloc | apply Kd.R_drewN | apply Kd.R_drew)); exact Kd.R_mono HO229.out (fun _ hk => trivial)⟩, ⟨by (with_reducible repeat (first | apply Kd.R_alloc | apply Kd.R_drewN | apply Kd.R_drew)); exact HO_60.out⟩, ⟨by repeat (first | (with_reducible exact HR220.out) | (with_reducible refine Kd.C_alloc ?_ _) | (with_reducible refine Kd.C_drewN ?_ _) | (with_reducible refine Kd.C_drew ?_) | exact HR220.out)⟩, ⟨by repeat (first | (with_reducible first | exact HB.out | apply below_alloc | apply pw_below_drewN | apply below_drew1 | refine below_set ?_ GE224.out) | exact HB.out)⟩⟩
                                      · rw [if_neg c35] at H
                                        exact absurd H (by simp)
                                    · rw [if_neg c34] at H
                                      have c34b0 : (a1 == 2) = false := beq_eq_false_iff_ne.mpr c34
                                      have c34b1 : (a1 != 2) = true := bne_iff_ne.mpr c34
                                      by_cases c41 : t225 = true
                                      · subst c41
                                        have H1 : (if x11_3.length < 8796093022208 then (medlarref14_Pairs.l2 k3 a0 a1 t206 (x11_3 ++ [(⟨(rd t206 x62_2), t222⟩ : S24)]) (rd t206 x62_2) t206 (t206.length : Int) x62_2 y217 (y217.length : Int) (wrap64 (x72_3 + 1))) else (none)) = some (r1, r2) := by rw [if_pos rfl] at H; exact H
                                        clear H
                                        have H := H1
                                        clear H1
                                        by_cases c42 : x11_3.length < 8796093022208
                                        · rw [if_pos c42] at H
                                          have LMc42 := Aside0.mk c42
                                          clear c42
                                          obtain ⟨y230, hy230⟩ : ∃ y_ : List (S24), y_ = (x11_3 ++ [(⟨(rd t206 x62_2), t222⟩ : S24)]) := ⟨_, rfl⟩
                                          replace H : (medlarref14_Pairs.l2 k3 a0 a1 t206 y230 (rd t206 x62_2) t206 (t206.length : Int) x62_2 y217 (y217.length : Int) (wrap64 (x72_3 + 1))) = some (r1, r2) := by first | (rw [hy230]; with_reducible exact H) | (have H2_ := (Option.bind_some _ _).symm.trans H; rw [hy230]; with_reducible exact H2_) | (have H2_ := (Option.bind_some _ _).symm.trans H; with_reducible exact H2_) | with_reducible exact H | (rw [hy230]; exact H) | exact H
                                          have Ny230 := Aside0.mk hy230
                                          clear hy230
                                          have H' := Aside0.mk H
                                          clear H
                                          have p221 : 0 ≤ (x72_3 : Int) := of_decide_eq_true (by first | (with_reducible assumption) | assumption)
                                          have q221 : x72_3 < (y217.length : Int) := of_decide_eq_true (by first | (with_reducible assumption) | assumption)
                                          obtain ⟨ad221, e221, hx221_0⟩ := Kd.at_int HR220.out x72_3 p221 q221
                                          cases e221
                                          replace p221 := eq_true p221
                                          replace q221 := eq_true q221
                                          go_wp2_with (first | ((with_reducible refine gate_callee (f := 63) rfl ?_); refine goesL_ (some 79) rfl rfl Try.func63 (by kernel_rfl) rfl #[.int .i64 a0, .int .u64 (rd y217 x72_3)] rfl (by (try simp only [List.map_toArray, List.map_cons, List.map_nil]); first | done | rfl | (simp only [List.length_drop, List.length_take]; rfl)) ?_; (with_reducible refine (medlarref01_Other.calls k3 a0 (rd y217 x72_3) t222 t223 _ A32.out).mono ?_); rintro e w' ⟨rfl, ⟨nd, rfl⟩⟩; refine ⟨_, rfl, ?_⟩; (try (rw [drewN_self wr]; generalize hq_ : World.drewN wr _ = wr; (try (have nz_ := Aside0.mk (Kd.C_eqN hq_ HR220.out); clear HR220; have HR220 := nz_; clear nz_)); have n0_ : Aside0 (Kd.R (Kd.int .u64) 22 wr w.heap.size (fun _ => True) (.slice (some ad216) t206.length co21) t206) := ⟨by rw [← hq_]; exact (by (with_reducible repeat (first | apply Kd.R_alloc | apply Kd.R_drewN | apply Kd.R_drew)); exact HO_10.out)⟩; have n1_ : Aside0 (Kd.R k24 24 wr w.heap.size (fun _ => True) u11 x11_3) := ⟨by rw [← hq_]; exact (by (with_reducible repeat (first | apply Kd.R_alloc | apply Kd.R_drewN | apply Kd.R_drew)); exact HO_11.out)⟩; have n2_ : Aside0 (Kd.R (Kd.int .u64) 22 wr w.heap.size (fun _ => True) (.slice (some ad216) t206.length co21) t206) := ⟨by rw [← hq_]; exact (by (with_reducible repeat (first | apply Kd.R_alloc | apply Kd.R_drewN | apply Kd.R_drew)); exact HO_60.out)⟩; have n3_ : Aside0 (Below w.heap.size w wr) := ⟨by rw [← hq_]; exact (by repeat (first | (with_reducible first | exact HB.out | apply below_alloc | apply pw_below_drewN | apply below_drew1) | exact HB.out))⟩; clear HO_10 HO_11 HO_60 HB hq_; have HO_10 := n0_; have HO_11 := n1_; have HO_60 := n2_; have HB := n3_; clear n0_ n1_ n2_ n3_))) | ((with_reducible refine gate_dst (N := 20) rfl ?_); refine box_event ?hg (N := 20) ?hd (cs := #[.int .u64 0, .int .u64 0]) (t := 24) ?hr ?_; (case hd => rfl); (case hg => rfl); (case hr => first | (go_simp; done) | (go_simp; rfl)); intro gb224 hg w43 hbox hb; have n0_ := Aside0.mk (Kd.R_below (by (with_reducible repeat (first | apply Kd.R_alloc | apply Kd.R_drewN | apply Kd.R_drew)); exact HO_10.out) hb); have n1_ := Aside0.mk (Kd.R_below (Kd.R_elderB (by (with_reducible repeat (first | apply Kd.R_alloc | apply Kd.R_drewN | apply Kd.R_drew)); exact HO_11.out) gb224 (Nat.le_of_eq hg.symm)) hb); have n2_ := Aside0.mk (Kd.R_below (by (with_reducible repeat (first | apply Kd.R_alloc | apply Kd.R_drewN | apply Kd.R_drew)); exact HO_60.out) hb); have n3_ := Aside0.mk (Kd.C_below (by repeat (first | (with_reducible exact HR220.out) | (with_reducible refine Kd.C_alloc ?_ _) | (with_reducible refine Kd.C_drewN ?_ _) | (with_reducible refine Kd.C_drew ?_) | exact HR220.out)) hb); have n4_ := Aside0.mk (below_step (by repeat (first | (with_reducible first | exact HB.out | apply below_alloc | apply pw_below_drewN | apply below_drew1) | exact HB.out)) hb); have n5_ := Aside0.mk (hbox); have n6_ := Aside0.mk ((by rw [hg]; exact (below_size (by repeat (first | (with_reducible first | exact HB.out | apply below_alloc | apply pw_below_drewN | apply below_drew1) | exact HB.out))) : w.heap.size ≤ gb224)); have n7_ := Aside0.mk ((by rw [hg]; exact (below_size (by repeat (first | (with_reducible first | exact HB.out | apply below_alloc | apply pw_below_drewN | apply below_drew1) | exact HB.out))) : w.heap.size ≤ gb224)); clear HO_10; clear HO_11; clear HO_60; clear HR220; clear HB; have HO_10 := n0_; have HO_11 := n1_; have HO_60 := n2_; have HR220 := n3_; have HB := n4_; have BK224 := n5_; have GW224 := n6_; have GE224 := n7_; clear n0_ n1_ n2_ n3_ n4_ n5_ n6_ n7_; clear hb hbox hg; have hcz44_0 : w43.cell? ⟨gb224, 0, none⟩ = some (.int .u64 0) := (blk_cell BK224.out 0).trans rfl; have hcz44_1 : w43.cell? ⟨gb224, 1, none⟩ = some (.int .u64 0) := (blk_cell BK224.out 1).trans rfl; have hfz44_0 := blk_frozen BK224.out 0; have hfz44_1 := blk_frozen BK224.out 1) | ((with_reducible refine gate_callee (f := 18) rfl ?_); refine goesL_ (some 88) rfl rfl Try.func18 (by kernel_rfl) rfl #[.int .i64 a0, .agg #[.int .u64 (rd t206 x62_2), .int .u64 t222]] rfl (by (try simp only [List.map_toArray, List.map_cons, List.map_nil]); first | done | rfl | (simp only [List.length_drop, List.length_take]; rfl)) ?_; (with_reducible refine (medlarref08_Useful.calls k3 a0 (rd t206 x62_2) t222 true t226 _ A33.out).mono ?_); rintro e w45 ⟨rfl, hb⟩; refine ⟨_, rfl, ?_⟩; have n0_ := Aside0.mk (Kd.R_below (by (with_reducible repeat (first | apply Kd.R_alloc | apply Kd.R_drewN | apply Kd.R_drew)); exact (Kd.R_mono (Kd.R_far (p := ⟨gb224, 1, none⟩) (Kd.R_far (p := ⟨gb224, 0, none⟩) (Kd.R_types HO_10.out BK224.out (by decide)) (fun _ hk => hk.2) (.int .u64 (rd t206 x62_2))) (fun _ hk => hk.2) (.int .u64 t222)) (fun _ h_ => h_.1))) hb); have n1_ := Aside0.mk (Kd.R_below (by (with_reducible repeat (first | apply Kd.R_alloc | apply Kd.R_drewN | apply Kd.R_drew)); exact (Kd.R_mono (Kd.R_far (p := ⟨gb224, 1, none⟩) (Kd.R_far (p := ⟨gb224, 0, none⟩) (Kd.R_mono HO_11.out (fun k_ hk => (⟨hk, hk.2⟩ : _ ∧ k_ ≠ gb224))) (fun _ hk => hk.2) (.int .u64 (rd t206 x62_2))) (fun _ hk => hk.2) (.int .u64 t222)) (fun _ h_ => h_.1))) hb); have n2_ := Aside0.mk (Kd.R_below (by (with_reducible repeat (first | apply Kd.R_alloc | apply Kd.R_drewN | apply Kd.R_drew)); exact (Kd.R_mono (Kd.R_far (p := ⟨gb224, 1, none⟩) (Kd.R_far (p := ⟨gb224, 0, none⟩) (Kd.R_types HO_60.out BK224.out (by decide)) (fun _ hk => hk.2) (.int .u64 (rd t206 x62_2))) (fun _ hk => hk.2) (.int .u64 t222)) (fun _ h_ => h_.1))) hb); have n3_ := Aside0.mk (Kd.C_below ((Kd.C_cutR (d := (Kd.int .u64)) (m := ((ji25) : Int).toNat) (c := co21) KA28.out Ny217.out (by (with_reducible repeat (first | apply Kd.R_alloc | apply Kd.R_drewN | apply Kd.R_drew)); exact (Kd.R_mono (Kd.R_far (p := ⟨gb224, 1, none⟩) (Kd.R_far (p := ⟨gb224, 0, none⟩) (Kd.R_types HO_10.out BK224.out (by decide)) (fun _ hk => hk.2) (.int .u64 (rd t206 x62_2))) (fun _ hk => hk.2) (.int .u64 t222)) (fun _ h_ => h_.1))) KL28.out)) hb); have n4_ := Aside0.mk (blk_below (g := gb224) (o := .cells #[.int .u64 (rd t206 x62_2), .int .u64 t222] 24 (0, 0)) (by (with_reducible repeat (first | refine blk_drewN ?_ _ | refine blk_drew ?_ | refine blk_alloc ?_ _)); refine blk_put (cs := #[.int .u64 (rd t206 x62_2), .int .u64 0]) ?_ 1 _ rfl; (with_reducible repeat (first | refine blk_drewN ?_ _ | refine blk_drew ?_ | refine blk_alloc ?_ _)); refine blk_put (cs := #[.int .u64 0, .int .u64 0]) ?_ 0 _ rfl; (with_reducible repeat (first | refine blk_drewN ?_ _ | refine blk_drew ?_ | refine blk_alloc ?_ _)); exact BK224.out) hb); have n5_ := Aside0.mk (below_step (by repeat (first | (with_reducible first | exact HB.out | apply below_alloc | apply pw_below_drewN | apply below_drew1 | refine below_set ?_ GE224.out) | exact HB.out)) hb); clear HO_10; clear HO_11; clear HO_60; clear HR220; clear BK224; clear HB; have HO_10 := n0_; have HO_11 := n1_; have HO_60 := n2_; have HR220 := n3_; have BK224 := n4_; have HB := n5_; clear n0_ n1_ n2_ n3_ n4_ n5_; (try clear hb); (try clear hb2); (try clear hk); (try clear hi); have hcz46_0 : w45.cell? ⟨gb224, 0, none⟩ = some (.int .u64 (rd t206 x62_2)) := (blk_cell BK224.out 0).trans rfl; have hcz46_1 : w45.cell? ⟨gb224, 1, none⟩ = some (.int .u64 t222) := (blk_cell BK224.out 1).trans rfl; have hfz46_0 := blk_frozen BK224.out 0; have hfz46_1 := blk_frozen BK224.out 1) | ((with_reducible refine gate_builtin (b := .append) (xs := #[.tmp 96, .tmp 98]) rfl ?_); at_builtin; refine Kd.R_append k24 (w0 := w) w.heap.size rfl (.tmp 96) (.tmp 98) 31 24 (.agg #[(.int .u64 0), (.int .u64 0)]) 16 rfl Try.underlying31 info24 rfl (by decide) (by omega) u11 x11_3 (⟨(rd t206 x62_2), t222⟩ : S24) [.int .u64 (rd t206 x62_2), .int .u64 t222] (fun k_ => k_ ≠ gb224) (fun _ => False) rfl rfl ?aP (fun _ hk => hk.elim) ?aF ?aO ?aB ?aS ?aL ?_; (case aP => exact k24_mkM _ _ _ (⟨(rd t206 x62_2), t222⟩ : S24)); (case aB => exact (by repeat (first | (with_reducible first | exact HB.out | apply below_alloc | apply pw_below_drewN | apply below_drew1 | refine below_set ?_ GE224.out) | exact HB.out))); (case aF => exact (fun k_ hk => Kd.freshB (g := gb224) (o := .cells #[.int .u64 (rd t206 x62_2), .int .u64 t222] 24 (0, 0)) (by (with_reducible repeat (first | refine blk_drewN ?_ _ | refine blk_drew ?_ | refine blk_alloc ?_ _)); exact BK224.out) k_ hk)); (case aO => exact (by (with_reducible repeat (first | apply Kd.R_alloc | apply Kd.R_drewN | apply Kd.R_drew)); exact Kd.R_mono HO_11.out (fun _ hk => hk.2))); (case aS => exact (below_size (by repeat (first | (with_reducible first | exact HB.out | apply below_alloc | apply pw_below_drewN | apply below_drew1 | refine below_set ?_ GE224.out) | exact HB.out)))); (case aL => have := LMc42.out; omega); intro v231 w47 ho hb hg hat; rw [← Ny230.out] at ho; have n0_ := Aside0.mk (Kd.R_over' (by (with_reducible repeat (first | apply Kd.R_alloc | apply Kd.R_drewN | apply Kd.R_drew)); exact HO_10.out) (Kd.R_typed (by (with_reducible repeat (first | apply Kd.R_alloc | apply Kd.R_drewN | apply Kd.R_drew)); exact HO_11.out)) (by decide) hg); have n1_ := Aside0.mk (Kd.R_over' (by (with_reducible repeat (first | apply Kd.R_alloc | apply Kd.R_drewN | apply Kd.R_drew)); exact HO_60.out) (Kd.R_typed (by (with_reducible repeat (first | apply Kd.R_alloc | apply Kd.R_drewN | apply Kd.R_drew)); exact HO_11.out)) (by decide) hg); have n2_ := Aside0.mk (blk_grown (g := gb224) (o := .cells #[.int .u64 (rd t206 x62_2), .int .u64 t222] 24 (0, 0)) (by (with_reducible repeat (first | refine blk_drewN ?_ _ | refine blk_drew ?_ | refine blk_alloc ?_ _)); exact BK224.out) hg (Kd.R_away HO_11.out (fun _ hk => hk.2))); have n3_ := Aside0.mk (hb); have n4_ := Aside0.mk ((Kd.C_cutR (d := (Kd.int .u64)) (W := w47) (m := ((ji25) : Int).toNat) (c := co21) KA28.out Ny217.out (Kd.R_over' (by (with_reducible repeat (first | apply Kd.R_alloc | apply Kd.R_drewN | apply Kd.R_drew)); exact HO_10.out) (Kd.R_typed (by (with_reducible repeat (first | apply Kd.R_alloc | apply Kd.R_drewN | apply Kd.R_drew)); exact HO_11.out)) (by decide) hg) KL28.out)); have n5_ := Aside0.mk (ho); clear HO_10; clear HO_60; clear BK224; clear HB; clear HR220; clear HO_11; have HO_10 := n0_; have HO_60 := n1_; have BK224 := n2_; have HB := n3_; have HR220 := n4_; have HO232 := n5_; clear n0_ n1_ n2_ n3_ n4_ n5_; clear ho hb hg hat))
                                          go_roundg k3
                                          case measure => have := HJ4.out; have := HK2.out; have := HK3.out; omega
                                          case rel => exact ⟨(y230), (wrap64 (x72_3 + 1)), (by first | rfl | (simp; done) | (simp [*]; done)), H', ⟨by have := HJ4.out; have := HK2.out; have := HK3.out; omega⟩, ⟨by (with_reducible repeat (first | apply Kd.R_alloc | apply Kd.R_drewN | apply Kd.R_drew)); exact HO_10.out⟩, ⟨by (with_reducible repeat (first | apply Kd.R_alloc | apply Kd.R_drewN | apply Kd.R_drew)); exact Kd.R_mono HO232.out (fun _ hk => trivial)⟩, ⟨by (with_reducible repeat (first | apply Kd.R_alloc | apply Kd.R_drewN | apply Kd.R_drew)); exact HO_60.out⟩, ⟨by repeat (first | (with_reducible exact HR220.out) | (with_reducible refine Kd.C_alloc ?_ _) | (with_reducible refine Kd.C_drewN ?_ _) | (with_reducible refine Kd.C_drew ?_) | exact HR220.out)⟩, ⟨by repeat (first | (with_reducible first | exact HB.out | apply below_alloc | apply pw_below_drewN | apply below_drew1 | refine below_set ?_ GE224.out) | exact HB.out)⟩⟩
                                        · rw [if_neg c42] at H
                                          exact absurd H (by simp)
                                      · replace c41 := Bool.eq_false_iff.mpr c41
                                        subst c41
                                        have H1 : (medlarref14_Pairs.l2 k3 a0 a1 t206 x11_3 (rd t206 x62_2) t206 (t206.length : Int) x62_2 y217 (y217.length : Int) (wrap64 (x72_3 + 1))) = some (r1, r2) := by rw [if_neg (show ¬ (false = true) by decide)] at H; exact H
                                        clear H
                                        have H := H1
                                        clear H1
                                        have H' := Aside0.mk H
                                        clear H
                                        have p221 : 0 ≤ (x72_3 : Int) := of_decide_eq_true (by first | (with_reducible assumption) | assumption)
                                        have q221 : x72_3 < (y217.length : Int) := of_decide_eq_true (by first | (with_reducible assumption) | assumption)
                                        obtain ⟨ad221, e221, hx221_0⟩ := Kd.at_int HR220.out x72_3 p221 q221
                                        cases e221
                                        replace p221 := eq_true p221
                                        replace q221 := eq_true q221
                                        go_wp2_with (first | ((with_reducible refine gate_callee (f := 63) rfl ?_); refine goesL_ (some 79) rfl rfl Try.func63 (by kernel_rfl) rfl #[.int .i64 a0, .int .u64 (rd y217 x72_3)] rfl (by (try simp only [List.map_toArray, List.map_cons, List.map_nil]); first | done | rfl | (simp only [List.length_drop, List.length_take]; rfl)) ?_; (with_reducible refine (medlarref01_Other.calls k3 a0 (rd y217 x72_3) t222 t223 _ A32.out).mono ?_); rintro e w' ⟨rfl, ⟨nd, rfl⟩⟩; refine ⟨_, rfl, ?_⟩; (try (rw [drewN_self wr]; generalize hq_ : World.drewN wr _ = wr; (try (have nz_ := Aside0.mk (Kd.C_eqN hq_ HR220.out); clear HR220; have HR220 := nz_; clear nz_)); have n0_ : Aside0 (Kd.R (Kd.int .u64) 22 wr w.heap.size (fun _ => True) (.slice (some ad216) t206.length co21) t206) := ⟨by rw [← hq_]; exact (by (with_reducible repeat (first | apply Kd.R_alloc | apply Kd.R_drewN | apply Kd.R_drew)); exact HO_10.out)⟩; have n1_ : Aside0 (Kd.R k24 24 wr w.heap.size (fun _ => True) u11 x11_3) := ⟨by rw [← hq_]; exact (by (with_reducible repeat (first | apply Kd.R_alloc | apply Kd.R_drewN | apply Kd.R_drew)); exact HO_11.out)⟩; have n2_ : Aside0 (Kd.R (Kd.int .u64) 22 wr w.heap.size (fun _ => True) (.slice (some ad216) t206.length co21) t206) := ⟨by rw [← hq_]; exact (by (with_reducible repeat (first | apply Kd.R_alloc | apply Kd.R_drewN | apply Kd.R_drew)); exact HO_60.out)⟩; have n3_ : Aside0 (Below w.heap.size w wr) := ⟨by rw [← hq_]; exact (by repeat (first | (with_reducible first | exact HB.out | apply below_alloc | apply pw_below_drewN | apply below_drew1) | exact HB.out))⟩; clear HO_10 HO_11 HO_60 HB hq_; have HO_10 := n0_; have HO_11 := n1_; have HO_60 := n2_; have HB := n3_; clear n0_ n1_ n2_ n3_))) | ((with_reducible refine gate_dst (N := 20) rfl ?_); refine box_event ?hg (N := 20) ?hd (cs := #[.int .u64 0, .int .u64 0]) (t := 24) ?hr ?_; (case hd => rfl); (case hg => rfl); (case hr => first | (go_simp; done) | (go_simp; rfl)); intro gb224 hg w48 hbox hb; have n0_ := Aside0.mk (Kd.R_below (by (with_reducible repeat (first | apply Kd.R_alloc | apply Kd.R_drewN | apply Kd.R_drew)); exact HO_10.out) hb); have n1_ := Aside0.mk (Kd.R_below (Kd.R_elderB (by (with_reducible repeat (first | apply Kd.R_alloc | apply Kd.R_drewN | apply Kd.R_drew)); exact HO_11.out) gb224 (Nat.le_of_eq hg.symm)) hb); have n2_ := Aside0.mk (Kd.R_below (by (with_reducible repeat (first | apply Kd.R_alloc | apply Kd.R_drewN | apply Kd.R_drew)); exact HO_60.out) hb); have n3_ := Aside0.mk (Kd.C_below (by repeat (first | (with_reducible exact HR220.out) | (with_reducible refine Kd.C_alloc ?_ _) | (with_reducible refine Kd.C_drewN ?_ _) | (with_reducible refine Kd.C_drew ?_) | exact HR220.out)) hb); have n4_ := Aside0.mk (below_step (by repeat (first | (with_reducible first | exact HB.out | apply below_alloc | apply pw_below_drewN | apply below_drew1) | exact HB.out)) hb); have n5_ := Aside0.mk (hbox); have n6_ := Aside0.mk ((by rw [hg]; exact (below_size (by repeat (first | (with_reducible first | exact HB.out | apply below_alloc | apply pw_below_drewN | apply below_drew1) | exact HB.out))) : w.heap.size ≤ gb224)); have n7_ := Aside0.mk ((by rw [hg]; exact (below_size (by repeat (first | (with_reducible first | exact HB.out | apply below_alloc | apply pw_below_drewN | apply below_drew1) | exact HB.out))) : w.heap.size ≤ gb224)); clear HO_10; clear HO_11; clear HO_60; clear HR220; clear HB; have HO_10 := n0_; have HO_11 := n1_; have HO_60 := n2_; have HR220 := n3_; have HB := n4_; have BK224 := n5_; have GW224 := n6_; have GE224 := n7_; clear n0_ n1_ n2_ n3_ n4_ n5_ n6_ n7_; clear hb hbox hg; have hcz49_0 : w48.cell? ⟨gb224, 0, none⟩ = some (.int .u64 0) := (blk_cell BK224.out 0).trans rfl; have hcz49_1 : w48.cell? ⟨gb224, 1, none⟩ = some (.int .u64 0) := (blk_cell BK224.out 1).trans rfl; have hfz49_0 := blk_frozen BK224.out 0; have hfz49_1 := blk_frozen BK224.out 1) | ((with_reducible refine gate_callee (f := 18) rfl ?_); refine goesL_ (some 88) rfl rfl Try.func18 (by kernel_rfl) rfl #[.int .i64 a0, .agg #[.int .u64 (rd t206 x62_2), .int .u64 t222]] rfl (by (try simp only [List.map_toArray, List.map_cons, List.map_nil]); first | done | rfl | (simp only [List.length_drop, List.length_take]; rfl)) ?_; (with_reducible refine (medlarref08_Useful.calls k3 a0 (rd t206 x62_2) t222 false t226 _ A33.out).mono ?_); rintro e w50 ⟨rfl, hb⟩; refine ⟨_, rfl, ?_⟩; have n0_ := Aside0.mk (Kd.R_below (by (with_reducible repeat (first | apply Kd.R_alloc | apply Kd.R_drewN | apply Kd.R_drew)); exact (Kd.R_mono (Kd.R_far (p := ⟨gb224, 1, none⟩) (Kd.R_far (p := ⟨gb224, 0, none⟩) (Kd.R_types HO_10.out BK224.out (by decide)) (fun _ hk => hk.2) (.int .u64 (rd t206 x62_2))) (fun _ hk => hk.2) (.int .u64 t222)) (fun _ h_ => h_.1))) hb); have n1_ := Aside0.mk (Kd.R_below (by (with_reducible repeat (first | apply Kd.R_alloc | apply Kd.R_drewN | apply Kd.R_drew)); exact (Kd.R_mono (Kd.R_far (p := ⟨gb224, 1, none⟩) (Kd.R_far (p := ⟨gb224, 0, none⟩) (Kd.R_mono HO_11.out (fun k_ hk => (⟨hk, hk.2⟩ : _ ∧ k_ ≠ gb224))) (fun _ hk => hk.2) (.int .u64 (rd t206 x62_2))) (fun _ hk => hk.2) (.int .u64 t222)) (fun _ h_ => h_.1))) hb); have n2_ := Aside0.mk (Kd.R_below (by (with_reducible repeat (first | apply Kd.R_alloc | apply Kd.R_drewN | apply Kd.R_drew)); exact (Kd.R_mono (Kd.R_far (p := ⟨gb224, 1, none⟩) (Kd.R_far (p := ⟨gb224, 0, none⟩) (Kd.R_types HO_60.out BK224.out (by decide)) (fun _ hk => hk.2) (.int .u64 (rd t206 x62_2))) (fun _ hk => hk.2) (.int .u64 t222)) (fun _ h_ => h_.1))) hb); have n3_ := Aside0.mk (Kd.C_below ((Kd.C_cutR (d := (Kd.int .u64)) (m := ((ji25) : Int).toNat) (c := co21) KA28.out Ny217.out (by (with_reducible repeat (first | apply Kd.R_alloc | apply Kd.R_drewN | apply Kd.R_drew)); exact (Kd.R_mono (Kd.R_far (p := ⟨gb224, 1, none⟩) (Kd.R_far (p := ⟨gb224, 0, none⟩) (Kd.R_types HO_10.out BK224.out (by decide)) (fun _ hk => hk.2) (.int .u64 (rd t206 x62_2))) (fun _ hk => hk.2) (.int .u64 t222)) (fun _ h_ => h_.1))) KL28.out)) hb); have n4_ := Aside0.mk (blk_below (g := gb224) (o := .cells #[.int .u64 (rd t206 x62_2), .int .u64 t222] 24 (0, 0)) (by (with_reducible repeat (first | refine blk_drewN ?_ _ | refine blk_drew ?_ | refine blk_alloc ?_ _)); refine blk_put (cs := #[.int .u64 (rd t206 x62_2), .int .u64 0]) ?_ 1 _ rfl; (with_reducible repeat (first | refine blk_drewN ?_ _ | refine blk_drew ?_ | refine blk_alloc ?_ _)); refine blk_put (cs := #[.int .u64 0, .int .u64 0]) ?_ 0 _ rfl; (with_reducible repeat (first | refine blk_drewN ?_ _ | refine blk_drew ?_ | refine blk_alloc ?_ _)); exact BK224.out) hb); have n5_ := Aside0.mk (below_step (by repeat (first | (with_reducible first | exact HB.out | apply below_alloc | apply pw_below_drewN | apply below_drew1 | refine below_set ?_ GE224.out) | exact HB.out)) hb); clear HO_10; clear HO_11; clear HO_60; clear HR220; clear BK224; clear HB; have HO_10 := n0_; have HO_11 := n1_; have HO_60 := n2_; have HR220 := n3_; have BK224 := n4_; have HB := n5_; clear n0_ n1_ n2_ n3_ n4_ n5_; (try clear hb); (try clear hb2); (try clear hk); (try clear hi)))
                                        go_roundg k3
                                        case measure => have := HJ4.out; have := HK2.out; have := HK3.out; omega
                                        case rel => exact ⟨(x11_3), (wrap64 (x72_3 + 1)), (by first | rfl | (simp; done) | (simp [*]; done)), H', ⟨by have := HJ4.out; have := HK2.out; have := HK3.out; omega⟩, ⟨by (with_reducible repeat (first | apply Kd.R_alloc | apply Kd.R_drewN | apply Kd.R_drew)); exact HO_10.out⟩, ⟨by (with_reducible repeat (first | apply Kd.R_alloc | apply Kd.R_drewN | apply Kd.R_drew)); exact Kd.R_mono HO_11.out (fun _ hk => trivial)⟩, ⟨by (with_reducible repeat (first | apply Kd.R_alloc | apply Kd.R_drewN | apply Kd.R_drew)); exact HO_60.out⟩, ⟨by repeat (first | (with_reducible exact HR220.out) | (with_reducible refine Kd.C_alloc ?_ _) | (with_reducible refine Kd.C_drewN ?_ _) | (with_reducible refine Kd.C_drew ?_) | exact HR220.out)⟩, ⟨by repeat (first | (with_reducible first | exact HB.out | apply below_alloc | apply pw_below_drewN | apply below_drew1 | refine below_set ?_ GE224.out) | exact HB.out)⟩⟩
                                  · rw [if_neg c31] at H
                                    exact absurd H (by simp)
                                · rw [if_neg c30] at H
                                  exact absurd H (by simp)
                              · rw [if_neg c29] at H
                                have c29b0 : decide (x72_3 < (y217.length : Int)) = false := decide_eq_false c29
                                clear c29
                                have H' := Aside0.mk H
                                clear H
                                go_wp2
                                go_roundg k3
                                case measure => have := HJ4.out; have := HK2.out; have := HK3.out; omega
                                case rel => exact ⟨(x11_3), (wrap64 (x62_2 + 1)), (by first | rfl | (simp; done) | (simp [*]; done)), H', ⟨by have := HJ4.out; have := HK2.out; have := HK3.out; omega⟩, ⟨by (with_reducible repeat (first | apply Kd.R_alloc | apply Kd.R_drewN | apply Kd.R_drew)); exact HO_10.out⟩, ⟨by (with_reducible repeat (first | apply Kd.R_alloc | apply Kd.R_drewN | apply Kd.R_drew)); exact HO_11.out⟩, ⟨by (with_reducible repeat (first | apply Kd.R_alloc | apply Kd.R_drewN | apply Kd.R_drew)); exact HO_60.out⟩, ⟨by repeat (first | (with_reducible first | exact HB.out | apply below_alloc | apply pw_below_drewN | apply below_drew1) | exact HB.out)⟩⟩
                        · rw [if_neg c27] at H
                          exact absurd H (by simp)
                      · rw [if_neg c26] at H
                        exact absurd H (by simp)
                    · rw [if_neg c24] at H
                      exact absurd H (by simp)
                  · rw [if_neg c23] at H
                    exact absurd H (by simp)
                · rw [if_neg c22] at H
                  have c22b0 : decide (x62_2 < (t206.length : Int)) = false := decide_eq_false c22
                  clear c22
                  simp only [Option.some.injEq, Prod.mk.injEq] at H
                  obtain ⟨rfl, rfl⟩ := H
                  go_wp2
                  go_ret2
                  exact ⟨_, by first | rfl | (simp [errW_none, errW_some] <;> rfl) | (simp [*, errW_none, errW_some] <;> rfl), by (with_reducible repeat (first | apply Kd.R_alloc | apply Kd.R_drewN | apply Kd.R_drew)); exact HO_11.out, by repeat (first | (with_reducible first | exact HB.out | apply below_alloc | apply pw_below_drewN | apply below_drew1) | exact HB.out)⟩
          · rw [if_neg c18] at H
            exact absurd H (by simp)

/-! ### medlarref12_Pairs: function 64 -/
mutual
def medlarref12_Pairs.l0 : Nat → Int → Int → List Int → List Int → Int → Int → Option (Int × Int)
  | 0, _, _, _, _, _, _ => none
  | k + 1, x0, x6, x7, x24, x25, x26 => if x26 < x25 then (if 0 ≤ x26 then (if x26 < (x24.length : Int) then (if 0 ≤ (wrap64 (x26 + 1)) then (if (wrap64 (x26 + 1)) ≤ (x7.length : Int) then ((some (x7.drop ((wrap64 (x26 + 1)) : Int).toNat : List Int)).bind fun y239 => (medlarref12_Pairs.l1 k x0 x6 x7 (rd x24 x26) x24 x25 x26 y239 (y239.length : Int) 0)) else (none)) else (none)) else (none)) else (none)) else (some (x6, 0))
def medlarref12_Pairs.l1 : Nat → Int → Int → List Int → Int → List Int → Int → Int → List Int → Int → Int → Option (Int × Int)
  | 0, _, _, _, _, _, _, _, _, _, _ => none
  | k + 1, x0, x6, x7, x9, x24, x25, x26, x34, x35, x36 => if x36 < x35 then (if 0 ≤ x36 then (if x36 < (x34.length : Int) then ((medlarref08_Useful.f k x0 x9 (IntKind.u64.wrap ((rd x34 x36) + 1))).bind fun bt244 => (if bt244.1 = true then (medlarref12_Pairs.l1 k x0 (wrap64 (x6 + 1)) x7 x9 x24 x25 x26 x34 x35 (wrap64 (x36 + 1))) else (medlarref12_Pairs.l1 k x0 x6 x7 x9 x24 x25 x26 x34 x35 (wrap64 (x36 + 1))))) else (none)) else (none)) else (medlarref12_Pairs.l0 k x0 x6 x7 x24 x25 (wrap64 (x26 + 1)))
end
def medlarref12_Pairs.f (k : Nat) (a0 : Int) : Option (Int × Int) := (medlarref01_Leaf.f k a0 0).bind fun bt233 => (if bt233.2 = 0 then ((medlarref01_Chain.f k bt233.1).bind fun t235 => (medlarref12_Pairs.l0 k a0 0 t235 t235 (t235.length : Int) 0)) else (some (0, bt233.2)))
theorem medlarref12_Pairs.mono_l : ∀ k, (∀ y0 y1 y2 y3 y4 y5, LeO (medlarref12_Pairs.l0 k y0 y1 y2 y3 y4 y5) (medlarref12_Pairs.l0 (k + 1) y0 y1 y2 y3 y4 y5)) ∧ (∀ y0 y1 y2 y3 y4 y5 y6 y7 y8 y9, LeO (medlarref12_Pairs.l1 k y0 y1 y2 y3 y4 y5 y6 y7 y8 y9) (medlarref12_Pairs.l1 (k + 1) y0 y1 y2 y3 y4 y5 y6 y7 y8 y9))
  | 0 => ⟨fun _ _ _ _ _ _ r h => by simp [medlarref12_Pairs.l0] at h, fun _ _ _ _ _ _ _ _ _ _ r h => by simp [medlarref12_Pairs.l1] at h⟩
  | k + 1 => by
    obtain ⟨ih0, ih1⟩ := medlarref12_Pairs.mono_l k
    refine ⟨?_, ?_⟩
    · intro y0 y1 y2 y3 y4 y5
      unfold medlarref12_Pairs.l0
      repeat' first
      | (with_reducible exact ih0 _ _ _ _ _ _)
      | (with_reducible exact ih1 _ _ _ _ _ _ _ _ _ _)
      | (with_reducible exact medlarref01_Chain.mono _ _)
      | (with_reducible exact medlarref01_Leaf.mono _ _ _)
      | (with_reducible exact medlarref08_Useful.mono _ _ _ _)
      | (with_reducible exact LeO.refl _)
      | (with_reducible exact LeO.none _)
      | (with_reducible refine LeO.ite ?_ ?_)
      | (with_reducible refine LeO.bind ?_ (fun _ => ?_))
      | exact ih0 _ _ _ _ _ _
      | exact ih1 _ _ _ _ _ _ _ _ _ _
      | exact medlarref01_Chain.mono _ _
      | exact medlarref01_Leaf.mono _ _ _
      | exact medlarref08_Useful.mono _ _ _ _
      | exact LeO.none _
      | refine LeO.ite ?_ ?_
      | refine LeO.bind ?_ (fun _ => ?_)
    · intro y0 y1 y2 y3 y4 y5 y6 y7 y8 y9
      unfold medlarref12_Pairs.l1
      repeat' first
      | (with_reducible exact ih0 _ _ _ _ _ _)
      | (with_reducible exact ih1 _ _ _ _ _ _ _ _ _ _)
      | (with_reducible exact medlarref01_Chain.mono _ _)
      | (with_reducible exact medlarref01_Leaf.mono _ _ _)
      | (with_reducible exact medlarref08_Useful.mono _ _ _ _)
      | (with_reducible exact LeO.refl _)
      | (with_reducible exact LeO.none _)
      | (with_reducible refine LeO.ite ?_ ?_)
      | (with_reducible refine LeO.bind ?_ (fun _ => ?_))
      | exact ih0 _ _ _ _ _ _
      | exact ih1 _ _ _ _ _ _ _ _ _ _
      | exact medlarref01_Chain.mono _ _
      | exact medlarref01_Leaf.mono _ _ _
      | exact medlarref08_Useful.mono _ _ _ _
      | exact LeO.none _
      | refine LeO.ite ?_ ?_
      | refine LeO.bind ?_ (fun _ => ?_)
theorem medlarref12_Pairs.mono : ∀ a0 k, LeO (medlarref12_Pairs.f k a0) (medlarref12_Pairs.f (k + 1) a0) := by
  intro a0 k
  obtain ⟨ih0, ih1⟩ := medlarref12_Pairs.mono_l k
  unfold medlarref12_Pairs.f
  repeat' first
      | (with_reducible exact ih0 _ _ _ _ _ _)
      | (with_reducible exact ih1 _ _ _ _ _ _ _ _ _ _)
      | (with_reducible exact medlarref01_Chain.mono _ _)
      | (with_reducible exact medlarref01_Leaf.mono _ _ _)
      | (with_reducible exact medlarref08_Useful.mono _ _ _ _)
      | (with_reducible exact LeO.refl _)
      | (with_reducible exact LeO.none _)
      | (with_reducible refine LeO.ite ?_ ?_)
      | (with_reducible refine LeO.bind ?_ (fun _ => ?_))
      | exact ih0 _ _ _ _ _ _
      | exact ih1 _ _ _ _ _ _ _ _ _ _
      | exact medlarref01_Chain.mono _ _
      | exact medlarref01_Leaf.mono _ _ _
      | exact medlarref08_Useful.mono _ _ _ _
      | exact LeO.none _
      | refine LeO.ite ?_ ?_
      | refine LeO.bind ?_ (fun _ => ?_)
set_option maxHeartbeats 8000000 in
set_option maxRecDepth 100000 in
theorem medlarref12_Pairs.calls (k : Nat) (a0 : Int) (r1 : Int) (r2 : Int) (w : World) (h : medlarref12_Pairs.f k a0 = some (r1, r2)) :
    Calls Try.prog 64 #[.int .i64 a0] w fun e w' => e = .returned (.tuple #[.int .i64 r1, .int .i64 r2]) ∧ Below w.heap.size w w' := by
  have hu24 := Try.underlying24
  have HB := Aside0.mk (Below.refl w.heap.size w)
  have H : ((medlarref01_Leaf.f k a0 0).bind fun bt233 => (if bt233.2 = 0 then ((medlarref01_Chain.f k bt233.1).bind fun t235 => (medlarref12_Pairs.l0 k a0 0 t235 t235 (t235.length : Int) 0)) else (some (0, bt233.2)))) = some (r1, r2) := h
  clear h
  replace H := Option.bind_eq_some_iff.mp H
  obtain ⟨⟨t233, t234⟩, A20, H⟩ := H
  replace H : (if t234 = 0 then ((medlarref01_Chain.f k t233).bind fun t235 => (medlarref12_Pairs.l0 k a0 0 t235 t235 (t235.length : Int) 0)) else (some (0, t234))) = some (r1, r2) := H
  have A2 := Aside0.mk A20
  clear A20
  by_cases c3 : t234 = 0
  · rw [if_pos c3] at H
    have c3b0 : (t234 == 0) = true := beq_iff_eq.mpr c3
    have c3b1 : (t234 != 0) = false := bne_eq_false_iff_eq.mpr c3
    clear c3
    replace H := Option.bind_eq_some_iff.mp H
    obtain ⟨t235, A40, H⟩ := H
    replace H : (medlarref12_Pairs.l0 k a0 0 t235 t235 (t235.length : Int) 0) = some (r1, r2) := H
    have A4 := Aside0.mk A40
    clear A40
    have H' := Aside0.mk H
    clear H
    go_enter Try.func64, Try.ntmps64
    go_wp2_with (first | ((with_reducible refine gate_callee (f := 57) rfl ?_); refine goesL_ (some 16) rfl rfl Try.func57 (by kernel_rfl) rfl #[.int .i64 a0, .int .u64 0] rfl (by (try simp only [List.map_toArray, List.map_cons, List.map_nil]); first | done | rfl | (simp only [List.length_drop, List.length_take]; rfl)) ?_; (with_reducible refine (medlarref01_Leaf.calls k a0 0 t233 t234 _ A2.out).mono ?_); rintro e w' ⟨rfl, ⟨nd, rfl⟩⟩; refine ⟨_, rfl, ?_⟩) | ((with_reducible refine gate_callee (f := 62) rfl ?_); refine goesL_ (some 23) rfl rfl Try.func62 (by kernel_rfl) rfl #[.int .u64 t233] rfl (by (try simp only [List.map_toArray, List.map_cons, List.map_nil]); first | done | rfl | (simp only [List.length_drop, List.length_take]; rfl)) ?_; (with_reducible refine (medlarref01_Chain.calls k t233 t235 _ A4.out).mono ?_); rintro e w5 ⟨v236, rfl, ho0, hb⟩; refine ⟨_, rfl, ?_⟩; have n0_ := Aside0.mk (Kd.R_lower ho0 (below_size (by repeat (first | (with_reducible first | exact HB.out | apply below_alloc | apply pw_below_drewN | apply below_drew1) | exact HB.out)))); have n1_ := Aside0.mk (below_step (by repeat (first | (with_reducible first | exact HB.out | apply below_alloc | apply pw_below_drewN | apply below_drew1) | exact HB.out)) hb); clear HB; have HO237 := n0_; have HB := n1_; clear n0_ n1_; (try clear hb); (try clear hb2); (try clear hk); (try clear hi); (try clear ho0); obtain ⟨Ao6, co6, eo6⟩ := Kd.R_slice HO237.out; subst eo6))
    go_loopg [6, 26] k (fun kq v6 v26 w' => ∃ (x6_1 : Int) (x26_1 : Int), v6 = .int .i64 x6_1 ∧ v26 = .int .i64 x26_1 ∧ Aside0 (medlarref12_Pairs.l0 kq a0 x6_1 t235 t235 (t235.length : Int) x26_1 = some (r1, r2)) ∧ Aside0 (kq ≤ k) ∧ Aside0 (Kd.R (Kd.int .u64) 22 w' w.heap.size (fun _ => True) (.slice Ao6 t235.length co6) t235) ∧ Aside0 (Kd.R (Kd.int .u64) 22 w' w.heap.size (fun _ => True) (.slice Ao6 t235.length co6) t235) ∧ Aside0 (Below w.heap.size w w'))
    case atStart => exact ⟨(0), (0), (by first | rfl | (simp; done) | (simp [*]; done)), (by first | rfl | (simp; done) | (simp [*]; done)), H', ⟨Nat.le_refl _⟩, ⟨by (with_reducible repeat (first | apply Kd.R_alloc | apply Kd.R_drewN | apply Kd.R_drew)); exact HO237.out⟩, ⟨by (with_reducible repeat (first | apply Kd.R_alloc | apply Kd.R_drewN | apply Kd.R_drew)); exact HO237.out⟩, ⟨by repeat (first | (with_reducible first | exact HB.out | apply below_alloc | apply pw_below_drewN | apply below_drew1) | exact HB.out)⟩⟩
    case round =>
      clear H'
      try clear p2
      try clear c3
      try clear c3b0
      try clear c3b1
      try clear c5
      try clear c6
      obtain ⟨x6_1, x26_1, rfl, rfl, HA, HK1, HO_7, HO_24, HB⟩ := hrel
      cases gk with
      | zero => exact absurd HA.out (by simp [medlarref12_Pairs.l0])
      | succ k1 =>
        have H := HA.out
        clear HA
        simp only [medlarref12_Pairs.l0] at H
        by_cases c7 : x26_1 < (t235.length : Int)
        · rw [if_pos c7] at H
          have c7b0 : decide (x26_1 < (t235.length : Int)) = true := decide_eq_true c7
          clear c7
          by_cases c8 : 0 ≤ x26_1
          · rw [if_pos c8] at H
            have c8b0 : decide (0 ≤ x26_1) = true := decide_eq_true c8
            clear c8
            by_cases c9 : x26_1 < (t235.length : Int)
            · rw [if_pos c9] at H
              have c9b0 : decide (x26_1 < (t235.length : Int)) = true := decide_eq_true c9
              clear c9
              obtain ⟨ji10, hji10⟩ : ∃ j_ : Int, (wrap64 (x26_1 + 1)) = j_ := ⟨_, rfl⟩
              replace H : (if 0 ≤ (ji10) then (if (ji10) ≤ (t235.length : Int) then ((some (t235.drop ((ji10) : Int).toNat : List Int)).bind fun y239 => (medlarref12_Pairs.l1 k1 a0 x6_1 t235 (rd t235 x26_1) t235 (t235.length : Int) x26_1 y239 (y239.length : Int) 0)) else (none)) else (none)) = some (r1, r2) := by first | (rw [hji10] at H; exact H) | (simp only [hji10] at H ⊢; exact H)
              have hji10w : (IntKind.i64.wrap (x26_1 + 1)) = ji10 := (i64_w _).trans hji10
              by_cases c11 : 0 ≤ (ji10)
              · rw [if_pos c11] at H
                have c11b0 := eq_true c11
                have c11b1 : decide (0 ≤ (ji10)) = true := decide_eq_true c11
                clear c11
                by_cases c12 : (ji10) ≤ (t235.length : Int)
                · rw [if_pos c12] at H
                  have c12b0 := eq_true c12
                  have c12b1 : decide ((ji10) ≤ (t235.length : Int)) = true := decide_eq_true c12
                  clear c12
                  obtain ⟨y239, hy239⟩ : ∃ y_ : List Int, y_ = (t235.drop ((ji10) : Int).toNat) := ⟨_, rfl⟩
                  replace H : (medlarref12_Pairs.l1 k1 a0 x6_1 t235 (rd t235 x26_1) t235 (t235.length : Int) x26_1 y239 (y239.length : Int) 0) = some (r1, r2) := by first | (rw [hy239]; with_reducible exact H) | (have H2_ := (Option.bind_some _ _).symm.trans H; rw [hy239]; with_reducible exact H2_) | (have H2_ := (Option.bind_some _ _).symm.trans H; with_reducible exact H2_) | with_reducible exact H | (rw [hy239]; exact H) | exact H
                  have Ny239 := Aside0.mk hy239
                  clear hy239
                  have H' := Aside0.mk H
                  clear H
                  have p238 : 0 ≤ (x26_1 : Int) := of_decide_eq_true (by first | (with_reducible assumption) | assumption)
                  have q238 : x26_1 < (t235.length : Int) := of_decide_eq_true (by first | (with_reducible assumption) | assumption)
                  obtain ⟨ad238, e238, hx238_0⟩ := Kd.at_int (Kd.R_reads' HO_24.out).2.2 x26_1 p238 q238
                  cases e238
                  replace p238 := eq_true p238
                  replace q238 := eq_true q238
                  have q13 : ((ji10) : Int) ≤ ((t235.length : Int) : Int) := of_decide_eq_true (by first | (with_reducible assumption) | assumption)
                  obtain ⟨i013, hi013, _, hsz13, _⟩ := info_parts info22
                  have hroom13 : t235.length ≤ co6 := (Kd.R_reads' HO_7.out).2.1
                  have hC13 : Kd.C (Kd.int .u64) _ (some ad238) t235.length t235 := (Kd.R_reads' HO_7.out).2.2
                  have q013 : (0 : Int) ≤ ((ji10) : Int) := of_decide_eq_true (by first | (with_reducible assumption) | assumption)
                  have hcut13 := cut_from (P := Try.prog) 77 22 .i64 Try.underlying77 hi013 1 hsz13 (some ad238) t235.length co6 (ji10) q013 q13
                  have hr13 := Kd.C_drop (m := ((ji10) : Int).toNat) (c := co6) hC13 (by omega) hroom13
                  obtain ⟨A13, hA13⟩ : ∃ A1, A1 = (if co6 = ((ji10) : Int).toNat then (some ad238) else ((some ad238) : Option Addr).map (·.add (((ji10) : Int).toNat * 1))) := ⟨_, rfl⟩
                  obtain ⟨c13, hc13⟩ : ∃ c1, c1 = co6 - ((ji10) : Int).toNat := ⟨_, rfl⟩
                  have hy13 : y239.length = t235.length - ((ji10) : Int).toNat := (by rw [Ny239.out, List.length_drop] <;> omega)
                  rw [show (t235).drop ((ji10) : Int).toNat = y239 from Ny239.out.symm] at hr13
                  replace hr13 : Kd.C (Kd.int .u64) _ A13 y239.length y239 := (by rw [hA13]; exact hr13)
                  rw [← hy13, ← hA13, ← hc13] at hcut13
                  have HR242 := Aside0.mk hr13
                  have HC242 := Aside0.mk (show y239.length ≤ c13 from by rw [hy13, hc13]; exact Nat.sub_le_sub_right hroom13 _)
                  clear hr13 hC13 hroom13 hi013 hsz13 hc13
                  have KY13 := Aside0.mk hy13
                  have KA13 := Aside0.mk hA13
                  clear hy13 hA13
                  have KL13 := Aside0.mk (show ((ji10) : Int).toNat ≤ t235.length from by omega)
                  replace q13 := eq_true q13
                  go_wp2
                  go_loopg [6, 36] k1 (fun kq v6 v36 w' => ∃ (x6_2 : Int) (x36_2 : Int), v6 = .int .i64 x6_2 ∧ v36 = .int .i64 x36_2 ∧ Aside0 (medlarref12_Pairs.l1 kq a0 x6_2 t235 (rd t235 x26_1) t235 (t235.length : Int) x26_1 y239 (y239.length : Int) x36_2 = some (r1, r2)) ∧ Aside0 (kq ≤ k1) ∧ Aside0 (Kd.R (Kd.int .u64) 22 w' w.heap.size (fun _ => True) (.slice (some ad238) t235.length co6) t235) ∧ Aside0 (Kd.R (Kd.int .u64) 22 w' w.heap.size (fun _ => True) (.slice (some ad238) t235.length co6) t235) ∧ Aside0 (Kd.C (Kd.int .u64) w' A13 y239.length y239) ∧ Aside0 (Below w.heap.size w w'))
                  case atStart => exact ⟨(x6_1), (0), (by first | rfl | (simp; done) | (simp [*]; done)), (by first | rfl | (simp; done) | (simp [*]; done)), H', ⟨Nat.le_refl _⟩, ⟨by (with_reducible repeat (first | apply Kd.R_alloc | apply Kd.R_drewN | apply Kd.R_drew)); exact HO_7.out⟩, ⟨by (with_reducible repeat (first | apply Kd.R_alloc | apply Kd.R_drewN | apply Kd.R_drew)); exact HO_24.out⟩, ⟨by repeat (first | (with_reducible exact HR242.out) | (with_reducible refine Kd.C_alloc ?_ _) | (with_reducible refine Kd.C_drewN ?_ _) | (with_reducible refine Kd.C_drew ?_) | exact HR242.out)⟩, ⟨by repeat (first | (with_reducible first | exact HB.out | apply below_alloc | apply pw_below_drewN | apply below_drew1) | exact HB.out)⟩⟩
                  case round =>
                    clear H'
                    try clear c1
                    try clear q1
                    try clear p2
                    try clear q2
                    try clear hx2
                    try clear c3
                    try clear c3b0
                    try clear c3b1
                    try clear c5
                    try clear c6
                    try clear p6
                    try clear c7
                    try clear c7b0
                    try clear c8
                    try clear c8b0
                    try clear c9
                    try clear c9b0
                    try clear c11
                    try clear c11b0
                    try clear c11b1
                    try clear c12
                    try clear c12b0
                    try clear c12b1
                    try clear c13
                    try clear q13
                    try clear hx238_0
                    try clear p2
                    try clear p238
                    try clear q013
                    try clear q13
                    try clear q238
                    obtain ⟨x6_2, x36_2, rfl, rfl, HA, HK2, HO_7, HO_24, HR242, HB⟩ := hrel
                    cases gk with
                    | zero => exact absurd HA.out (by simp [medlarref12_Pairs.l1])
                    | succ k2 =>
                      have H := HA.out
                      clear HA
                      simp only [medlarref12_Pairs.l1] at H
                      by_cases c14 : x36_2 < (y239.length : Int)
                      · rw [if_pos c14] at H
                        have c14b0 : decide (x36_2 < (y239.length : Int)) = true := decide_eq_true c14
                        clear c14
                        by_cases c15 : 0 ≤ x36_2
                        · rw [if_pos c15] at H
                          have c15b0 : decide (0 ≤ x36_2) = true := decide_eq_true c15
                          clear c15
                          by_cases c16 : x36_2 < (y239.length : Int)
                          · rw [if_pos c16] at H
                            have c16b0 : decide (x36_2 < (y239.length : Int)) = true := decide_eq_true c16
                            clear c16
                            replace H := Option.bind_eq_some_iff.mp H
                            obtain ⟨⟨t244, t245⟩, A170, H⟩ := H
                            replace H : (if t244 = true then (medlarref12_Pairs.l1 k2 a0 (wrap64 (x6_2 + 1)) t235 (rd t235 x26_1) t235 (t235.length : Int) x26_1 y239 (y239.length : Int) (wrap64 (x36_2 + 1))) else (medlarref12_Pairs.l1 k2 a0 x6_2 t235 (rd t235 x26_1) t235 (t235.length : Int) x26_1 y239 (y239.length : Int) (wrap64 (x36_2 + 1)))) = some (r1, r2) := H
                            have A17 := Aside0.mk A170
                            clear A170
                            by_cases c18 : t244 = true
                            · subst c18
                              have H1 : (medlarref12_Pairs.l1 k2 a0 (wrap64 (x6_2 + 1)) t235 (rd t235 x26_1) t235 (t235.length : Int) x26_1 y239 (y239.length : Int) (wrap64 (x36_2 + 1))) = some (r1, r2) := by rw [if_pos rfl] at H; exact H
                              clear H
                              have H := H1
                              clear H1
                              have H' := Aside0.mk H
                              clear H
                              have p243 : 0 ≤ (x36_2 : Int) := of_decide_eq_true (by first | (with_reducible assumption) | assumption)
                              have q243 : x36_2 < (y239.length : Int) := of_decide_eq_true (by first | (with_reducible assumption) | assumption)
                              obtain ⟨ad243, e243, hx243_0⟩ := Kd.at_int HR242.out x36_2 p243 q243
                              cases e243
                              replace p243 := eq_true p243
                              replace q243 := eq_true q243
                              go_wp2_with (first | ((with_reducible refine gate_callee (f := 18) rfl ?_); refine goesL_ (some 46) rfl rfl Try.func18 (by kernel_rfl) rfl #[.int .i64 a0, .agg #[.int .u64 (rd t235 x26_1), .int .u64 (IntKind.u64.wrap ((rd y239 x36_2) + 1))]] rfl (by (try simp only [List.map_toArray, List.map_cons, List.map_nil]); first | done | rfl | (simp only [List.length_drop, List.length_take]; rfl)) ?_; (with_reducible refine (medlarref08_Useful.calls k2 a0 (rd t235 x26_1) (IntKind.u64.wrap ((rd y239 x36_2) + 1)) true t245 _ A17.out).mono ?_); rintro e w19 ⟨rfl, hb⟩; refine ⟨_, rfl, ?_⟩; have n0_ := Aside0.mk (Kd.R_below (by (with_reducible repeat (first | apply Kd.R_alloc | apply Kd.R_drewN | apply Kd.R_drew)); exact HO_7.out) hb); have n1_ := Aside0.mk (Kd.R_below (by (with_reducible repeat (first | apply Kd.R_alloc | apply Kd.R_drewN | apply Kd.R_drew)); exact HO_24.out) hb); have n2_ := Aside0.mk (Kd.C_below (by repeat (first | (with_reducible exact HR242.out) | (with_reducible refine Kd.C_alloc ?_ _) | (with_reducible refine Kd.C_drewN ?_ _) | (with_reducible refine Kd.C_drew ?_) | exact HR242.out)) hb); have n3_ := Aside0.mk (below_step (by repeat (first | (with_reducible first | exact HB.out | apply below_alloc | apply pw_below_drewN | apply below_drew1) | exact HB.out)) hb); clear HO_7; clear HO_24; clear HR242; clear HB; have HO_7 := n0_; have HO_24 := n1_; have HR242 := n2_; have HB := n3_; clear n0_ n1_ n2_ n3_; (try clear hb); (try clear hb2); (try clear hk); (try clear hi)))
                              go_roundg k2
                              case measure => have := HK1.out; have := HK2.out; omega
                              case rel => exact ⟨(wrap64 (x6_2 + 1)), (wrap64 (x36_2 + 1)), (by first | rfl | (simp; done) | (simp [*]; done)), (by first | rfl | (simp; done) | (simp [*]; done)), H', ⟨by have := HK1.out; have := HK2.out; omega⟩, ⟨by (with_reducible repeat (first | apply Kd.R_alloc | apply Kd.R_drewN | apply Kd.R_drew)); exact HO_7.out⟩, ⟨by (with_reducible repeat (first | apply Kd.R_alloc | apply Kd.R_drewN | apply Kd.R_drew)); exact HO_24.out⟩, ⟨by repeat (first | (with_reducible exact HR242.out) | (with_reducible refine Kd.C_alloc ?_ _) | (with_reducible refine Kd.C_drewN ?_ _) | (with_reducible refine Kd.C_drew ?_) | exact HR242.out)⟩, ⟨by repeat (first | (with_reducible first | exact HB.out | apply below_alloc | apply pw_below_drewN | apply below_drew1) | exact HB.out)⟩⟩
                            · replace c18 := Bool.eq_false_iff.mpr c18
                              subst c18
                              have H1 : (medlarref12_Pairs.l1 k2 a0 x6_2 t235 (rd t235 x26_1) t235 (t235.length : Int) x26_1 y239 (y239.length : Int) (wrap64 (x36_2 + 1))) = some (r1, r2) := by rw [if_neg (show ¬ (false = true) by decide)] at H; exact H
                              clear H
                              have H := H1
                              clear H1
                              have H' := Aside0.mk H
                              clear H
                              have p243 : 0 ≤ (x36_2 : Int) := of_decide_eq_true (by first | (with_reducible assumption) | assumption)
                              have q243 : x36_2 < (y239.length : Int) := of_decide_eq_true (by first | (with_reducible assumption) | assumption)
                              obtain ⟨ad243, e243, hx243_0⟩ := Kd.at_int HR242.out x36_2 p243 q243
                              cases e243
                              replace p243 := eq_true p243
                              replace q243 := eq_true q243
                              go_wp2_with (first | ((with_reducible refine gate_callee (f := 18) rfl ?_); refine goesL_ (some 46) rfl rfl Try.func18 (by kernel_rfl) rfl #[.int .i64 a0, .agg #[.int .u64 (rd t235 x26_1), .int .u64 (IntKind.u64.wrap ((rd y239 x36_2) + 1))]] rfl (by (try simp only [List.map_toArray, List.map_cons, List.map_nil]); first | done | rfl | (simp only [List.length_drop, List.length_take]; rfl)) ?_; (with_reducible refine (medlarref08_Useful.calls k2 a0 (rd t235 x26_1) (IntKind.u64.wrap ((rd y239 x36_2) + 1)) false t245 _ A17.out).mono ?_); rintro e w20 ⟨rfl, hb⟩; refine ⟨_, rfl, ?_⟩; have n0_ := Aside0.mk (Kd.R_below (by (with_reducible repeat (first | apply Kd.R_alloc | apply Kd.R_drewN | apply Kd.R_drew)); exact HO_7.out) hb); have n1_ := Aside0.mk (Kd.R_below (by (with_reducible repeat (first | apply Kd.R_alloc | apply Kd.R_drewN | apply Kd.R_drew)); exact HO_24.out) hb); have n2_ := Aside0.mk (Kd.C_below (by repeat (first | (with_reducible exact HR242.out) | (with_reducible refine Kd.C_alloc ?_ _) | (with_reducible refine Kd.C_drewN ?_ _) | (with_reducible refine Kd.C_drew ?_) | exact HR242.out)) hb); have n3_ := Aside0.mk (below_step (by repeat (first | (with_reducible first | exact HB.out | apply below_alloc | apply pw_below_drewN | apply below_drew1) | exact HB.out)) hb); clear HO_7; clear HO_24; clear HR242; clear HB; have HO_7 := n0_; have HO_24 := n1_; have HR242 := n2_; have HB := n3_; clear n0_ n1_ n2_ n3_; (try clear hb); (try clear hb2); (try clear hk); (try clear hi)))
                              go_roundg k2
                              case measure => have := HK1.out; have := HK2.out; omega
                              case rel => exact ⟨(x6_2), (wrap64 (x36_2 + 1)), (by first | rfl | (simp; done) | (simp [*]; done)), (by first | rfl | (simp; done) | (simp [*]; done)), H', ⟨by have := HK1.out; have := HK2.out; omega⟩, ⟨by (with_reducible repeat (first | apply Kd.R_alloc | apply Kd.R_drewN | apply Kd.R_drew)); exact HO_7.out⟩, ⟨by (with_reducible repeat (first | apply Kd.R_alloc | apply Kd.R_drewN | apply Kd.R_drew)); exact HO_24.out⟩, ⟨by repeat (first | (with_reducible exact HR242.out) | (with_reducible refine Kd.C_alloc ?_ _) | (with_reducible refine Kd.C_drewN ?_ _) | (with_reducible refine Kd.C_drew ?_) | exact HR242.out)⟩, ⟨by repeat (first | (with_reducible first | exact HB.out | apply below_alloc | apply pw_below_drewN | apply below_drew1) | exact HB.out)⟩⟩
                          · rw [if_neg c16] at H
                            exact absurd H (by simp)
                        · rw [if_neg c15] at H
                          exact absurd H (by simp)
                      · rw [if_neg c14] at H
                        have c14b0 : decide (x36_2 < (y239.length : Int)) = false := decide_eq_false c14
                        clear c14
                        have H' := Aside0.mk H
                        clear H
                        go_wp2
                        go_roundg k2
                        case measure => have := HK1.out; have := HK2.out; omega
                        case rel => exact ⟨(x6_2), (wrap64 (x26_1 + 1)), (by first | rfl | (simp; done) | (simp [*]; done)), (by first | rfl | (simp; done) | (simp [*]; done)), H', ⟨by have := HK1.out; have := HK2.out; omega⟩, ⟨by (with_reducible repeat (first | apply Kd.R_alloc | apply Kd.R_drewN | apply Kd.R_drew)); exact HO_7.out⟩, ⟨by (with_reducible repeat (first | apply Kd.R_alloc | apply Kd.R_drewN | apply Kd.R_drew)); exact HO_24.out⟩, ⟨by repeat (first | (with_reducible first | exact HB.out | apply below_alloc | apply pw_below_drewN | apply below_drew1) | exact HB.out)⟩⟩
                · rw [if_neg c12] at H
                  exact absurd H (by simp)
              · rw [if_neg c11] at H
                exact absurd H (by simp)
            · rw [if_neg c9] at H
              exact absurd H (by simp)
          · rw [if_neg c8] at H
            exact absurd H (by simp)
        · rw [if_neg c7] at H
          have c7b0 : decide (x26_1 < (t235.length : Int)) = false := decide_eq_false c7
          clear c7
          simp only [Option.some.injEq, Prod.mk.injEq] at H
          obtain ⟨rfl, rfl⟩ := H
          go_wp2
          go_ret2
          exact ⟨by first | rfl | (simp [errW_none, errW_some] <;> rfl) | (simp [*, errW_none, errW_some] <;> rfl), by repeat (first | (with_reducible first | exact HB.out | apply below_alloc | apply pw_below_drewN | apply below_drew1) | exact HB.out)⟩
  · rw [if_neg c3] at H
    have c3b0 : (t234 == 0) = false := beq_eq_false_iff_ne.mpr c3
    have c3b1 : (t234 != 0) = true := bne_iff_ne.mpr c3
    simp only [Option.some.injEq, Prod.mk.injEq] at H
    obtain ⟨rfl, rfl⟩ := H
    go_enter Try.func64, Try.ntmps64
    go_wp2_with (first | ((with_reducible refine gate_callee (f := 57) rfl ?_); refine goesL_ (some 16) rfl rfl Try.func57 (by kernel_rfl) rfl #[.int .i64 a0, .int .u64 0] rfl (by (try simp only [List.map_toArray, List.map_cons, List.map_nil]); first | done | rfl | (simp only [List.length_drop, List.length_take]; rfl)) ?_; (with_reducible refine (medlarref01_Leaf.calls k a0 0 t233 t234 _ A2.out).mono ?_); rintro e w' ⟨rfl, ⟨nd, rfl⟩⟩; refine ⟨_, rfl, ?_⟩))
    go_ret2
    exact ⟨by first | rfl | (simp [errW_none, errW_some] <;> rfl) | (simp [*, errW_none, errW_some] <;> rfl), by repeat (first | (with_reducible first | exact HB.out | apply below_alloc | apply pw_below_drewN | apply below_drew1) | exact HB.out)⟩

/-! ### medlarref14_Many: function 39 -/
def medlarref14_Many.j0 : Nat → Int → Int → Int → Bool → Option (Int × Int)
  | 0, _, _, _, _ => none
  | k + 1, x0, x1, x6, x22 => if x22 = true then (some (0, 1)) else (if x1 = 1 then (some (wrap64 (x0 + 1), 0)) else (if x1 = 2 then (some (wrap64 ((wrap64 (Int.tdiv (wrap64 (x0 * (wrap64 (x0 + 1)))) 2)) + 1), 0)) else (some (wrap64 (x6 + 1), 0))))
def medlarref14_Many.f (k : Nat) (a0 : Int) (a1 : Int) : Option (Int × Int) := (medlarref12_Pairs.f k a0).bind fun bt246 => (if bt246.2 = 0 then (if a1 < 1 then (medlarref14_Many.j0 k a0 a1 bt246.1 true) else (medlarref14_Many.j0 k a0 a1 bt246.1 (decide (a1 > 3)))) else (medlarref14_Many.j0 k a0 a1 bt246.1 true))
theorem medlarref14_Many.mono_l : ∀ k, (∀ y0 y1 y2 y3, LeO (medlarref14_Many.j0 k y0 y1 y2 y3) (medlarref14_Many.j0 (k + 1) y0 y1 y2 y3))
  | 0 => fun _ _ _ _ r h => by simp [medlarref14_Many.j0] at h
  | k + 1 => by
    have ih0 := medlarref14_Many.mono_l k
    · intro y0 y1 y2 y3
      unfold medlarref14_Many.j0
      repeat' first
      | (with_reducible exact ih0 _ _ _ _)
      | (with_reducible exact medlarref12_Pairs.mono _ _)
      | (with_reducible exact LeO.refl _)
      | (with_reducible exact LeO.none _)
      | (with_reducible refine LeO.ite ?_ ?_)
      | (with_reducible refine LeO.bind ?_ (fun _ => ?_))
      | exact ih0 _ _ _ _
      | exact medlarref12_Pairs.mono _ _
      | exact LeO.none _
      | refine LeO.ite ?_ ?_
      | refine LeO.bind ?_ (fun _ => ?_)
theorem medlarref14_Many.mono : ∀ a0 a1 k, LeO (medlarref14_Many.f k a0 a1) (medlarref14_Many.f (k + 1) a0 a1) := by
  intro a0 a1 k
  have ih0 := medlarref14_Many.mono_l k
  unfold medlarref14_Many.f
  repeat' first
      | (with_reducible exact ih0 _ _ _ _)
      | (with_reducible exact medlarref12_Pairs.mono _ _)
      | (with_reducible exact LeO.refl _)
      | (with_reducible exact LeO.none _)
      | (with_reducible refine LeO.ite ?_ ?_)
      | (with_reducible refine LeO.bind ?_ (fun _ => ?_))
      | exact ih0 _ _ _ _
      | exact medlarref12_Pairs.mono _ _
      | exact LeO.none _
      | refine LeO.ite ?_ ?_
      | refine LeO.bind ?_ (fun _ => ?_)
set_option maxHeartbeats 8000000 in
set_option maxRecDepth 100000 in
theorem medlarref14_Many.calls (k : Nat) (a0 : Int) (a1 : Int) (r1 : Int) (r2 : Int) (w : World) (h : medlarref14_Many.f k a0 a1 = some (r1, r2)) :
    Calls Try.prog 39 #[.int .i64 a0, .int .i64 a1] w fun e w' => e = .returned (.tuple #[.int .i64 r1, .int .i64 r2]) ∧ Below w.heap.size w w' := by
  have HB := Aside0.mk (Below.refl w.heap.size w)
  have H : ((medlarref12_Pairs.f k a0).bind fun bt246 => (if bt246.2 = 0 then (if a1 < 1 then (medlarref14_Many.j0 k a0 a1 bt246.1 true) else (medlarref14_Many.j0 k a0 a1 bt246.1 (decide (a1 > 3)))) else (medlarref14_Many.j0 k a0 a1 bt246.1 true))) = some (r1, r2) := h
  clear h
  replace H := Option.bind_eq_some_iff.mp H
  obtain ⟨⟨t246, t247⟩, A30, H⟩ := H
  replace H : (if t247 = 0 then (if a1 < 1 then (medlarref14_Many.j0 k a0 a1 t246 true) else (medlarref14_Many.j0 k a0 a1 t246 (decide (a1 > 3)))) else (medlarref14_Many.j0 k a0 a1 t246 true)) = some (r1, r2) := H
  have A3 := Aside0.mk A30
  clear A30
  have HC4 := Aside0.mk H
  clear H
  go_enter Try.func39, Try.ntmps39
  go_upto_region 2 with (first | ((with_reducible refine gate_callee (f := 64) rfl ?_); refine goesL_ (some 10) rfl rfl Try.func64 (by kernel_rfl) rfl #[.int .i64 a0] rfl (by (try simp only [List.map_toArray, List.map_cons, List.map_nil]); first | done | rfl | (simp only [List.length_drop, List.length_take]; rfl)) ?_; (with_reducible refine (medlarref12_Pairs.calls k a0 t246 t247 _ A3.out).mono ?_); rintro e w5 ⟨rfl, hb⟩; refine ⟨_, rfl, ?_⟩; have n0_ := Aside0.mk (below_step (by repeat (first | (with_reducible first | exact HB.out | apply below_alloc | apply pw_below_drewN | apply below_drew1) | exact HB.out)) hb); clear HB; have HB := n0_; clear n0_; (try clear hb); (try clear hb2); (try clear hk); (try clear hi)))
  (try simp only [Act.put, List.setIfInBounds_toArray, List.set_cons_zero, List.set_cons_succ])
  go_cut [22] (fun v22 wc => ∃ (kq : Nat) (x22_3 : Bool), v22 = .bool x22_3 ∧ Aside0 (medlarref14_Many.j0 kq a0 a1 t246 x22_3 = some (r1, r2)) ∧ Aside0 (kq ≤ k) ∧ Aside0 (Below w.heap.size w wc))
  case first =>
    have H := HC4.out
    clear HC4
    by_cases c6 : t247 = 0
    · rw [if_pos c6] at H
      have c6b0 : (t247 == 0) = true := beq_iff_eq.mpr c6
      have c6b1 : (t247 != 0) = false := bne_eq_false_iff_eq.mpr c6
      clear c6
      (first | rw [c6b0] | (simp only [i64_w, i32_w]; rw [c6b0]) | skip)
      by_cases c7 : a1 < 1
      · rw [if_pos c7] at H
        have c7b0 : decide (a1 < 1) = true := decide_eq_true c7
        clear c7
        have H' := Aside0.mk H
        clear H
        go_wp2
        go_meet
        case rel => exact ⟨_, (true), (by first | rfl | (simp; done) | (simp [*]; done)), H', ⟨by first | omega | exact Nat.le_refl _⟩, ⟨by repeat (first | (with_reducible first | exact HB.out | apply below_alloc | apply pw_below_drewN | apply below_drew1) | exact HB.out)⟩⟩
      · rw [if_neg c7] at H
        have c7b0 : decide (a1 < 1) = false := decide_eq_false c7
        clear c7
        have H' := Aside0.mk H
        clear H
        go_wp2
        go_meet
        case rel => exact ⟨_, (decide (a1 > 3)), (by first | rfl | (simp; done) | (simp [*]; done)), H', ⟨by first | omega | exact Nat.le_refl _⟩, ⟨by repeat (first | (with_reducible first | exact HB.out | apply below_alloc | apply pw_below_drewN | apply below_drew1) | exact HB.out)⟩⟩
    · rw [if_neg c6] at H
      have c6b0 : (t247 == 0) = false := beq_eq_false_iff_ne.mpr c6
      have c6b1 : (t247 != 0) = true := bne_iff_ne.mpr c6
      (first | rw [c6b0] | (simp only [i64_w, i32_w]; rw [c6b0]) | skip)
      have H' := Aside0.mk H
      clear H
      go_wp2
      go_meet
      case rel => exact ⟨_, (true), (by first | rfl | (simp; done) | (simp [*]; done)), H', ⟨by first | omega | exact Nat.le_refl _⟩, ⟨by repeat (first | (with_reducible first | exact HB.out | apply below_alloc | apply pw_below_drewN | apply below_drew1) | exact HB.out)⟩⟩
  case rest =>
    clear HC4
    try clear p2
    try clear c3
    try clear c6
    try clear c6b0
    try clear c6b1
    try clear c7
    try clear c7b0
    obtain ⟨kq, x22_3, rfl, HA, HJ3, HB⟩ := hcut
    cases kq with
    | zero => exact absurd HA.out (by simp [medlarref14_Many.j0])
    | succ kj3 =>
      have H := HA.out
      clear HA
      simp only [medlarref14_Many.j0] at H
      by_cases c8 : x22_3 = true
      · subst c8
        have H1 : (some (0, 1)) = some (r1, r2) := by rw [if_pos rfl] at H; exact H
        clear H
        have H := H1
        clear H1
        simp only [Option.some.injEq, Prod.mk.injEq] at H
        obtain ⟨rfl, rfl⟩ := H
        go_wp2
        go_ret2
        exact ⟨by first | rfl | (simp [errW_none, errW_some] <;> rfl) | (simp [*, errW_none, errW_some] <;> rfl), by repeat (first | (with_reducible first | exact HB.out | apply below_alloc | apply pw_below_drewN | apply below_drew1) | exact HB.out)⟩
      · replace c8 := Bool.eq_false_iff.mpr c8
        subst c8
        have H1 : (if a1 = 1 then (some (wrap64 (a0 + 1), 0)) else (if a1 = 2 then (some (wrap64 ((wrap64 (Int.tdiv (wrap64 (a0 * (wrap64 (a0 + 1)))) 2)) + 1), 0)) else (some (wrap64 (t246 + 1), 0)))) = some (r1, r2) := by rw [if_neg (show ¬ (false = true) by decide)] at H; exact H
        clear H
        have H := H1
        clear H1
        by_cases c9 : a1 = 1
        · rw [if_pos c9] at H
          have c9b0 : (a1 == 1) = true := beq_iff_eq.mpr c9
          have c9b1 : (a1 != 1) = false := bne_eq_false_iff_eq.mpr c9
          clear c9
          simp only [Option.some.injEq, Prod.mk.injEq] at H
          obtain ⟨rfl, rfl⟩ := H
          go_wp2
          go_ret2
          exact ⟨by first | rfl | (simp [errW_none, errW_some] <;> rfl) | (simp [*, errW_none, errW_some] <;> rfl), by repeat (first | (with_reducible first | exact HB.out | apply below_alloc | apply pw_below_drewN | apply below_drew1) | exact HB.out)⟩
        · rw [if_neg c9] at H
          have c9b0 : (a1 == 1) = false := beq_eq_false_iff_ne.mpr c9
          have c9b1 : (a1 != 1) = true := bne_iff_ne.mpr c9
          by_cases c10 : a1 = 2
          · rw [if_pos c10] at H
            have c10b0 : (a1 == 2) = true := beq_iff_eq.mpr c10
            have c10b1 : (a1 != 2) = false := bne_eq_false_iff_eq.mpr c10
            clear c10
            simp only [Option.some.injEq, Prod.mk.injEq] at H
            obtain ⟨rfl, rfl⟩ := H
            go_wp2
            go_ret2
            exact ⟨by first | rfl | (simp [errW_none, errW_some] <;> rfl) | (simp [*, errW_none, errW_some] <;> rfl), by repeat (first | (with_reducible first | exact HB.out | apply below_alloc | apply pw_below_drewN | apply below_drew1) | exact HB.out)⟩
          · rw [if_neg c10] at H
            have c10b0 : (a1 == 2) = false := beq_eq_false_iff_ne.mpr c10
            have c10b1 : (a1 != 2) = true := bne_iff_ne.mpr c10
            simp only [Option.some.injEq, Prod.mk.injEq] at H
            obtain ⟨rfl, rfl⟩ := H
            go_wp2
            go_ret2
            exact ⟨by first | rfl | (simp [errW_none, errW_some] <;> rfl) | (simp [*, errW_none, errW_some] <;> rfl), by repeat (first | (with_reducible first | exact HB.out | apply below_alloc | apply pw_below_drewN | apply below_drew1) | exact HB.out)⟩

end Go.Proofs.Ytccmoohcpaohmaa.MP
