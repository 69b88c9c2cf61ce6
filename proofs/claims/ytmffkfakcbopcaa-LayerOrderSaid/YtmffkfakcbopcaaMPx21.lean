-- written by a program of this session (wip/tools/mprint.sh) for this seat
import Derived.Test.YtmffkfakcbopcaaMPx0
import Derived.Test.YtmffkfakcbopcaaMPx2
import Derived.Test.YtmffkfakcbopcaaMPx13
namespace Go.Proofs.Ytmffkfakcbopcaa.MP
open Go.RowKit Go.Proofs.YtmffkfakcbopcaaW.PrintWords Go.Proofs.YtmffkfakcbopcaaW.PrintLast Go.Proofs.YtmffkfakcbopcaaW.PrintMore
attribute [local go_sem] max2_int min2_int max_two min_two max_three min_three max_four min_four   -- for this text's walks alone
set_option linter.unusedVariables false
set_option linter.unusedSimpArgs false

/-! ### steiner_Hang: function 67 -/
def steiner_Hang1.f (_k : Nat) (x : List Int) (_n : Int) (y : List Int) : Option (List Int) := if x.length + y.length < 17592186044416 then some (x ++ y) else none
theorem results_cell_tmp {P : Program} {tmps : Array Value} {w : World} {fn : Func} {p u : Tmp} {ty : TypeId} {a : Addr} {v : Value} (h : fn.results = #[.cell p ty, .tmp u]) (hp : tmps.getD p undef = .pointer (some a)) (hv : (loadVar ty a).run P w = .ok v w) : (results fn tmps).run P w = .ok (.tuple #[v, tmps.getD u undef]) w := by
  unfold results
  rw [h]
  have hp2 : tmps[p]?.getD undef = .pointer (some a) := by simpa using hp
  simp [asAddr, hp2, hv]
theorem R_boxset {e base b T : Nat} {ok : Nat → Prop} {W : World} {v u : Value} {xs : List Int} {cs : Array Value} (h : Kd.R (Kd.int .u64) e W base ok v xs) (hx : W.heap[b]? = some (.cells cs T (0, 0))) (hT : e ≠ T) : Kd.R (Kd.int .u64) e (W.setCell ⟨b, 0, none⟩ u) base ok v xs := by
  refine Kd.R_mono (Kd.R_move (Kd.R_bound h) ?_) (fun k_ hk => hk.1)
  rintro k_ ⟨_, _, _, q, hq, cells, hc⟩
  refine Below.heap_setCell W _ u k_ ?_
  rintro rfl
  rw [hx] at hc
  simp only [Option.some.injEq, Obj.cells.injEq] at hc
  simp [Kd.int, Kd.scalar] at hq
  exact hT (hq.symm.trans hc.2.1.symm)
set_option maxHeartbeats 8000000 in
set_option maxRecDepth 100000 in
theorem steiner_Hang1.calls (b : Nat) (w W : World) (v : Value) (x : List Int) (n : Int) (A : Option Addr) (c : Nat) (y x' : List Int) (hB : Below b w W) (hx : W.heap[b]? = some (.cells #[v] 22 (0, 0))) (hv : Kd.R (Kd.int .u64) 28 W b (fun _ => True) v x) (hy : Kd.C (Kd.int .u64) W A y.length y) (hyc : y.length ≤ c) (h : steiner_Hang1.f 0 x n y = some x') :
    Calls Try.prog 110 #[.int .u64 n, .slice A y.length c, .pointer (some ⟨b, 0, none⟩)] W fun e W' => e = .returned (.tuple #[]) ∧ ∃ v' : Value, W'.heap[b]? = some (.cells #[v'] 22 (0, 0)) ∧ Kd.R (Kd.int .u64) 28 W' b (fun k_ => some k_ = v.ownBlock ∨ W.heap.size ≤ k_) v' x' ∧ Below b w W' ∧ Kept W W' (fun k_ => k_ = b ∨ some k_ = v.ownBlock) := by
  have hl : x.length + y.length < 17592186044416 := by
    by_cases c : x.length + y.length < 17592186044416
    · exact c
    · simp [steiner_Hang1.f, c] at h
  obtain rfl : x ++ y = x' := by simpa [steiner_Hang1.f, hl] using h
  clear h
  have HV := Aside0.mk (Kd.R_mono (Kd.R_tight rfl hv) (ok' := fun k_ => some k_ = v.ownBlock ∨ W.heap.size ≤ k_) (fun _ hk => .inl hk))
  have HX := Aside0.mk hx
  have HY := Aside0.mk hy
  have HB := Aside0.mk hB
  have HL := Aside0.mk hl
  have hc0 := cell_of_one hx
  have HNE := Aside0.mk (Kd.R_ne hv hx (by decide))
  have HBS := Aside0.mk (Nat.le_of_lt (blk_lt hx))
  clear hv hx hy hB hl
  go_enter Try.func110, Try.ntmps110
  go_wp2_with (first | (at_builtin; refine Kd.R_append_rows (Kd.int .u64) (w0 := w) b rfl (.tmp 5) (.tmp 6) 22 28 (.int .u64 0) 8 rfl Try.underlying22 info28 rfl (by decide) (by omega) v x y _ _ _ (fun k_ => some k_ = v.ownBlock ∨ W.heap.size ≤ k_) (fun _ => False) rfl rfl HV.out HY.out (fun _ _ h => h) (fun _ h => h.elim) (fun _ hk => .inr hk) HB.out HBS.out (by have := HL.out; omega) ?_; intro v1 w1 ho hb hg hat; have hx1 := box_grown HX.out hg HNE.out; have hc1 := cell_of_one hx1; have hf1 := free_of_one hx1; have HO := Aside0.mk ho; have HB1 := Aside0.mk hb; have HG := Aside0.mk hg; have HX1 := Aside0.mk hx1; clear ho hb hg hat hx1 hc0; obtain ⟨A1, c1, e1⟩ := Kd.R_slice HO.out; subst e1))
  go_end0
  have HO2 := HO.out
  rw [List.length_append] at HO2
  exact ⟨rfl, _, one_setCell HX1.out, R_boxset HO2 HX1.out (by decide), HB1.out.setCell (Nat.le_refl b) _, Kept.setCell (Kept.of_grown HG.out (Kept.refl _ _) (fun k_ hk => .inl (.inr hk.symm))) (.inl (.inl rfl)) _⟩
theorem steiner_Hang1.mono : ∀ a b c k, LeO (steiner_Hang1.f k a b c) (steiner_Hang1.f (k + 1) a b c) := fun _ _ _ _ => LeO.refl _
def steiner_Hang.f (k : Nat) (a0 : Int) (l1 : List Int) : Option (List Int × Int) := (leaf_Check.f k a0 l1).bind fun t => if t = 0 then (if (l1.length : Int) = 0 then some ([1], 0) else steiner_children.f steiner_Hang1.f k a0 l1) else steiner_children.f steiner_Hang1.f k a0 l1
theorem steiner_Hang.mono : ∀ a0 a1 k, LeO (steiner_Hang.f k a0 a1) (steiner_Hang.f (k + 1) a0 a1) := by
  intro a0 a1 k
  unfold steiner_Hang.f
  repeat' first
      | (with_reducible exact leaf_Check.mono _ _ _)
      | (with_reducible exact steiner_children.mono _ steiner_Hang1.mono _ _ _)
      | (with_reducible exact LeO.refl _)
      | (with_reducible exact LeO.none _)
      | (with_reducible refine LeO.ite ?_ ?_)
      | (with_reducible refine LeO.bind ?_ (fun _ => ?_))
set_option maxHeartbeats 8000000 in
set_option maxRecDepth 100000 in
theorem steiner_Hang.calls (k : Nat) (a0 : Int) (A1 : Option Addr) (c1 : Nat) (l1 : List Int) (r1 : List Int) (r2 : Int) (w : World) (hr1 : Kd.C (Kd.int .u64) w A1 l1.length l1) (hc1 : l1.length ≤ c1) (h : steiner_Hang.f k a0 l1 = some (r1, r2)) :
    Calls Try.prog 67 #[.int .i64 a0, .slice A1 l1.length c1] w fun e w' => ∃ v0_ : Value, e = .returned (.tuple #[v0_, .int .i64 r2]) ∧ Kd.R (Kd.int .u64) 28 w' w.heap.size (fun _ => True) v0_ r1 ∧ Below w.heap.size w w' := by
  have HR1 := Aside0.mk hr1
  have HC1 := Aside0.mk hc1
  clear hr1 hc1
  have hmf : ∀ (fn : Fn) (first cap : Array Value) (w : World), (Instr.makeFunc fn first cap).run Try.prog w = .ok (.func fn first cap) w := fun _ _ _ _ => rfl
  have hx0 : (w.alloc (.cells #[.slice none 0 0] 22)).heap[w.heap.size]? = some (.cells #[.slice none 0 0] 22 (0, 0)) := blk_new _ _
  have HX := Aside0.mk hx0
  have hc0 := cell_of_one hx0
  have hf0 := free_of_one hx0
  clear hx0
  obtain ⟨t, A30, H⟩ := Option.bind_eq_some_iff.mp h
  clear h
  replace H : (if t = 0 then (if (l1.length : Int) = 0 then some ([1], 0) else steiner_children.f steiner_Hang1.f k a0 l1) else steiner_children.f steiner_Hang1.f k a0 l1) = some (r1, r2) := H
  have A3 := Aside0.mk A30
  clear A30
  have key : ∀ W : World, Kd.C (Kd.int .u64) W A1 l1.length l1 → W.heap[w.heap.size]? = some (.cells #[.slice none 0 0] 22 (0, 0)) → steiner_children.f steiner_Hang1.f k a0 l1 = some (r1, r2) → Calls Try.prog 58 #[.int .i64 a0, .slice A1 l1.length c1, .func (.func 110) #[] #[.pointer (some ⟨w.heap.size, 0, none⟩)]] W fun e w' => e = .returned (.int .i64 r2) ∧ ∃ v0_ : Value, w'.heap[w.heap.size]? = some (.cells #[v0_] 22 (0, 0)) ∧ Kd.R (Kd.int .u64) 28 w' w.heap.size (fun _ => True) v0_ r1 ∧ Below w.heap.size W w' := fun W hr hx hh =>
    steiner_children.calls steiner_Hang1.f k a0 A1 c1 l1 r1 r2 W hr HC1.out 110 _ _ w.heap.size Try.func110 (by kernel_rfl) rfl hx (fun k W2 v x n A c y x' h1 h2 h3 h4 h5 h6 => steiner_Hang1.calls w.heap.size W W2 v x n A c y x' h1 h2 h3 h4 h5 h6) hh
  have KEY := Aside0.mk key
  clear key
  by_cases c4 : t = 0
  · rw [if_pos c4] at H
    have c4b0 : (t == 0) = true := beq_iff_eq.mpr c4
    clear c4
    by_cases c5 : (l1.length : Int) = 0
    · rw [if_pos c5] at H
      have c5b0 : ((l1.length : Int) == 0) = true := beq_iff_eq.mpr c5
      clear c5
      simp only [Option.some.injEq, Prod.mk.injEq] at H
      obtain ⟨rfl, rfl⟩ := H
      go_enter Try.func67, Try.ntmps67
      go_wp2_with (first | ((with_reducible refine gate_callee (f := 55) rfl ?_); refine goesL_ (some 9) rfl rfl Try.func55 (by kernel_rfl) rfl #[.int .i64 a0, .slice A1 l1.length c1] rfl (by (try simp only [List.map_toArray, List.map_cons, List.map_nil]); first | done | rfl) ?_; (with_reducible refine (leaf_Check.calls k a0 _ _ l1 t _ ?side1 ?side2 A3.out).mono ?_); (case side1 => repeat (first | exact HR1.out | (with_reducible refine Kd.C_alloc ?_ _) | (with_reducible refine Kd.C_drewN ?_ _) | (with_reducible refine Kd.C_drew ?_))); (case side2 => exact HC1.out); rintro e w' ⟨rfl, ⟨nd, rfl⟩⟩; refine ⟨_, rfl, ?_⟩))
      have hsz : (((w.alloc (.cells #[.slice none 0 0] 22)).drewN nd).setCell ⟨w.heap.size, 0, none⟩ (.slice (some ⟨w.heap.size + 1, 0, none⟩) 1 1)).heap.size = w.heap.size + 1 := by simp
      have hbA := one_setCell (u := .slice (some ⟨w.heap.size + 1, 0, none⟩) 1 1) (show ((w.alloc (.cells #[.slice none 0 0] 22)).drewN nd).heap[w.heap.size]? = some (.cells #[.slice none 0 0] 22 (0, 0)) from HX.out)
      have hcA := cell_of_one (box_alloc hbA (.cells #[.int .u64 1] 28))
      have hrA := World.ownsRow_lit (base := w.heap.size) (e := 28) (size := 1) (((w.alloc (.cells #[.slice none 0 0] 22)).drewN nd).setCell ⟨w.heap.size, 0, none⟩ (.slice (some ⟨w.heap.size + 1, 0, none⟩) 1 1)) #[.int .u64 1] 1 (by rw [hsz]; omega) (by simp only [maxLen]; omega) rfl
      rw [hsz] at hrA
      have HRA := Aside0.mk hrA
      clear hrA hsz hbA
      refine bodyPost_ret (results_cell_tmp rfl rfl (v := .slice (some ⟨w.heap.size + 1, 0, none⟩) 1 1) (by go_simp)) rfl ?_
      exact ⟨_, rfl, Kd.R_of_own (enc := Value.int .u64) (h1 := fun _ => rfl) (xs := [1]) HRA.out (fun _ _ => trivial), below_alloc ((pw_below_drewN (below_alloc (Below.refl w.heap.size w) _) nd).setCell (Nat.le_refl _) _) _⟩
    · rw [if_neg c5] at H
      have c5b0 : ((l1.length : Int) == 0) = false := beq_eq_false_iff_ne.mpr c5
      clear c5
      have H' := Aside0.mk H
      clear H
      go_enter Try.func67, Try.ntmps67
      go_wp2_with (first | ((with_reducible refine gate_callee (f := 55) rfl ?_); refine goesL_ (some 9) rfl rfl Try.func55 (by kernel_rfl) rfl #[.int .i64 a0, .slice A1 l1.length c1] rfl (by (try simp only [List.map_toArray, List.map_cons, List.map_nil]); first | done | rfl) ?_; (with_reducible refine (leaf_Check.calls k a0 _ _ l1 t _ ?side1 ?side2 A3.out).mono ?_); (case side1 => repeat (first | exact HR1.out | (with_reducible refine Kd.C_alloc ?_ _) | (with_reducible refine Kd.C_drewN ?_ _) | (with_reducible refine Kd.C_drew ?_))); (case side2 => exact HC1.out); rintro e w' ⟨rfl, ⟨nd, rfl⟩⟩; refine ⟨_, rfl, ?_⟩) | ((with_reducible refine gate_callee (f := 58) rfl ?_); refine goesL_ (some 20) rfl rfl Try.func58 (by kernel_rfl) rfl #[.int .i64 a0, .slice A1 l1.length c1, .func (.func 110) #[] #[.pointer (some ⟨w.heap.size, 0, none⟩)]] rfl (by (try simp only [List.map_toArray, List.map_cons, List.map_nil]); first | done | rfl) ?_; refine (KEY.out _ ?s1 ?s2 H'.out).mono ?_; (case s1 => repeat (first | exact HR1.out | (with_reducible refine Kd.C_alloc ?_ _) | (with_reducible refine Kd.C_drewN ?_ _) | (with_reducible refine Kd.C_drew ?_))); (case s2 => exact HX.out); rintro e w5 ⟨rfl, v0, hx, ho, hb⟩; refine ⟨_, rfl, ?_⟩; have hc1 := cell_of_one hx; have hf1 := free_of_one hx; have HX2 := Aside0.mk hx; have HO := Aside0.mk ho; have HB := Aside0.mk (Below.trans (pw_below_drewN (below_alloc (Below.refl w.heap.size w) (.cells #[.slice none 0 0] 22)) nd) hb); clear hx ho hb; obtain ⟨Ao, co, eo⟩ := Kd.R_slice HO.out; subst eo))
      have hcB := cell_of_one (one_setCell (u := .slice Ao r1.length co) HX2.out)
      refine bodyPost_ret (results_cell_tmp rfl rfl (v := .slice Ao r1.length co) (by go_simp)) rfl ?_
      exact ⟨_, rfl, R_boxset HO.out HX2.out (by decide), HB.out.setCell (Nat.le_refl _) _⟩
  · rw [if_neg c4] at H
    have c4b0 : (t == 0) = false := beq_eq_false_iff_ne.mpr c4
    clear c4
    have H' := Aside0.mk H
    clear H
    go_enter Try.func67, Try.ntmps67
    go_wp2_with (first | ((with_reducible refine gate_callee (f := 55) rfl ?_); refine goesL_ (some 9) rfl rfl Try.func55 (by kernel_rfl) rfl #[.int .i64 a0, .slice A1 l1.length c1] rfl (by (try simp only [List.map_toArray, List.map_cons, List.map_nil]); first | done | rfl) ?_; (with_reducible refine (leaf_Check.calls k a0 _ _ l1 t _ ?side1 ?side2 A3.out).mono ?_); (case side1 => repeat (first | exact HR1.out | (with_reducible refine Kd.C_alloc ?_ _) | (with_reducible refine Kd.C_drewN ?_ _) | (with_reducible refine Kd.C_drew ?_))); (case side2 => exact HC1.out); rintro e w' ⟨rfl, ⟨nd, rfl⟩⟩; refine ⟨_, rfl, ?_⟩) | ((with_reducible refine gate_callee (f := 58) rfl ?_); refine goesL_ (some 20) rfl rfl Try.func58 (by kernel_rfl) rfl #[.int .i64 a0, .slice A1 l1.length c1, .func (.func 110) #[] #[.pointer (some ⟨w.heap.size, 0, none⟩)]] rfl (by (try simp only [List.map_toArray, List.map_cons, List.map_nil]); first | done | rfl) ?_; refine (KEY.out _ ?s1 ?s2 H'.out).mono ?_; (case s1 => repeat (first | exact HR1.out | (with_reducible refine Kd.C_alloc ?_ _) | (with_reducible refine Kd.C_drewN ?_ _) | (with_reducible refine Kd.C_drew ?_))); (case s2 => exact HX.out); rintro e w5 ⟨rfl, v0, hx, ho, hb⟩; refine ⟨_, rfl, ?_⟩; have hc1 := cell_of_one hx; have hf1 := free_of_one hx; have HX2 := Aside0.mk hx; have HO := Aside0.mk ho; have HB := Aside0.mk (Below.trans (pw_below_drewN (below_alloc (Below.refl w.heap.size w) (.cells #[.slice none 0 0] 22)) nd) hb); clear hx ho hb; obtain ⟨Ao, co, eo⟩ := Kd.R_slice HO.out; subst eo))
    have hcB := cell_of_one (one_setCell (u := .slice Ao r1.length co) HX2.out)
    refine bodyPost_ret (results_cell_tmp rfl rfl (v := .slice Ao r1.length co) (by go_simp)) rfl ?_
    exact ⟨_, rfl, R_boxset HO.out HX2.out (by decide), HB.out.setCell (Nat.le_refl _) _⟩

set_option maxHeartbeats 8000000 in
set_option maxRecDepth 100000 in
theorem whole_Cover1.calls (n : Int) (w : World) : Calls Try.prog 69 #[.int .u64 n] w fun e w' => e = .returned (.agg #[.int .u64 n, .int .u64 0]) ∧ Below w.heap.size w w' := by
  have hu := Try.underlying34
  have hb0 := blk_new w (.cells #[.int .u64 0, .int .u64 0] 34)
  have hz0 := blk_cell hb0 0
  have hz1 := blk_cell hb0 1
  have hy0 := blk_frozen hb0 0
  have hy1 := blk_frozen hb0 1
  simp at hz0 hz1 hy0 hy1
  go_enter Try.func69, Try.ntmps69
  go_wp2
  refine bodyPost_ret (v := .agg #[.int .u64 n, .int .u64 0]) (by simp [results, Try.f69, go_sem]) rfl ⟨rfl, ?_⟩
  exact below_alloc (Below.refl _ _) _
/-! ### api_Subset_68: function 68 -/
def api_Subset_68.l0 : Nat → List (S34) → List Int → Int → Int → Option ((List (S34)))
  | 0, _, _, _, _ => none
  | k + 1, x5, x11, x12, x13 => if x13 < x12 then (if 0 ≤ x13 then (if x13 < (x11.length : Int) then (if x13 < (x5.length : Int) then (api_Subset_68.l0 k (x5.set (x13 : Int).toNat (⟨rd x11 x13, 0⟩ : S34)) x11 x12 (wrap64 (x13 + 1))) else (none)) else (none)) else (none)) else (some x5)
def api_Subset_68.f (k : Nat) (l0 : List Int) : Option ((List (S34))) := if 0 ≤ (l0.length : Int) then (if ((l0.length : Int) : Int).toNat ≤ 17592186044416 then (api_Subset_68.l0 k (List.replicate ((l0.length : Int) : Int).toNat z34) l0 (l0.length : Int) 0) else (none)) else (none)
theorem api_Subset_68.mono_l : ∀ k, (∀ y0 y1 y2 y3, LeO (api_Subset_68.l0 k y0 y1 y2 y3) (api_Subset_68.l0 (k + 1) y0 y1 y2 y3))
  | 0 => fun _ _ _ _ r h => by simp [api_Subset_68.l0] at h
  | k + 1 => by
    have ih0 := api_Subset_68.mono_l k
    · intro y0 y1 y2 y3
      unfold api_Subset_68.l0
      repeat' first
      | (with_reducible exact ih0 _ _ _ _)
      | (with_reducible exact LeO.refl _)
      | (with_reducible exact LeO.none _)
      | (with_reducible refine LeO.ite ?_ ?_)
      | (with_reducible refine LeO.bind ?_ (fun _ => ?_))
      | exact ih0 _ _ _ _
      | exact LeO.none _
      | refine LeO.ite ?_ ?_
      | refine LeO.bind ?_ (fun _ => ?_)
theorem api_Subset_68.mono : ∀ a0 k, LeO (api_Subset_68.f k a0) (api_Subset_68.f (k + 1) a0) := by
  intro a0 k
  have ih0 := api_Subset_68.mono_l k
  unfold api_Subset_68.f
  repeat' first
      | (with_reducible exact ih0 _ _ _ _)
      | (with_reducible exact LeO.refl _)
      | (with_reducible exact LeO.none _)
      | (with_reducible refine LeO.ite ?_ ?_)
      | (with_reducible refine LeO.bind ?_ (fun _ => ?_))
      | exact ih0 _ _ _ _
      | exact LeO.none _
      | refine LeO.ite ?_ ?_
      | refine LeO.bind ?_ (fun _ => ?_)
set_option maxHeartbeats 8000000 in
set_option maxRecDepth 100000 in
theorem api_Subset_68.calls (k : Nat) (A0 : Option Addr) (c0 : Nat) (l0 : List Int) (r : List (S34)) (w : World) (hr0 : Kd.C (Kd.int .u64) w A0 l0.length l0) (hc0 : l0.length ≤ c0) (h : api_Subset_68.f k l0 = some r) :
    Calls Try.prog 68 #[.slice A0 l0.length c0, .func (.func 69) #[] #[]] w fun e w' => ∃ v0_ : Value, e = .returned (v0_) ∧ Kd.R k34 34 w' w.heap.size (fun _ => True) v0_ r ∧ Below w.heap.size w w' := by
  have hu34 := Try.underlying34
  have HR0 := Aside0.mk hr0
  have HC0 := Aside0.mk hc0
  clear hr0 hc0
  have HB := Aside0.mk (Below.refl w.heap.size w)
  have H : (if 0 ≤ (l0.length : Int) then (if ((l0.length : Int) : Int).toNat ≤ 17592186044416 then (api_Subset_68.l0 k (List.replicate ((l0.length : Int) : Int).toNat z34) l0 (l0.length : Int) 0) else (none)) else (none)) = some r := h
  clear h
  by_cases c2 : 0 ≤ (l0.length : Int)
  · rw [if_pos c2] at H
    have c2b0 := eq_true c2
    have c2b1 : decide (0 ≤ (l0.length : Int)) = true := decide_eq_true c2
    clear c2
    by_cases c3 : ((l0.length : Int) : Int).toNat ≤ 17592186044416
    · rw [if_pos c3] at H
      have c3b0 := eq_true c3
      have c3b1 : decide (((l0.length : Int) : Int).toNat ≤ 17592186044416) = true := decide_eq_true c3
      clear c3
      obtain ⟨y546, hy546⟩ : ∃ y_ : List (S34), y_ = (List.replicate ((l0.length : Int) : Int).toNat z34) := ⟨_, rfl⟩
      replace H : (api_Subset_68.l0 k y546 l0 (l0.length : Int) 0) = some r := by first | (rw [hy546]; with_reducible exact H) | (have H2_ := (Option.bind_some _ _).symm.trans H; rw [hy546]; with_reducible exact H2_) | (have H2_ := (Option.bind_some _ _).symm.trans H; with_reducible exact H2_) | with_reducible exact H | (rw [hy546]; exact H) | exact H
      have Ny546 := Aside0.mk hy546
      clear hy546
      have H' := Aside0.mk H
      clear H
      go_enter Try.func68, Try.ntmps68
      go_wp2_with (first | ((with_reducible refine gate_dst (N := 10) rfl ?_); refine Kd.R_make k34 _ 34 rfl (N := 10) rfl 24 _ _ rfl (l0.length : Int) rfl rfl Try.underlying24 (.agg #[(.int .u64 0), (.int .u64 0)]) 16 info34 rfl (by decide) (by omega) z34 (ok := fun _ => True) (okp := fun _ => True) (k34_mkM _ _ _ z34 ) (fun _ hk => hk) trivial (of_decide_eq_true (by first | (with_reducible assumption) | assumption)) (Nat.le_trans (Nat.mul_le_mul_right _ (of_decide_eq_true (by first | (with_reducible assumption) | assumption) : (l0.length : Int).toNat ≤ 17592186044416)) (by omega)) (Below.refl _ _) (Nat.le_refl _) ?_; intro v547 w4 ho5 hb hg_ hnew_; clear hg_ hnew_; (first | rw [← Ny546.out] at ho5 | (simp only [Int.reduceToNat] at ho5; rw [← Ny546.out] at ho5)); have n0_ := Aside0.mk (Kd.R_lower ho5 (below_size (by repeat (first | (with_reducible first | exact HB.out | apply below_alloc | apply pw_below_drewN | apply below_drew1) | exact HB.out)))); have n1_ := Aside0.mk (below_step (by repeat (first | (with_reducible first | exact HB.out | apply below_alloc | apply pw_below_drewN | apply below_drew1) | exact HB.out)) hb); clear HB; have HO548 := n0_; have HB := n1_; clear n0_ n1_; clear hb ho5))
      go_loopg [13] k (fun kq v13 w' => ∃ (x5_1 : List (S34)) (x13_1 : Int), v13 = .int .i64 x13_1 ∧ Aside0 (api_Subset_68.l0 kq x5_1 l0 (l0.length : Int) x13_1 = some r) ∧ Aside0 (kq ≤ k) ∧ Aside0 (Kd.R k34 34 w' w.heap.size (fun _ => True) v547 x5_1) ∧ Aside0 (Below w.heap.size w w'))
      case atStart => exact ⟨(y546), (0), (by first | rfl | (simp; done) | (simp [*]; done)), H', ⟨Nat.le_refl _⟩, ⟨by (with_reducible repeat (first | apply Kd.R_alloc | apply Kd.R_drewN | apply Kd.R_drew)); exact HO548.out⟩, ⟨by repeat (first | (with_reducible first | exact HB.out | apply below_alloc | apply pw_below_drewN | apply below_drew1) | exact HB.out)⟩⟩
      case round =>
        clear H'
        try clear c2
        try clear c2b0
        try clear c2b1
        try clear p2
        try clear c3
        try clear c3b0
        try clear c3b1
        obtain ⟨x5_1, x13_1, rfl, HA, HK1, HO_5, HB⟩ := hrel
        cases gk with
        | zero => exact absurd HA.out (by simp [api_Subset_68.l0])
        | succ k1 =>
          have H := HA.out
          clear HA
          simp only [api_Subset_68.l0] at H
          by_cases c6 : x13_1 < (l0.length : Int)
          · rw [if_pos c6] at H
            have c6b0 : decide (x13_1 < (l0.length : Int)) = true := decide_eq_true c6
            clear c6
            by_cases c7 : 0 ≤ x13_1
            · rw [if_pos c7] at H
              have c7b0 : decide (0 ≤ x13_1) = true := decide_eq_true c7
              clear c7
              by_cases c8 : x13_1 < (l0.length : Int)
              · rw [if_pos c8] at H
                have c8b0 : decide (x13_1 < (l0.length : Int)) = true := decide_eq_true c8
                clear c8
                by_cases c9 : x13_1 < (x5_1.length : Int)
                · rw [if_pos c9] at H
                  have c9b0 : decide (x13_1 < (x5_1.length : Int)) = true := decide_eq_true c9
                  clear c9
                  obtain ⟨y550, hy550⟩ : ∃ y_ : List (S34), y_ = (x5_1.set (x13_1 : Int).toNat (⟨rd l0 x13_1, 0⟩ : S34)) := ⟨_, rfl⟩
                  replace H : (api_Subset_68.l0 k1 y550 l0 (l0.length : Int) (wrap64 (x13_1 + 1))) = some r := by first | (rw [hy550]; with_reducible exact H) | (have H2_ := (Option.bind_some _ _).symm.trans H; rw [hy550]; with_reducible exact H2_) | (have H2_ := (Option.bind_some _ _).symm.trans H; with_reducible exact H2_) | with_reducible exact H | (rw [hy550]; exact H) | exact H
                  have Ny550 := Aside0.mk hy550
                  clear hy550
                  have H' := Aside0.mk H
                  clear H
                  have p549 : 0 ≤ (x13_1 : Int) := of_decide_eq_true (by first | (with_reducible assumption) | assumption)
                  have q549 : x13_1 < (l0.length : Int) := of_decide_eq_true (by first | (with_reducible assumption) | assumption)
                  obtain ⟨ad549, e549, hx549_0⟩ := Kd.at_int HR0.out x13_1 p549 q549
                  cases e549
                  replace hx549_0 := (HB.out.cell (World.block_lt_of_cell? w _ hx549_0)).trans hx549_0
                  replace p549 := eq_true p549
                  replace q549 := eq_true q549
                  have p10 : 0 ≤ (x13_1 : Int) := of_decide_eq_true (by first | (with_reducible assumption) | assumption)
                  have q10 : (x13_1 : Int) < ((x5_1.length : Int) : Int) := of_decide_eq_true (by first | (with_reducible assumption) | assumption)
                  obtain ⟨go10, co10, eo10, gb10, gl10, cl10, HG10⟩ := Kd.R_form HO_5.out (by omega)
                  (first | cases eo10 | (injection eo10 with ea_ en_ ec_; (first | subst ea_ | (injection ea_ with ea_; subst ea_)); subst ec_; clear en_))
                  have GB10 := Aside0.mk gb10
                  have GG10 := Aside0.mk HG10
                  clear gb10 gl10 HG10
                  go_wp2_with (first | ((with_reducible refine gate_closure (x := .tmp 20) (xs_ := #[.tmp 21]) rfl ?_); refine goesC_ (some 22) rfl rfl Try.func69 (by kernel_rfl) rfl #[.int .u64 (rd l0 x13_1)] rfl rfl (by (try simp only [List.map_toArray, List.map_cons, List.map_nil]); first | done | rfl) ?_; refine Calls.mono (whole_Cover1.calls (rd l0 x13_1) _) ?_; rintro e w10 ⟨rfl, hb⟩; refine ⟨_, rfl, ?_⟩; have n0_ := Aside0.mk (Kd.R_below HO_5.out hb); have n1_ := Aside0.mk (below_step HB.out hb); clear HO_5 HB; have HO_5 := n0_; have HB := n1_; clear n0_ n1_ hb; obtain ⟨ce10, hcl10, hM10, hcc10, hfr10⟩ := Kd.R_elem HO_5.out z34 (x13_1 : Int) p10 q10; obtain rfl := k34_openM hM10; have hx10_0 : w10.cell? ⟨go10, (x13_1 : Int).toNat * 2, none⟩ = some (.int .u64 ((rd_T34 x5_1 x13_1).f0)) := hcc10 0 _ rfl; have hx10_1 : w10.cell? ⟨go10, (x13_1 : Int).toNat * 2 + 1, none⟩ = some (.int .u64 ((rd_T34 x5_1 x13_1).f1)) := hcc10 1 _ rfl; have hf10_0 : w10.frozen? ⟨go10, (x13_1 : Int).toNat * 2, none⟩ = false := hfr10 0; have hf10_1 : w10.frozen? ⟨go10, (x13_1 : Int).toNat * 2 + 1, none⟩ = false := hfr10 1; clear hcl10 hcc10 hfr10 hM10; replace p10 := eq_true p10; replace q10 := eq_true q10; have HX11 := Aside0.mk (show Kd.R k34 34 w10 w.heap.size (fun _ => True) (.slice (some ⟨go10, 0, none⟩) x5_1.length co10) x5_1 from (by (with_reducible repeat (first | apply Kd.R_alloc | apply Kd.R_drewN | apply Kd.R_drew)); exact HO_5.out)); obtain ⟨ce11, hcl11, hM11, hcc11, hfr11⟩ := Kd.R_elem HX11.out z34 (x13_1 : Int) (of_decide_eq_true (by first | (with_reducible assumption) | assumption)) (by have h_ : (x13_1 : Int) < ((x5_1.length : Int) : Int) := of_decide_eq_true (by first | (with_reducible assumption) | assumption); first | exact h_ | (have e_ := (Kd.R_reads' HO_5.out).1; omega) | simpa using h_); obtain rfl := k34_openM hM11; have HP11 := Kd.R_seg HX11.out (x13_1 : Int) (of_decide_eq_true (by first | (with_reducible assumption) | assumption)) (by have h_ : (x13_1 : Int) < ((x5_1.length : Int) : Int) := of_decide_eq_true (by first | (with_reducible assumption) | assumption); first | exact h_ | (have e_ := (Kd.R_reads' HO_5.out).1; omega) | simpa using h_) (seg := [.int .u64 (rd l0 x13_1), .int .u64 0]) (j := 0) hcl11 hcc11 (show 2 ≤ 2 from by decide) (x' := (⟨rd l0 x13_1, 0⟩ : S34)) (k34_mkM _ _ _ (⟨rd l0 x13_1, 0⟩ : S34) ) (fun _ hk => hk); have hx11_0 := hcc11 0 _ rfl; (try simp only [show (k34).sz = 2 from rfl, Nat.mul_one, Nat.add_zero] at hx11_0); have hf11_0 := hfr11 0; (try simp only [show (k34).sz = 2 from rfl, Nat.mul_one, Nat.add_zero] at hf11_0); have hx11_1 := hcc11 1 _ rfl; (try simp only [show (k34).sz = 2 from rfl, Nat.mul_one, Nat.add_zero] at hx11_1); have hf11_1 := hfr11 1; (try simp only [show (k34).sz = 2 from rfl, Nat.mul_one, Nat.add_zero] at hf11_1); clear hcl11 hcc11 hfr11 hM11) | ((with_reducible refine gate_store (t := 34) (p := 23) rfl ?_); refine store_event (t := 34) (p := 23) (v := ?vo_w12) (w1 := ((w10.setCell ⟨go10, (x13_1 : Int).toNat * 2, none⟩ (.int .u64 (rd l0 x13_1))).setCell ⟨go10, (x13_1 : Int).toNat * 2 + 1, none⟩ (.int .u64 0))) ?hg ?ho ?hn ?hr ?_; (case ho => rfl); (case hg => rfl); (case hn => rfl); (case hr => first | (go_simp; done) | (go_simp; rfl)); intro w12 hw; have hg : w10.grownBy w12 (some go10) := (by rw [hw]; exact HP11.2); have hp_ : Kd.R k34 34 w12 w.heap.size (fun _ => True) (.slice (some ⟨go10, 0, none⟩) x5_1.length co10) y550 := (by rw [hw, Ny550.out]; exact HP11.1); clear HP11; have n0_ := Aside0.mk (hp_); have n1_ := Aside0.mk ((by rw [hw]; exact below_set (below_set (HB.out) GB10.out) GB10.out : Below w.heap.size w w12)); clear HO_5; clear HB; have HO_5 := n0_; have HB := n1_; clear n0_ n1_; clear hg hw hp_))
                  go_roundg k1
                  case measure => have := HK1.out; omega
                  case rel => exact ⟨(y550), (wrap64 (x13_1 + 1)), (by first | rfl | (simp; done) | (simp [*]; done)), H', ⟨by have := HK1.out; omega⟩, ⟨by (with_reducible repeat (first | apply Kd.R_alloc | apply Kd.R_drewN | apply Kd.R_drew)); exact HO_5.out⟩, ⟨by repeat (first | (with_reducible first | exact HB.out | apply below_alloc | apply pw_below_drewN | apply below_drew1) | exact HB.out)⟩⟩
                · rw [if_neg c9] at H
                  exact absurd H (by simp)
              · rw [if_neg c8] at H
                exact absurd H (by simp)
            · rw [if_neg c7] at H
              exact absurd H (by simp)
          · rw [if_neg c6] at H
            have c6b0 : decide (x13_1 < (l0.length : Int)) = false := decide_eq_false c6
            clear c6
            obtain rfl := Option.some.inj H
            go_wp2
            go_ret
            exact ⟨_, by first | rfl | (simp [errW_none, errW_some] <;> rfl) | (simp [*, errW_none, errW_some] <;> rfl), by (with_reducible repeat (first | apply Kd.R_alloc | apply Kd.R_drewN | apply Kd.R_drew)); exact HO_5.out, by repeat (first | (with_reducible first | exact HB.out | apply below_alloc | apply pw_below_drewN | apply below_drew1) | exact HB.out)⟩
    · rw [if_neg c3] at H
      exact absurd H (by simp)
  · rw [if_neg c2] at H
    exact absurd H (by simp)

/-! ### whole_Cover: function 29 -/
def whole_Cover.f (k : Nat) (a0 : Int) (l1 : List Int) : Option ((List (S34)) × Int) := (steiner_Hang.f k a0 l1).bind fun bt551 => ((api_Subset_68.f k bt551.1).bind fun t555 => (some (t555, bt551.2)))
theorem whole_Cover.mono : ∀ a0 a1 k, LeO (whole_Cover.f k a0 a1) (whole_Cover.f (k + 1) a0 a1) := by
  intro a0 a1 k
  unfold whole_Cover.f
  repeat' first
      | (with_reducible exact api_Subset_68.mono _ _)
      | (with_reducible exact steiner_Hang.mono _ _ _)
      | (with_reducible exact LeO.refl _)
      | (with_reducible exact LeO.none _)
      | (with_reducible refine LeO.ite ?_ ?_)
      | (with_reducible refine LeO.bind ?_ (fun _ => ?_))
      | exact api_Subset_68.mono _ _
      | exact steiner_Hang.mono _ _ _
      | exact LeO.none _
      | refine LeO.ite ?_ ?_
      | refine LeO.bind ?_ (fun _ => ?_)
set_option maxHeartbeats 8000000 in
set_option maxRecDepth 100000 in
theorem whole_Cover.calls (k : Nat) (a0 : Int) (A1 : Option Addr) (c1 : Nat) (l1 : List Int) (r1 : List (S34)) (r2 : Int) (w : World) (hr1 : Kd.C (Kd.int .u64) w A1 l1.length l1) (hc1 : l1.length ≤ c1) (h : whole_Cover.f k a0 l1 = some (r1, r2)) :
    Calls Try.prog 29 #[.int .i64 a0, .slice A1 l1.length c1] w fun e w' => ∃ v0_ : Value, e = .returned (.tuple #[v0_, .int .i64 r2]) ∧ Kd.R k34 34 w' w.heap.size (fun _ => True) v0_ r1 ∧ Below w.heap.size w w' := by
  have HR1 := Aside0.mk hr1
  have HC1 := Aside0.mk hc1
  clear hr1 hc1
  have HB := Aside0.mk (Below.refl w.heap.size w)
  have H : ((steiner_Hang.f k a0 l1).bind fun bt551 => ((api_Subset_68.f k bt551.1).bind fun t555 => (some (t555, bt551.2)))) = some (r1, r2) := h
  clear h
  replace H := Option.bind_eq_some_iff.mp H
  obtain ⟨⟨t551, t552⟩, A30, H⟩ := H
  replace H : ((api_Subset_68.f k t551).bind fun t555 => (some (t555, t552))) = some (r1, r2) := H
  have A3 := Aside0.mk A30
  clear A30
  replace H := Option.bind_eq_some_iff.mp H
  obtain ⟨t555, A40, H⟩ := H
  replace H : (some (t555, t552)) = some (r1, r2) := H
  have A4 := Aside0.mk A40
  clear A40
  simp only [Option.some.injEq, Prod.mk.injEq] at H
  obtain ⟨rfl, rfl⟩ := H
  go_enter Try.func29, Try.ntmps29
  go_wp2_with (first | ((with_reducible refine gate_callee (f := 67) rfl ?_); refine goesL_ (some 11) rfl rfl Try.func67 (by kernel_rfl) rfl #[.int .i64 a0, .slice A1 l1.length c1] rfl (by (try simp only [List.map_toArray, List.map_cons, List.map_nil]); first | done | rfl | (simp only [List.length_drop, List.length_take]; rfl)) ?_; (with_reducible refine (steiner_Hang.calls k a0 _ _ l1 t551 t552 _ ?side1 ?side2 A3.out).mono ?_); (case side1 => repeat (first | exact HR1.out | (with_reducible refine Kd.C_alloc ?_ _) | (with_reducible refine Kd.C_drewN ?_ _) | (with_reducible refine Kd.C_drew ?_))); (case side2 => exact HC1.out); rintro e w5 ⟨v553, rfl, ho0, hb⟩; refine ⟨_, rfl, ?_⟩; have n0_ := Aside0.mk (Kd.R_lower ho0 (below_size (by repeat (first | (with_reducible first | exact HB.out | apply below_alloc | apply pw_below_drewN | apply below_drew1) | exact HB.out)))); have n1_ := Aside0.mk (below_step (by repeat (first | (with_reducible first | exact HB.out | apply below_alloc | apply pw_below_drewN | apply below_drew1) | exact HB.out)) hb); clear HB; have HO554 := n0_; have HB := n1_; clear n0_ n1_; (try clear hb); (try clear hb2); (try clear hk); (try clear hi); (try clear ho0); obtain ⟨Ao6, co6, eo6⟩ := Kd.R_slice HO554.out; subst eo6) | ((with_reducible refine gate_callee (f := 68) rfl ?_); refine goesL_ (some 15) rfl rfl Try.func68 (by kernel_rfl) rfl #[.slice Ao6 t551.length co6, .func (.func 69) #[] #[]] rfl (by (try simp only [List.map_toArray, List.map_cons, List.map_nil]); first | done | rfl | (simp only [List.length_drop, List.length_take]; rfl)) ?_; (with_reducible refine (api_Subset_68.calls k _ _ t551 t555 _ ?side1 ?side2 A4.out).mono ?_); (case side1 => repeat (first | exact (Kd.R_reads' HO554.out).2.2 | (with_reducible refine Kd.C_alloc ?_ _) | (with_reducible refine Kd.C_drewN ?_ _) | (with_reducible refine Kd.C_drew ?_))); (case side2 => exact (Kd.R_reads' HO554.out).2.1); rintro e w7 ⟨v556, rfl, ho0, hb⟩; refine ⟨_, rfl, ?_⟩; have n0_ := Aside0.mk (Kd.R_below (by (with_reducible repeat (first | apply Kd.R_alloc | apply Kd.R_drewN | apply Kd.R_drew)); exact HO554.out) hb); have n1_ := Aside0.mk (Kd.R_lower ho0 (below_size (by repeat (first | (with_reducible first | exact HB.out | apply below_alloc | apply pw_below_drewN | apply below_drew1) | exact HB.out)))); have n2_ := Aside0.mk (below_step (by repeat (first | (with_reducible first | exact HB.out | apply below_alloc | apply pw_below_drewN | apply below_drew1) | exact HB.out)) hb); clear HO554; clear HB; have HO554 := n0_; have HO557 := n1_; have HB := n2_; clear n0_ n1_ n2_; (try clear hb); (try clear hb2); (try clear hk); (try clear hi); (try clear ho0)))
  go_ret2
  exact ⟨_, by first | rfl | (simp [errW_none, errW_some] <;> rfl) | (simp [*, errW_none, errW_some] <;> rfl), by (with_reducible repeat (first | apply Kd.R_alloc | apply Kd.R_drewN | apply Kd.R_drew)); exact HO557.out, by repeat (first | (with_reducible first | exact HB.out | apply below_alloc | apply pw_below_drewN | apply below_drew1) | exact HB.out)⟩

end Go.Proofs.Ytmffkfakcbopcaa.MP
