-- written by a program of this session (wip/tools/mprint.sh) for this seat
import Derived.Test.YtmffkfakcbopcaaMPx0
import Derived.Test.YtmffkfakcbopcaaMPx13
import Derived.Test.YtmffkfakcbopcaaMPx21
import Derived.Test.YtmffkfakcbopcaaMPx23
namespace Go.Proofs.Ytmffkfakcbopcaa.MP
open Go.RowKit Go.Proofs.YtmffkfakcbopcaaW.PrintWords Go.Proofs.YtmffkfakcbopcaaW.PrintLast Go.Proofs.YtmffkfakcbopcaaW.PrintMore
attribute [local go_sem] max2_int min2_int max_two min_two max_three min_three max_four min_four   -- for this text's walks alone
set_option linter.unusedVariables false
set_option linter.unusedSimpArgs false

/-! ### steiner_Forks: function 22 -/
def steiner_Forks1.f (h : Int) (k : Nat) (x : List Int) (n : Int) (y : List Int) : Option (List Int) := (node_Depth.f k h n).bind fun p => if p.2 = 0 then (if p.1 < h then (if (y.length : Int) = 0 then (if x.length < 17592186044416 then some (x ++ [n]) else none) else some x) else some x) else some x
theorem steiner_Forks1.mono (h : Int) : ∀ a b c k, LeO (steiner_Forks1.f h k a b c) (steiner_Forks1.f h (k + 1) a b c) := by
  intro a b c k
  unfold steiner_Forks1.f
  repeat' first
      | (with_reducible exact node_Depth.mono _ _ _)
      | (with_reducible exact LeO.refl _)
      | (with_reducible exact LeO.none _)
      | (with_reducible refine LeO.ite ?_ ?_)
      | (with_reducible refine LeO.bind ?_ (fun _ => ?_))
set_option maxHeartbeats 8000000 in
set_option maxRecDepth 100000 in
theorem steiner_Forks1.calls (a0 : Int) (k bh b : Nat) (w W : World) (v : Value) (x : List Int) (n : Int) (A : Option Addr) (c : Nat) (y x' : List Int) (hB : Below b w W) (hlt : bh < b) (hw : w.heap[bh]? = some (.cells #[.int .i64 a0] 3 (0, 0))) (hx : W.heap[b]? = some (.cells #[v] 22 (0, 0))) (hv : Kd.R (Kd.int .u64) 28 W b (fun _ => True) v x) (h : steiner_Forks1.f a0 k x n y = some x') :
    Calls Try.prog 59 #[.int .u64 n, .slice A y.length c, .pointer (some ⟨bh, 0, none⟩), .pointer (some ⟨b, 0, none⟩)] W fun e W' => e = .returned (.tuple #[]) ∧ ∃ v' : Value, W'.heap[b]? = some (.cells #[v'] 22 (0, 0)) ∧ Kd.R (Kd.int .u64) 28 W' b (fun k_ => some k_ = v.ownBlock ∨ W.heap.size ≤ k_) v' x' ∧ Below b w W' ∧ Kept W W' (fun k_ => k_ = b ∨ some k_ = v.ownBlock) := by
  obtain ⟨⟨d, e1⟩, A30, H⟩ := Option.bind_eq_some_iff.mp h
  clear h
  replace H : (if e1 = 0 then (if d < a0 then (if (y.length : Int) = 0 then (if x.length < 17592186044416 then some (x ++ [n]) else none) else some x) else some x) else some x) = some x' := H
  have A3 := Aside0.mk A30
  clear A30
  have hxh : W.heap[bh]? = some (.cells #[.int .i64 a0] 3 (0, 0)) := (hB.block bh hlt).trans hw
  have hch := cell_of_one hxh
  have HV := Aside0.mk (Kd.R_mono (Kd.R_tight rfl hv) (ok' := fun k_ => some k_ = v.ownBlock ∨ W.heap.size ≤ k_) (fun _ hk => .inl hk))
  have HX := Aside0.mk hx
  have HB := Aside0.mk hB
  have hc0 := cell_of_one hx
  have HNE := Aside0.mk (Kd.R_ne hv hx (by decide))
  have HBS := Aside0.mk (Nat.le_of_lt (blk_lt hx))
  clear hv hx hB hw hxh
  by_cases c1 : e1 = 0
  · rw [if_pos c1] at H
    have c1b : (e1 == 0) = true := beq_iff_eq.mpr c1
    clear c1
    by_cases c2 : d < a0
    · rw [if_pos c2] at H
      have c2b : decide (d < a0) = true := decide_eq_true c2
      clear c2
      by_cases c3 : (y.length : Int) = 0
      · rw [if_pos c3] at H
        have c3b : ((y.length : Int) == 0) = true := beq_iff_eq.mpr c3
        clear c3
        by_cases c4 : x.length < 17592186044416
        · rw [if_pos c4] at H
          have HL := Aside0.mk c4
          clear c4
          obtain rfl := Option.some.inj H
          go_enter Try.func59, Try.ntmps59
          go_wp2_with (first | ((with_reducible refine gate_callee (f := 60) rfl ?_); refine goesL_ (some 11) rfl rfl Try.func60 (by kernel_rfl) rfl #[.int .i64 a0, .int .u64 n] rfl (by (try simp only [List.map_toArray, List.map_cons, List.map_nil]); first | done | rfl) ?_; (with_reducible refine (node_Depth.calls k a0 n d e1 _ A3.out).mono ?_); rintro e w' ⟨rfl, ⟨nd, rfl⟩⟩; refine ⟨_, rfl, ?_⟩) | (at_builtin; refine Kd.R_append (Kd.int .u64) (w0 := w) b rfl (.tmp 26) (.tmp 28) 22 28 (.int .u64 0) 8 rfl Try.underlying22 info28 rfl (by decide) (by omega) v x n [.int .u64 n] (fun k_ => some k_ = v.ownBlock ∨ W.heap.size ≤ k_) (fun _ => False) rfl rfl ?aP (fun _ hk => hk.elim) ?aF ?aO ?aB ?aS ?aL ?_; (case aP => exact rfl); (case aB => exact pw_below_drewN HB.out nd); (case aF => exact (fun _ hk => .inr hk)); (case aO => exact HV.out); (case aS => exact HBS.out); (case aL => have := HL.out; omega); intro v1 w1 ho hb hg hat; have hx1 := box_grown (box_drewN HX.out nd) hg HNE.out; have hc1 := cell_of_one hx1; have hf1 := free_of_one hx1; have HO := Aside0.mk ho; have HB1 := Aside0.mk hb; have HG := Aside0.mk hg; have HX1 := Aside0.mk hx1; clear ho hb hg hat hx1 hc0; obtain ⟨A1, c1, e1⟩ := Kd.R_slice HO.out; subst e1))
          go_end0
          have HO2 := HO.out
          rw [List.length_append] at HO2
          exact ⟨rfl, _, one_setCell HX1.out, R_boxset HO2 HX1.out (by decide), HB1.out.setCell (Nat.le_refl b) _, Kept.setCell (Kept.of_grown HG.out (Kept.drewN (Kept.refl W _) nd) (fun k_ hk => .inl (.inr hk.symm))) (.inl (.inl rfl)) _⟩
        · rw [if_neg c4] at H
          cases H
      · rw [if_neg c3] at H
        have c3b : ((y.length : Int) == 0) = false := beq_eq_false_iff_ne.mpr c3
        clear c3
        obtain rfl := Option.some.inj H
        go_enter Try.func59, Try.ntmps59
        go_wp2_with (first | ((with_reducible refine gate_callee (f := 60) rfl ?_); refine goesL_ (some 11) rfl rfl Try.func60 (by kernel_rfl) rfl #[.int .i64 a0, .int .u64 n] rfl (by (try simp only [List.map_toArray, List.map_cons, List.map_nil]); first | done | rfl) ?_; (with_reducible refine (node_Depth.calls k a0 n d e1 _ A3.out).mono ?_); rintro e w' ⟨rfl, ⟨nd, rfl⟩⟩; refine ⟨_, rfl, ?_⟩))
        go_end0
        exact ⟨rfl, v, HX.out, HV.out, pw_below_drewN HB.out _, Kept.drewN (Kept.refl _ _) _⟩
    · rw [if_neg c2] at H
      have c2b : decide (d < a0) = false := decide_eq_false c2
      clear c2
      obtain rfl := Option.some.inj H
      go_enter Try.func59, Try.ntmps59
      go_wp2_with (first | ((with_reducible refine gate_callee (f := 60) rfl ?_); refine goesL_ (some 11) rfl rfl Try.func60 (by kernel_rfl) rfl #[.int .i64 a0, .int .u64 n] rfl (by (try simp only [List.map_toArray, List.map_cons, List.map_nil]); first | done | rfl) ?_; (with_reducible refine (node_Depth.calls k a0 n d e1 _ A3.out).mono ?_); rintro e w' ⟨rfl, ⟨nd, rfl⟩⟩; refine ⟨_, rfl, ?_⟩))
      go_end0
      exact ⟨rfl, v, HX.out, HV.out, pw_below_drewN HB.out _, Kept.drewN (Kept.refl _ _) _⟩
  · rw [if_neg c1] at H
    have c1b : (e1 == 0) = false := beq_eq_false_iff_ne.mpr c1
    clear c1
    obtain rfl := Option.some.inj H
    go_enter Try.func59, Try.ntmps59
    go_wp2_with (first | ((with_reducible refine gate_callee (f := 60) rfl ?_); refine goesL_ (some 11) rfl rfl Try.func60 (by kernel_rfl) rfl #[.int .i64 a0, .int .u64 n] rfl (by (try simp only [List.map_toArray, List.map_cons, List.map_nil]); first | done | rfl) ?_; (with_reducible refine (node_Depth.calls k a0 n d e1 _ A3.out).mono ?_); rintro e w' ⟨rfl, ⟨nd, rfl⟩⟩; refine ⟨_, rfl, ?_⟩))
    go_end0
    exact ⟨rfl, v, HX.out, HV.out, pw_below_drewN HB.out _, Kept.drewN (Kept.refl _ _) _⟩
def steiner_Forks.f (k : Nat) (a0 : Int) (l1 : List Int) : Option (List Int × Int) := steiner_children.f (steiner_Forks1.f a0) k a0 l1
theorem steiner_Forks.mono : ∀ a0 a1 k, LeO (steiner_Forks.f k a0 a1) (steiner_Forks.f (k + 1) a0 a1) := fun a0 a1 k => steiner_children.mono _ (steiner_Forks1.mono a0) a0 a1 k
set_option maxHeartbeats 8000000 in
set_option maxRecDepth 100000 in
theorem steiner_Forks.calls (k : Nat) (a0 : Int) (A1 : Option Addr) (c1 : Nat) (l1 : List Int) (r1 : List Int) (r2 : Int) (w : World) (hr1 : Kd.C (Kd.int .u64) w A1 l1.length l1) (hc1 : l1.length ≤ c1) (h : steiner_Forks.f k a0 l1 = some (r1, r2)) :
    Calls Try.prog 22 #[.int .i64 a0, .slice A1 l1.length c1] w fun e w' => ∃ v0_ : Value, e = .returned (.tuple #[v0_, .int .i64 r2]) ∧ Kd.R (Kd.int .u64) 28 w' w.heap.size (fun _ => True) v0_ r1 ∧ Below w.heap.size w w' := by
  have HR1 := Aside0.mk hr1
  have HC1 := Aside0.mk hc1
  clear hr1 hc1
  have hmf : ∀ (fn : Fn) (first cap : Array Value) (w : World), (Instr.makeFunc fn first cap).run Try.prog w = .ok (.func fn first cap) w := fun _ _ _ _ => rfl
  have hs1 : (w.alloc (.cells #[.int .i64 a0] 3)).heap.size = w.heap.size + 1 := by simp
  have hx0 : ((w.alloc (.cells #[.int .i64 a0] 3)).alloc (.cells #[.slice none 0 0] 22)).heap[w.heap.size + 1]? = some (.cells #[.slice none 0 0] 22 (0, 0)) := by rw [← hs1]; exact blk_new _ _
  have hx1 : ((w.alloc (.cells #[.int .i64 a0] 3)).alloc (.cells #[.slice none 0 0] 22)).heap[w.heap.size]? = some (.cells #[.int .i64 a0] 3 (0, 0)) := box_alloc (blk_new _ _) _
  have HX := Aside0.mk hx0
  have HX1 := Aside0.mk hx1
  have hc0 := cell_of_one hx0
  have hf0 := free_of_one hx0
  have hc9 := cell_of_one hx1
  clear hx0 hx1 hs1
  have H' := Aside0.mk (show steiner_children.f (steiner_Forks1.f a0) k a0 l1 = some (r1, r2) from h)
  clear h
  have key : ∀ W : World, Kd.C (Kd.int .u64) W A1 l1.length l1 → W.heap[w.heap.size]? = some (.cells #[.int .i64 a0] 3 (0, 0)) → W.heap[w.heap.size + 1]? = some (.cells #[.slice none 0 0] 22 (0, 0)) → steiner_children.f (steiner_Forks1.f a0) k a0 l1 = some (r1, r2) → Calls Try.prog 58 #[.int .i64 a0, .slice A1 l1.length c1, .func (.func 59) #[] #[.pointer (some ⟨w.heap.size, 0, none⟩), .pointer (some ⟨w.heap.size + 1, 0, none⟩)]] W fun e w' => e = .returned (.int .i64 r2) ∧ ∃ v0_ : Value, w'.heap[w.heap.size + 1]? = some (.cells #[v0_] 22 (0, 0)) ∧ Kd.R (Kd.int .u64) 28 w' (w.heap.size + 1) (fun _ => True) v0_ r1 ∧ Below (w.heap.size + 1) W w' := fun W hr hy hx hh =>
    steiner_children.calls (steiner_Forks1.f a0) k a0 A1 c1 l1 r1 r2 W hr HC1.out 59 _ _ (w.heap.size + 1) Try.func59 (by kernel_rfl) rfl hx (fun k W2 v x n A c y x' h1 h2 h3 h4 h5 h6 => steiner_Forks1.calls a0 k w.heap.size (w.heap.size + 1) W W2 v x n A c y x' h1 (Nat.lt_succ_self _) hy h2 h3 h6) hh
  have KEY := Aside0.mk key
  clear key
  go_enter Try.func22, Try.ntmps22
  go_wp2_with (first | ((with_reducible refine gate_callee (f := 58) rfl ?_); refine goesL_ (some 10) rfl rfl Try.func58 (by kernel_rfl) rfl #[.int .i64 a0, .slice A1 l1.length c1, .func (.func 59) #[] #[.pointer (some ⟨w.heap.size, 0, none⟩), .pointer (some ⟨w.heap.size + 1, 0, none⟩)]] rfl (by (try simp only [List.map_toArray, List.map_cons, List.map_nil]); first | done | rfl) ?_; refine (KEY.out _ ?s1 ?s2 ?s3 H'.out).mono ?_; (case s1 => repeat (first | exact HR1.out | (with_reducible refine Kd.C_alloc ?_ _) | (with_reducible refine Kd.C_drewN ?_ _) | (with_reducible refine Kd.C_drew ?_))); (case s2 => exact HX1.out); (case s3 => exact HX.out); rintro e w5 ⟨rfl, v0, hx, ho, hb⟩; refine ⟨_, rfl, ?_⟩; have hc1 := cell_of_one hx; have hf1 := free_of_one hx; have HX2 := Aside0.mk hx; have HO := Aside0.mk ho; have HB := Aside0.mk (Below.trans (below_alloc (below_alloc (Below.refl w.heap.size w) (.cells #[.int .i64 a0] 3)) (.cells #[.slice none 0 0] 22)) (hb.mono (Nat.le_succ _))); clear hx ho hb; obtain ⟨Ao, co, eo⟩ := Kd.R_slice HO.out; subst eo))
  have hcB := cell_of_one (one_setCell (u := .slice Ao r1.length co) HX2.out)
  refine bodyPost_ret (results_cell_tmp rfl rfl (v := .slice Ao r1.length co) (by go_simp)) rfl ?_
  exact ⟨_, rfl, Kd.R_lower (R_boxset HO.out HX2.out (by decide)) (Nat.le_succ _), HB.out.setCell (Nat.le_succ _) _⟩

end Go.Proofs.Ytmffkfakcbopcaa.MP
