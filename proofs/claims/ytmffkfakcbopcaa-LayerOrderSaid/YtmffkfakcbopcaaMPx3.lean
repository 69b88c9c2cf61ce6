-- written by a program of this session (wip/tools/mprint.sh) for this seat
import Derived.Test.YtmffkfakcbopcaaMPx0
import Derived.Test.YtmffkfakcbopcaaMPx2
import Derived.Deep.RegionHeld3
import Derived.Shelf.SlSortCmp.NoneTotal
import Derived.Shelf.Lay
import Derived.Ground.SlsfProg
namespace Go.Proofs.Ytmffkfakcbopcaa.MP
open Go.RowKit Go.Proofs.YtmffkfakcbopcaaW.PrintWords Go.Proofs.YtmffkfakcbopcaaW.PrintLast Go.Proofs.YtmffkfakcbopcaaW.PrintMore
attribute [local go_sem] max2_int min2_int max_two min_two max_three min_three max_four min_four   -- for this text's walks alone
set_option linter.unusedVariables false
set_option linter.unusedSimpArgs false

/-! ### diff_Cover: function 15 -/
mutual
def diff_cut.f : Nat → Int → List Int → Int → List S34 → Option (List S34 × Int)
  | 0, _, _, _, _ => none
  | k + 1, h, l, top, out => (steiner_Down.f k h l top).bind fun d => if d.2 = 0 then (if d.1 = top then diff_cut.g k h l d.1 0 out else if out.length < 8796093022207 then diff_cut.g k h l d.1 0 (out ++ [⟨top, d.1⟩]) else none) else some (out, d.2)
def diff_cut.g : Nat → Int → List Int → Int → Int → List S34 → Option (List S34 × Int)
  | 0, _, _, _, _, _ => none
  | k + 1, h, l, d, t, out => if t < 2 then ((node_Child.f k h d t).bind fun n => if n.2 = 4 then some (out, 0) else if n.2 = 0 then ((diff_cut.f k h l n.1 out).bind fun r => if r.2 = 0 then diff_cut.g k h l d (wrap64 (t + 1)) r.1 else some r) else some (out, n.2)) else some (out, 0)
end
theorem diff_cut.mono2 : ∀ k, (∀ a b c d, LeO (diff_cut.f k a b c d) (diff_cut.f (k + 1) a b c d)) ∧ (∀ a b c d e, LeO (diff_cut.g k a b c d e) (diff_cut.g (k + 1) a b c d e))
  | 0 => ⟨fun _ _ _ _ r h => by simp [diff_cut.f] at h, fun _ _ _ _ _ r h => by simp [diff_cut.g] at h⟩
  | k + 1 => by
    obtain ⟨ih0, ih1⟩ := diff_cut.mono2 k
    refine ⟨?_, ?_⟩
    · intro a b c d
      rw [diff_cut.f, diff_cut.f]
      repeat' first
      | (with_reducible exact ih1 _ _ _ _ _)
      | (with_reducible exact steiner_Down.mono _ _ _ _)
      | (with_reducible exact LeO.refl _)
      | (with_reducible exact LeO.none _)
      | (with_reducible refine LeO.ite ?_ ?_)
      | (with_reducible refine LeO.bind ?_ (fun _ => ?_))
    · intro a b c d e
      rw [diff_cut.g, diff_cut.g]
      repeat' first
      | (with_reducible exact ih0 _ _ _ _)
      | (with_reducible exact ih1 _ _ _ _ _)
      | (with_reducible exact node_Child.mono _ _ _ _)
      | (with_reducible exact LeO.refl _)
      | (with_reducible exact LeO.none _)
      | (with_reducible refine LeO.ite ?_ ?_)
      | (with_reducible refine LeO.bind ?_ (fun _ => ?_))
theorem cu_cells {W : World} {b T : Nat} {x y z : Value} (h : W.heap[b]? = some (.cells #[x, y, z] T (0, 0))) : W.cell? ⟨b, 0, none⟩ = some x ∧ W.cell? ⟨b, 1, none⟩ = some y ∧ W.cell? ⟨b, 2, none⟩ = some z ∧ W.frozen? ⟨b, 2, none⟩ = false := by
  simp [World.cell?, World.frozen?, h]
theorem cu_grown {W w1 : World} {g : Nat} {o : Obj} {row : Option Nat} (h : W.heap[g]? = some o) (hg : W.grownBy w1 row) (hne : some g ≠ row) : w1.heap[g]? = some o := (hg.5 g (blk_lt h) (by first | exact hne | exact fun e => hne e.symm)).trans h
theorem cu_set {W : World} {b T : Nat} {x y z : Value} (h : W.heap[b]? = some (.cells #[x, y, z] T (0, 0))) (u : Value) : (W.setCell ⟨b, 2, none⟩ u).heap[b]? = some (.cells #[x, y, u] T (0, 0)) := by
  simp [World.setCell, Array.getElem?_modify, h]
theorem cu_R {W : World} {e base b T : Nat} {ok : Nat → Prop} {v u : Value} {xs : List S34} {cs : Array Value} (h : Kd.R k34 e W base ok v xs) (hx : W.heap[b]? = some (.cells cs T (0, 0))) (hT : e ≠ T) : Kd.R k34 e (W.setCell ⟨b, 2, none⟩ u) base ok v xs := by
  refine Kd.R_mono (Kd.R_move (Kd.R_bound h) ?_) (fun k_ hk => hk.1)
  rintro k_ ⟨_, _, _, q, hq, cells, hc⟩
  refine Below.heap_setCell W _ u k_ ?_
  rintro rfl
  rw [hx] at hc
  simp only [Option.some.injEq, Obj.cells.injEq] at hc
  simp [k34, Kd.iso, Kd.pair, Kd.int, Kd.scalar] at hq
  exact hT (hq.symm.trans hc.2.1.symm)
set_option maxHeartbeats 8000000 in
set_option maxRecDepth 100000 in
theorem diff_cut.calls (k : Nat) : ∀ (a0 : Int) (A : Option Addr) (c : Nat) (l : List Int) (out : List S34) (top r : Int) (out' : List S34) (w W : World) (v : Value) (hr : Kd.C (Kd.int .u64) w A l.length l) (hc : l.length ≤ c) (hB : Below w.heap.size w W) (hx : W.heap[w.heap.size]? = some (.cells #[.int .i64 a0, .slice A l.length c, v] 85 (0, 0))) (hv : Kd.R k34 34 W w.heap.size (fun _ => True) v out) (h : diff_cut.f k a0 l top out = some (out', r)),
    Calls Try.prog 44 #[.pointer (some ⟨w.heap.size, 0, none⟩), .int .u64 top] W fun e W' => e = .returned (.int .i64 r) ∧ ∃ v' : Value, W'.heap[w.heap.size]? = some (.cells #[.int .i64 a0, .slice A l.length c, v'] 85 (0, 0)) ∧ Kd.R k34 34 W' w.heap.size (fun _ => True) v' out' ∧ Below w.heap.size w W' := by
  induction k using Nat.strongRecOn with
  | ind k ih =>
  intro a0 A c l out top r out' w W v hr hc hB hx hv h
  cases k with
  | zero => exact absurd h (by simp [diff_cut.f])
  | succ k =>
  rw [diff_cut.f] at h
  obtain ⟨⟨d, e1⟩, A30, H⟩ := Option.bind_eq_some_iff.mp h
  clear h
  dsimp only at H
  have A3 := Aside0.mk A30
  have HR := Aside0.mk hr
  have HC := Aside0.mk hc
  have HB := Aside0.mk hB
  have HX := Aside0.mk hx
  have HV := Aside0.mk hv
  have IH := Aside0.mk ih
  obtain ⟨x0, x1, x2, xf⟩ := cu_cells hx
  clear A30 hr hc hB hv ih
  have hu85 := Try.underlying85
  by_cases c1 : e1 = 0
  · rw [if_pos c1] at H
    subst c1
    by_cases c2 : d = top
    · rw [if_pos c2] at H
      subst c2
      have H' := Aside0.mk H
      clear H
      go_enter Try.func44, Try.ntmps44
      go_wp2
      go_region_held3 (fun w' => w'.cell? ⟨w.heap.size, 0, none⟩ = some (.int .i64 a0) ∧ w'.cell? ⟨w.heap.size, 1, none⟩ = some (.slice A l.length c)) (go_keep)
        (first | (go_at_call 89; refine (steiner_Down.calls k a0 A c l d d 0 _ ?side1 HC.out A3.out).mono ?_; (case side1 => repeat (first | exact Kd.C_below HR.out HB.out | (with_reducible refine Kd.C_drewN ?_ _) | (with_reducible refine Kd.C_drew ?_))); rintro e w5 ⟨rfl, hb⟩; have n0_ := Aside0.mk (blk_below (by (with_reducible repeat (first | refine blk_drewN ?_ _ | refine blk_drew ?_)); exact HX.out) hb); have n1_ := Aside0.mk (Kd.R_below (by (with_reducible repeat (first | apply Kd.R_drewN | apply Kd.R_drew)); exact HV.out) hb); have n2_ := Aside0.mk (below_step (by repeat (first | (with_reducible first | exact HB.out | apply pw_below_drewN | apply below_drew1) | exact HB.out)) hb); obtain ⟨y0, y1, y2, yf⟩ := cu_cells n0_.out; clear HX HV HB; have HX := n0_; have HV := n1_; have HB := n2_; clear n0_ n1_ n2_ hb))
      clear x0 x1 x2 xf hx
      go_wp2
      go_loopg [41] k (fun kq v41 w' => ∃ (t : Int) (o : List S34) (u : Value), v41 = .int .i64 t ∧ Aside0 (diff_cut.g kq a0 l d t o = some (out', r)) ∧ Aside0 (kq ≤ k) ∧ Aside0 (w'.heap[w.heap.size]? = some (.cells #[.int .i64 a0, .slice A l.length c, u] 85 (0, 0))) ∧ Aside0 (Kd.R k34 34 w' w.heap.size (fun _ => True) u o) ∧ Aside0 (Below w.heap.size w w'))
      case atStart => exact ⟨0, out, v, rfl, H', ⟨Nat.le_refl _⟩, ⟨(by (with_reducible repeat (first | refine blk_drewN ?_ _ | refine blk_drew ?_ | refine blk_alloc ?_ _)); exact HX.out)⟩, ⟨(by (with_reducible repeat (first | apply Kd.R_alloc | apply Kd.R_drewN | apply Kd.R_drew)); exact HV.out)⟩, ⟨(by repeat (first | (with_reducible first | exact HB.out | apply below_alloc | apply pw_below_drewN | apply below_drew1) | exact HB.out))⟩⟩
      case round =>
        clear H' HX HV HB
        try clear y0 y1 y2 yf
        obtain ⟨t, o, u, rfl, HA, HK1, HX, HV, HB⟩ := hrel
        cases gk with
        | zero => exact absurd HA.out (by simp [diff_cut.g])
        | succ k2 =>
          have H := HA.out
          clear HA
          rw [diff_cut.g] at H
          obtain ⟨x0, x1, x2, xf⟩ := cu_cells HX.out
          by_cases c5 : t < 2
          · rw [if_pos c5] at H
            have c5b0 : decide (t < 2) = true := decide_eq_true c5
            clear c5
            obtain ⟨⟨n1, n2⟩, A110, H⟩ := Option.bind_eq_some_iff.mp H
            dsimp only at H
            have A11 := Aside0.mk A110
            clear A110
            by_cases c6 : n2 = 4
            · rw [if_pos c6] at H
              subst c6
              simp only [Option.some.injEq, Prod.mk.injEq] at H
              obtain ⟨rfl, rfl⟩ := H
              go_wp2_with (first | ((with_reducible refine gate_callee (f := 90) rfl ?_); refine goesL_ (some 51) rfl rfl Try.func90 (by kernel_rfl) rfl #[.int .i64 a0, .int .u64 d, .int .i64 t] rfl (by (try simp only [List.map_toArray, List.map_cons, List.map_nil]); first | done | rfl) ?_; (with_reducible refine (node_Child.calls k2 a0 d t n1 4 _ A11.out).mono ?_); rintro e w' ⟨rfl, ⟨nd, rfl⟩⟩; refine ⟨_, rfl, ?_⟩))
              go_ret
              exact ⟨rfl, u, (by (with_reducible repeat (first | refine blk_drewN ?_ _ | refine blk_drew ?_ | refine blk_alloc ?_ _)); exact HX.out), (by (with_reducible repeat (first | apply Kd.R_alloc | apply Kd.R_drewN | apply Kd.R_drew)); exact HV.out), (by repeat (first | (with_reducible first | exact HB.out | apply below_alloc | apply pw_below_drewN | apply below_drew1) | exact HB.out))⟩
            · rw [if_neg c6] at H
              have c6b0 : (n2 == 4) = false := beq_eq_false_iff_ne.mpr c6
              clear c6
              by_cases c7 : n2 = 0
              · rw [if_pos c7] at H
                subst c7
                obtain ⟨⟨q1, q2⟩, A130, H⟩ := Option.bind_eq_some_iff.mp H
                dsimp only at H
                have A13 := Aside0.mk A130
                clear A130
                by_cases c8 : q2 = 0
                · rw [if_pos c8] at H
                  subst c8
                  have H' := Aside0.mk H
                  clear H
                  go_wp2_with (first | ((with_reducible refine gate_callee (f := 90) rfl ?_); refine goesL_ (some 51) rfl rfl Try.func90 (by kernel_rfl) rfl #[.int .i64 a0, .int .u64 d, .int .i64 t] rfl (by (try simp only [List.map_toArray, List.map_cons, List.map_nil]); first | done | rfl) ?_; (with_reducible refine (node_Child.calls k2 a0 d t n1 0 _ A11.out).mono ?_); rintro e w' ⟨rfl, ⟨nd, rfl⟩⟩; refine ⟨_, rfl, ?_⟩) | ((with_reducible refine gate_callee (f := 44) rfl ?_); refine goesL_ (some 61) rfl rfl Try.func44 (by kernel_rfl) rfl #[.pointer (some ⟨w.heap.size, 0, none⟩), .int .u64 n1] rfl (by (try simp only [List.map_toArray, List.map_cons, List.map_nil]); first | done | rfl) ?_; refine (IH.out k2 ?lt a0 A c l o n1 0 q1 w _ u HR.out HC.out ?sB ?sX ?sV A13.out).mono ?_; (case lt => have := HK1.out; omega); (case sB => exact (by repeat (first | (with_reducible first | exact HB.out | apply below_alloc | apply pw_below_drewN | apply below_drew1) | exact HB.out))); (case sX => exact (by (with_reducible repeat (first | refine blk_drewN ?_ _ | refine blk_drew ?_ | refine blk_alloc ?_ _)); exact HX.out)); (case sV => exact (by (with_reducible repeat (first | apply Kd.R_alloc | apply Kd.R_drewN | apply Kd.R_drew)); exact HV.out)); rintro e w9 ⟨rfl, v9, hx9, ho9, hb9⟩; refine ⟨_, rfl, ?_⟩; have n0_ := Aside0.mk hx9; have n1_ := Aside0.mk ho9; have n2_ := Aside0.mk hb9; obtain ⟨z0, z1, z2, zf⟩ := cu_cells hx9; clear hx9 ho9 hb9; clear HX HV HB; have HX := n0_; have HV := n1_; have HB := n2_; clear n0_ n1_ n2_))
                  go_roundg k2
                  case measure => have := HK1.out; omega
                  case rel => exact ⟨(wrap64 (t + 1)), q1, v9, (by first | rfl | (simp; done) | (simp [*]; done)), H', ⟨by have := HK1.out; omega⟩, ⟨(by (with_reducible repeat (first | refine blk_drewN ?_ _ | refine blk_drew ?_ | refine blk_alloc ?_ _)); exact HX.out)⟩, ⟨(by (with_reducible repeat (first | apply Kd.R_alloc | apply Kd.R_drewN | apply Kd.R_drew)); exact HV.out)⟩, ⟨(by repeat (first | (with_reducible first | exact HB.out | apply below_alloc | apply pw_below_drewN | apply below_drew1) | exact HB.out))⟩⟩
                · rw [if_neg c8] at H
                  have c8b0 : (q2 != 0) = true := bne_iff_ne.mpr c8
                  clear c8
                  simp only [Option.some.injEq, Prod.mk.injEq] at H
                  obtain ⟨rfl, rfl⟩ := H
                  go_wp2_with (first | ((with_reducible refine gate_callee (f := 90) rfl ?_); refine goesL_ (some 51) rfl rfl Try.func90 (by kernel_rfl) rfl #[.int .i64 a0, .int .u64 d, .int .i64 t] rfl (by (try simp only [List.map_toArray, List.map_cons, List.map_nil]); first | done | rfl) ?_; (with_reducible refine (node_Child.calls k2 a0 d t n1 0 _ A11.out).mono ?_); rintro e w' ⟨rfl, ⟨nd, rfl⟩⟩; refine ⟨_, rfl, ?_⟩) | ((with_reducible refine gate_callee (f := 44) rfl ?_); refine goesL_ (some 61) rfl rfl Try.func44 (by kernel_rfl) rfl #[.pointer (some ⟨w.heap.size, 0, none⟩), .int .u64 n1] rfl (by (try simp only [List.map_toArray, List.map_cons, List.map_nil]); first | done | rfl) ?_; refine (IH.out k2 ?lt a0 A c l o n1 q2 q1 w _ u HR.out HC.out ?sB ?sX ?sV A13.out).mono ?_; (case lt => have := HK1.out; omega); (case sB => exact (by repeat (first | (with_reducible first | exact HB.out | apply below_alloc | apply pw_below_drewN | apply below_drew1) | exact HB.out))); (case sX => exact (by (with_reducible repeat (first | refine blk_drewN ?_ _ | refine blk_drew ?_ | refine blk_alloc ?_ _)); exact HX.out)); (case sV => exact (by (with_reducible repeat (first | apply Kd.R_alloc | apply Kd.R_drewN | apply Kd.R_drew)); exact HV.out)); rintro e w9 ⟨rfl, v9, hx9, ho9, hb9⟩; refine ⟨_, rfl, ?_⟩; have n0_ := Aside0.mk hx9; have n1_ := Aside0.mk ho9; have n2_ := Aside0.mk hb9; obtain ⟨z0, z1, z2, zf⟩ := cu_cells hx9; clear hx9 ho9 hb9; clear HX HV HB; have HX := n0_; have HV := n1_; have HB := n2_; clear n0_ n1_ n2_))
                  go_ret
                  exact ⟨rfl, v9, (by (with_reducible repeat (first | refine blk_drewN ?_ _ | refine blk_drew ?_ | refine blk_alloc ?_ _)); exact HX.out), (by (with_reducible repeat (first | apply Kd.R_alloc | apply Kd.R_drewN | apply Kd.R_drew)); exact HV.out), (by repeat (first | (with_reducible first | exact HB.out | apply below_alloc | apply pw_below_drewN | apply below_drew1) | exact HB.out))⟩
              · rw [if_neg c7] at H
                have c7b0 : (n2 != 0) = true := bne_iff_ne.mpr c7
                clear c7
                simp only [Option.some.injEq, Prod.mk.injEq] at H
                obtain ⟨rfl, rfl⟩ := H
                go_wp2_with (first | ((with_reducible refine gate_callee (f := 90) rfl ?_); refine goesL_ (some 51) rfl rfl Try.func90 (by kernel_rfl) rfl #[.int .i64 a0, .int .u64 d, .int .i64 t] rfl (by (try simp only [List.map_toArray, List.map_cons, List.map_nil]); first | done | rfl) ?_; (with_reducible refine (node_Child.calls k2 a0 d t n1 n2 _ A11.out).mono ?_); rintro e w' ⟨rfl, ⟨nd, rfl⟩⟩; refine ⟨_, rfl, ?_⟩))
                go_ret
                exact ⟨rfl, u, (by (with_reducible repeat (first | refine blk_drewN ?_ _ | refine blk_drew ?_ | refine blk_alloc ?_ _)); exact HX.out), (by (with_reducible repeat (first | apply Kd.R_alloc | apply Kd.R_drewN | apply Kd.R_drew)); exact HV.out), (by repeat (first | (with_reducible first | exact HB.out | apply below_alloc | apply pw_below_drewN | apply below_drew1) | exact HB.out))⟩
          · rw [if_neg c5] at H
            have c5b0 : decide (t < 2) = false := decide_eq_false c5
            clear c5
            simp only [Option.some.injEq, Prod.mk.injEq] at H
            obtain ⟨rfl, rfl⟩ := H
            go_wp2
            go_ret
            exact ⟨rfl, u, (by (with_reducible repeat (first | refine blk_drewN ?_ _ | refine blk_drew ?_ | refine blk_alloc ?_ _)); exact HX.out), (by (with_reducible repeat (first | apply Kd.R_alloc | apply Kd.R_drewN | apply Kd.R_drew)); exact HV.out), (by repeat (first | (with_reducible first | exact HB.out | apply below_alloc | apply pw_below_drewN | apply below_drew1) | exact HB.out))⟩
    · rw [if_neg c2] at H
      have c2b0 : (d != top) = true := bne_iff_ne.mpr c2
      clear c2
      by_cases c3 : out.length < 8796093022207
      · rw [if_pos c3] at H
        have HL := Aside0.mk c3
        have H' := Aside0.mk H
        clear H c3
        go_enter Try.func44, Try.ntmps44
        go_wp2
        go_region_held3 (fun w' => w'.cell? ⟨w.heap.size, 0, none⟩ = some (.int .i64 a0) ∧ w'.cell? ⟨w.heap.size, 1, none⟩ = some (.slice A l.length c)) (go_keep)
          (first | (go_at_call 89; refine (steiner_Down.calls k a0 A c l top d 0 _ ?side1 HC.out A3.out).mono ?_; (case side1 => repeat (first | exact Kd.C_below HR.out HB.out | (with_reducible refine Kd.C_drewN ?_ _) | (with_reducible refine Kd.C_drew ?_))); rintro e w5 ⟨rfl, hb⟩; have n0_ := Aside0.mk (blk_below (by (with_reducible repeat (first | refine blk_drewN ?_ _ | refine blk_drew ?_)); exact HX.out) hb); have n1_ := Aside0.mk (Kd.R_below (by (with_reducible repeat (first | apply Kd.R_drewN | apply Kd.R_drew)); exact HV.out) hb); have n2_ := Aside0.mk (below_step (by repeat (first | (with_reducible first | exact HB.out | apply pw_below_drewN | apply below_drew1) | exact HB.out)) hb); obtain ⟨y0, y1, y2, yf⟩ := cu_cells n0_.out; clear HX HV HB; have HX := n0_; have HV := n1_; have HB := n2_; clear n0_ n1_ n2_ hb))
        clear x0 x1 x2 xf hx
        have HNE := Aside0.mk (Kd.R_ne HV.out HX.out (by decide))
        go_wp2_with (first | (at_builtin; refine Kd.R_append k34 (w0 := w) w.heap.size rfl (.tmp 33) (.tmp 37) 24 34 (.agg #[(.int .u64 0), (.int .u64 0)]) 16 rfl Try.underlying24 info34 rfl (by decide) (by omega) v out (⟨top, d⟩ : S34) [.int .u64 top, .int .u64 d] (fun _ => True) (fun _ => False) rfl rfl ?aP (fun _ hk => hk.elim) ?aF ?aO ?aB ?aS ?aL ?_; (case aP => exact k34_mkM _ _ _ (⟨top, d⟩ : S34)); (case aB => exact (by repeat (first | (with_reducible first | exact HB.out | apply below_alloc | apply pw_below_drewN | apply below_drew1) | exact HB.out))); (case aF => exact (fun _ _ => trivial)); (case aO => exact (by (with_reducible repeat (first | apply Kd.R_alloc | apply Kd.R_drewN | apply Kd.R_drew)); exact HV.out)); (case aS => exact below_size (by repeat (first | (with_reducible first | exact HB.out | apply below_alloc | apply pw_below_drewN | apply below_drew1) | exact HB.out))); (case aL => have := HL.out; omega); intro v1 w1 ho hb hg hat; have hx1 := cu_grown (by (with_reducible repeat (first | refine blk_drewN ?_ _ | refine blk_drew ?_ | refine blk_alloc ?_ _)); exact HX.out) hg (by have := HNE.out; first | exact this | exact fun e => this e); obtain ⟨y0, y1, y2, yf⟩ := cu_cells hx1; have HX1 := Aside0.mk hx1; have HV1 := Aside0.mk ho; have HB1 := Aside0.mk hb; clear ho hb hg hat hx1; obtain ⟨A1, cc1, e1_⟩ := Kd.R_slice HV1.out; have e2_ : v1 = .slice A1 (out.length + 1) cc1 := (by rw [e1_, List.length_append]; rfl); clear e1_; subst e2_))
        have n0_ := Aside0.mk (cu_set HX1.out (.slice A1 (out.length + 1) cc1))
        have n1_ := Aside0.mk (cu_R (u := .slice A1 (out.length + 1) cc1) HV1.out HX1.out (by decide))
        have n2_ := Aside0.mk (HB1.out.setCell (p := ⟨w.heap.size, 2, none⟩) (Nat.le_refl w.heap.size) (.slice A1 (out.length + 1) cc1))
        clear HX HV HB HX1 HV1 HB1
        have HX := n0_
        have HV := n1_
        have HB := n2_
        clear n0_ n1_ n2_
        go_loopg [41] k (fun kq v41 w' => ∃ (t : Int) (o : List S34) (u : Value), v41 = .int .i64 t ∧ Aside0 (diff_cut.g kq a0 l d t o = some (out', r)) ∧ Aside0 (kq ≤ k) ∧ Aside0 (w'.heap[w.heap.size]? = some (.cells #[.int .i64 a0, .slice A l.length c, u] 85 (0, 0))) ∧ Aside0 (Kd.R k34 34 w' w.heap.size (fun _ => True) u o) ∧ Aside0 (Below w.heap.size w w'))
        case atStart => exact ⟨0, (out ++ [⟨top, d⟩]), .slice A1 (out.length + 1) cc1, rfl, H', ⟨Nat.le_refl _⟩, ⟨(by (with_reducible repeat (first | refine blk_drewN ?_ _ | refine blk_drew ?_ | refine blk_alloc ?_ _)); exact HX.out)⟩, ⟨(by (with_reducible repeat (first | apply Kd.R_alloc | apply Kd.R_drewN | apply Kd.R_drew)); exact HV.out)⟩, ⟨(by repeat (first | (with_reducible first | exact HB.out | apply below_alloc | apply pw_below_drewN | apply below_drew1) | exact HB.out))⟩⟩
        case round =>
          clear H' HX HV HB
          try clear y0 y1 y2 yf
          obtain ⟨t, o, u, rfl, HA, HK1, HX, HV, HB⟩ := hrel
          cases gk with
          | zero => exact absurd HA.out (by simp [diff_cut.g])
          | succ k2 =>
            have H := HA.out
            clear HA
            rw [diff_cut.g] at H
            obtain ⟨x0, x1, x2, xf⟩ := cu_cells HX.out
            by_cases c5 : t < 2
            · rw [if_pos c5] at H
              have c5b0 : decide (t < 2) = true := decide_eq_true c5
              clear c5
              obtain ⟨⟨n1, n2⟩, A110, H⟩ := Option.bind_eq_some_iff.mp H
              dsimp only at H
              have A11 := Aside0.mk A110
              clear A110
              by_cases c6 : n2 = 4
              · rw [if_pos c6] at H
                subst c6
                simp only [Option.some.injEq, Prod.mk.injEq] at H
                obtain ⟨rfl, rfl⟩ := H
                go_wp2_with (first | ((with_reducible refine gate_callee (f := 90) rfl ?_); refine goesL_ (some 51) rfl rfl Try.func90 (by kernel_rfl) rfl #[.int .i64 a0, .int .u64 d, .int .i64 t] rfl (by (try simp only [List.map_toArray, List.map_cons, List.map_nil]); first | done | rfl) ?_; (with_reducible refine (node_Child.calls k2 a0 d t n1 4 _ A11.out).mono ?_); rintro e w' ⟨rfl, ⟨nd, rfl⟩⟩; refine ⟨_, rfl, ?_⟩))
                go_ret
                exact ⟨rfl, u, (by (with_reducible repeat (first | refine blk_drewN ?_ _ | refine blk_drew ?_ | refine blk_alloc ?_ _)); exact HX.out), (by (with_reducible repeat (first | apply Kd.R_alloc | apply Kd.R_drewN | apply Kd.R_drew)); exact HV.out), (by repeat (first | (with_reducible first | exact HB.out | apply below_alloc | apply pw_below_drewN | apply below_drew1) | exact HB.out))⟩
              · rw [if_neg c6] at H
                have c6b0 : (n2 == 4) = false := beq_eq_false_iff_ne.mpr c6
                clear c6
                by_cases c7 : n2 = 0
                · rw [if_pos c7] at H
                  subst c7
                  obtain ⟨⟨q1, q2⟩, A130, H⟩ := Option.bind_eq_some_iff.mp H
                  dsimp only at H
                  have A13 := Aside0.mk A130
                  clear A130
                  by_cases c8 : q2 = 0
                  · rw [if_pos c8] at H
                    subst c8
                    have H' := Aside0.mk H
                    clear H
                    go_wp2_with (first | ((with_reducible refine gate_callee (f := 90) rfl ?_); refine goesL_ (some 51) rfl rfl Try.func90 (by kernel_rfl) rfl #[.int .i64 a0, .int .u64 d, .int .i64 t] rfl (by (try simp only [List.map_toArray, List.map_cons, List.map_nil]); first | done | rfl) ?_; (with_reducible refine (node_Child.calls k2 a0 d t n1 0 _ A11.out).mono ?_); rintro e w' ⟨rfl, ⟨nd, rfl⟩⟩; refine ⟨_, rfl, ?_⟩) | ((with_reducible refine gate_callee (f := 44) rfl ?_); refine goesL_ (some 61) rfl rfl Try.func44 (by kernel_rfl) rfl #[.pointer (some ⟨w.heap.size, 0, none⟩), .int .u64 n1] rfl (by (try simp only [List.map_toArray, List.map_cons, List.map_nil]); first | done | rfl) ?_; refine (IH.out k2 ?lt a0 A c l o n1 0 q1 w _ u HR.out HC.out ?sB ?sX ?sV A13.out).mono ?_; (case lt => have := HK1.out; omega); (case sB => exact (by repeat (first | (with_reducible first | exact HB.out | apply below_alloc | apply pw_below_drewN | apply below_drew1) | exact HB.out))); (case sX => exact (by (with_reducible repeat (first | refine blk_drewN ?_ _ | refine blk_drew ?_ | refine blk_alloc ?_ _)); exact HX.out)); (case sV => exact (by (with_reducible repeat (first | apply Kd.R_alloc | apply Kd.R_drewN | apply Kd.R_drew)); exact HV.out)); rintro e w9 ⟨rfl, v9, hx9, ho9, hb9⟩; refine ⟨_, rfl, ?_⟩; have n0_ := Aside0.mk hx9; have n1_ := Aside0.mk ho9; have n2_ := Aside0.mk hb9; obtain ⟨z0, z1, z2, zf⟩ := cu_cells hx9; clear hx9 ho9 hb9; clear HX HV HB; have HX := n0_; have HV := n1_; have HB := n2_; clear n0_ n1_ n2_))
                    go_roundg k2
                    case measure => have := HK1.out; omega
                    case rel => exact ⟨(wrap64 (t + 1)), q1, v9, (by first | rfl | (simp; done) | (simp [*]; done)), H', ⟨by have := HK1.out; omega⟩, ⟨(by (with_reducible repeat (first | refine blk_drewN ?_ _ | refine blk_drew ?_ | refine blk_alloc ?_ _)); exact HX.out)⟩, ⟨(by (with_reducible repeat (first | apply Kd.R_alloc | apply Kd.R_drewN | apply Kd.R_drew)); exact HV.out)⟩, ⟨(by repeat (first | (with_reducible first | exact HB.out | apply below_alloc | apply pw_below_drewN | apply below_drew1) | exact HB.out))⟩⟩
                  · rw [if_neg c8] at H
                    have c8b0 : (q2 != 0) = true := bne_iff_ne.mpr c8
                    clear c8
                    simp only [Option.some.injEq, Prod.mk.injEq] at H
                    obtain ⟨rfl, rfl⟩ := H
                    go_wp2_with (first | ((with_reducible refine gate_callee (f := 90) rfl ?_); refine goesL_ (some 51) rfl rfl Try.func90 (by kernel_rfl) rfl #[.int .i64 a0, .int .u64 d, .int .i64 t] rfl (by (try simp only [List.map_toArray, List.map_cons, List.map_nil]); first | done | rfl) ?_; (with_reducible refine (node_Child.calls k2 a0 d t n1 0 _ A11.out).mono ?_); rintro e w' ⟨rfl, ⟨nd, rfl⟩⟩; refine ⟨_, rfl, ?_⟩) | ((with_reducible refine gate_callee (f := 44) rfl ?_); refine goesL_ (some 61) rfl rfl Try.func44 (by kernel_rfl) rfl #[.pointer (some ⟨w.heap.size, 0, none⟩), .int .u64 n1] rfl (by (try simp only [List.map_toArray, List.map_cons, List.map_nil]); first | done | rfl) ?_; refine (IH.out k2 ?lt a0 A c l o n1 q2 q1 w _ u HR.out HC.out ?sB ?sX ?sV A13.out).mono ?_; (case lt => have := HK1.out; omega); (case sB => exact (by repeat (first | (with_reducible first | exact HB.out | apply below_alloc | apply pw_below_drewN | apply below_drew1) | exact HB.out))); (case sX => exact (by (with_reducible repeat (first | refine blk_drewN ?_ _ | refine blk_drew ?_ | refine blk_alloc ?_ _)); exact HX.out)); (case sV => exact (by (with_reducible repeat (first | apply Kd.R_alloc | apply Kd.R_drewN | apply Kd.R_drew)); exact HV.out)); rintro e w9 ⟨rfl, v9, hx9, ho9, hb9⟩; refine ⟨_, rfl, ?_⟩; have n0_ := Aside0.mk hx9; have n1_ := Aside0.mk ho9; have n2_ := Aside0.mk hb9; obtain ⟨z0, z1, z2, zf⟩ := cu_cells hx9; clear hx9 ho9 hb9; clear HX HV HB; have HX := n0_; have HV := n1_; have HB := n2_; clear n0_ n1_ n2_))
                    go_ret
                    exact ⟨rfl, v9, (by (with_reducible repeat (first | refine blk_drewN ?_ _ | refine blk_drew ?_ | refine blk_alloc ?_ _)); exact HX.out), (by (with_reducible repeat (first | apply Kd.R_alloc | apply Kd.R_drewN | apply Kd.R_drew)); exact HV.out), (by repeat (first | (with_reducible first | exact HB.out | apply below_alloc | apply pw_below_drewN | apply below_drew1) | exact HB.out))⟩
                · rw [if_neg c7] at H
                  have c7b0 : (n2 != 0) = true := bne_iff_ne.mpr c7
                  clear c7
                  simp only [Option.some.injEq, Prod.mk.injEq] at H
                  obtain ⟨rfl, rfl⟩ := H
                  go_wp2_with (first | ((with_reducible refine gate_callee (f := 90) rfl ?_); refine goesL_ (some 51) rfl rfl Try.func90 (by kernel_rfl) rfl #[.int .i64 a0, .int .u64 d, .int .i64 t] rfl (by (try simp only [List.map_toArray, List.map_cons, List.map_nil]); first | done | rfl) ?_; (with_reducible refine (node_Child.calls k2 a0 d t n1 n2 _ A11.out).mono ?_); rintro e w' ⟨rfl, ⟨nd, rfl⟩⟩; refine ⟨_, rfl, ?_⟩))
                  go_ret
                  exact ⟨rfl, u, (by (with_reducible repeat (first | refine blk_drewN ?_ _ | refine blk_drew ?_ | refine blk_alloc ?_ _)); exact HX.out), (by (with_reducible repeat (first | apply Kd.R_alloc | apply Kd.R_drewN | apply Kd.R_drew)); exact HV.out), (by repeat (first | (with_reducible first | exact HB.out | apply below_alloc | apply pw_below_drewN | apply below_drew1) | exact HB.out))⟩
            · rw [if_neg c5] at H
              have c5b0 : decide (t < 2) = false := decide_eq_false c5
              clear c5
              simp only [Option.some.injEq, Prod.mk.injEq] at H
              obtain ⟨rfl, rfl⟩ := H
              go_wp2
              go_ret
              exact ⟨rfl, u, (by (with_reducible repeat (first | refine blk_drewN ?_ _ | refine blk_drew ?_ | refine blk_alloc ?_ _)); exact HX.out), (by (with_reducible repeat (first | apply Kd.R_alloc | apply Kd.R_drewN | apply Kd.R_drew)); exact HV.out), (by repeat (first | (with_reducible first | exact HB.out | apply below_alloc | apply pw_below_drewN | apply below_drew1) | exact HB.out))⟩
      · rw [if_neg c3] at H
        cases H
  · rw [if_neg c1] at H
    have c1b0 : (e1 != 0) = true := bne_iff_ne.mpr c1
    clear c1
    simp only [Option.some.injEq, Prod.mk.injEq] at H
    obtain ⟨rfl, rfl⟩ := H
    go_enter Try.func44, Try.ntmps44
    go_wp2
    go_region_held3 (fun w' => w'.cell? ⟨w.heap.size, 0, none⟩ = some (.int .i64 a0) ∧ w'.cell? ⟨w.heap.size, 1, none⟩ = some (.slice A l.length c)) (go_keep)
      (first | (go_at_call 89; refine (steiner_Down.calls k a0 A c l top d e1 _ ?side1 HC.out A3.out).mono ?_; (case side1 => repeat (first | exact Kd.C_below HR.out HB.out | (with_reducible refine Kd.C_drewN ?_ _) | (with_reducible refine Kd.C_drew ?_))); rintro e w5 ⟨rfl, hb⟩; have n0_ := Aside0.mk (blk_below (by (with_reducible repeat (first | refine blk_drewN ?_ _ | refine blk_drew ?_)); exact HX.out) hb); have n1_ := Aside0.mk (Kd.R_below (by (with_reducible repeat (first | apply Kd.R_drewN | apply Kd.R_drew)); exact HV.out) hb); have n2_ := Aside0.mk (below_step (by repeat (first | (with_reducible first | exact HB.out | apply pw_below_drewN | apply below_drew1) | exact HB.out)) hb); obtain ⟨y0, y1, y2, yf⟩ := cu_cells n0_.out; clear HX HV HB; have HX := n0_; have HV := n1_; have HB := n2_; clear n0_ n1_ n2_ hb))
    go_wp2
    go_ret
    exact ⟨rfl, v, HX.out, HV.out, HB.out⟩
open Go.Shelf Go.Lib Go.Sort in
shelf_lay_g SlLaysF0.n6 Slsf 6 at Try 45 as Try.laySortFunc
/-- A world that has drawn, and has new blocks. -/
def Grew (W w' : World) : Prop := ∃ q os, w' = Go.Sort.grow (W.drewN q) os
theorem Grew.refl (W : World) : Grew W W := ⟨0, #[], by simp [Go.Sort.grow, World.drewN]⟩
theorem Grew.drewN {W w' : World} (h : Grew W w') (n : Nat) : Grew W (w'.drewN n) := by
  obtain ⟨q, os, rfl⟩ := h
  exact ⟨q + n, os, by simp [Go.Sort.grow, World.drewN, Nat.add_assoc]⟩
theorem Grew.drew {W w' : World} (h : Grew W w') : Grew W w'.drew := by
  obtain ⟨q, os, rfl⟩ := h
  exact ⟨q + 1, os, by simp [Go.Sort.grow, World.drewN, World.drew, Nat.add_assoc]⟩
theorem Grew.alloc {W w' : World} (h : Grew W w') (o : Obj) : Grew W (w'.alloc o) := by
  obtain ⟨q, os, rfl⟩ := h
  refine ⟨q, os.push o, ?_⟩
  show ({ heap := (W.heap ++ os).push o, .. } : World) = _
  unfold Go.Sort.grow
  rw [Array.append_push]; rfl
theorem C_two (W : World) (a b : Int) : Kd.C (Kd.int .i64) (W.alloc (.cells #[.int .i64 a, .int .i64 b] 3)) (some ⟨W.heap.size, 0, none⟩) 2 [a, b] := by
  have h := World.ownsRow_lit (base := 0) (e := 3) (size := 1) W #[.int .i64 a, .int .i64 b] 2 (Nat.zero_le _) (by simp only [maxLen]; omega) rfl
  exact (Kd.R_reads' (Kd.R_of_own (enc := Value.int .i64) (h1 := fun _ => rfl) (xs := [a, b]) (ok := fun _ => True) h (fun _ _ => trivial))).2.2
theorem cu_al {W : World} {o : Obj} {a : Addr} {v : Value} (h : W.cell? a = some v) : (W.alloc o).cell? a = some v := by
  have hb : a.block < W.heap.size := World.block_lt_of_cell? _ _ h
  rw [World.cell?] at h ⊢
  have : (W.alloc o).heap[a.block]? = W.heap[a.block]? := by
    show (W.heap.push o)[a.block]? = _
    rw [Array.getElem?_push_lt hb, Array.getElem?_eq_getElem hb]
  rw [this]; exact h
def ordf (x y : S34) : Int := if x.f0 < y.f0 then -1 else if x.f0 > y.f0 then 1 else if x.f1 < y.f1 then -1 else if x.f1 > y.f1 then 1 else 0
theorem cmp_eq (a b : Int) : cmp_Compare_uint64.f a b = some (if a < b then -1 else if a > b then 1 else 0) := by
  unfold cmp_Compare_uint64.f cmp_isNaN_uint64.f
  simp
  split
  · rfl
  · split <;> rfl
theorem or_eq (a b : Int) : cmp_Or_int.f 10 [a, b] = some (if a = 0 then b else a) := by
  unfold cmp_Or_int.f
  have r0 : rd [a, b] 0 = a := rfl
  have r1 : rd [a, b] 1 = b := rfl
  have w1 : wrap64 (0 + 1) = 1 := by unfold wrap64; omega
  have w2 : wrap64 (1 + 1) = 2 := by unfold wrap64; omega
  rw [cmp_Or_int.l0, if_pos (by simp), if_pos (by omega), if_pos (by simp), r0, w1]
  by_cases c : a = 0
  · rw [if_pos c, if_pos c, cmp_Or_int.l0, if_pos (by simp), if_pos (by omega), if_pos (by simp), r1, w2]
    by_cases d : b = 0
    · rw [if_pos d, cmp_Or_int.l0, if_neg (by simp), d]
    · rw [if_neg d]
  · rw [if_neg c, if_neg c]
set_option maxHeartbeats 8000000 in
set_option maxRecDepth 100000 in
theorem diff_order.grew (x y : S34) (W : World) : Calls Try.prog 46 #[.agg #[.int .u64 x.f0, .int .u64 x.f1], .agg #[.int .u64 y.f0, .int .u64 y.f1]] W fun e w' => e = .returned (.int .i64 (ordf x y)) ∧ Grew W w' := by
  have hu34 := Try.underlying34
  obtain ⟨c0, h0⟩ : ∃ c, c = (if x.f0 < y.f0 then -1 else if x.f0 > y.f0 then 1 else (0 : Int)) := ⟨_, rfl⟩
  obtain ⟨c1, h1⟩ : ∃ c, c = (if x.f1 < y.f1 then -1 else if x.f1 > y.f1 then 1 else (0 : Int)) := ⟨_, rfl⟩
  have e : ordf x y = if c0 = 0 then c1 else c0 := by
    subst h0 h1
    unfold ordf
    by_cases a : x.f0 < y.f0
    · simp [a]
    · by_cases b : x.f0 > y.f0
      · simp [a, b]
      · simp [a, b]
  have A1 := Aside0.mk (show cmp_Compare_uint64.f x.f0 y.f0 = some c0 by rw [cmp_eq, h0])
  have A2 := Aside0.mk (show cmp_Compare_uint64.f x.f1 y.f1 = some c1 by rw [cmp_eq, h1])
  have A3 := Aside0.mk (show cmp_Or_int.f 10 [c0, c1] = some (ordf x y) by rw [or_eq, e])
  clear h0 h1 e
  generalize ordf x y = r at A3 ⊢
  obtain ⟨W2, hW2⟩ : ∃ W2, W2 = (W.alloc (.cells #[.int .u64 x.f0, .int .u64 x.f1] 34)).alloc (.cells #[.int .u64 y.f0, .int .u64 y.f1] 34) := ⟨_, rfl⟩
  have HG := Aside0.mk (show Grew W W2 by rw [hW2]; exact ((Grew.refl W).alloc _).alloc _)
  have b1 : W2.heap[W.heap.size]? = some (.cells #[.int .u64 x.f0, .int .u64 x.f1] 34 (0, 0)) := by
    rw [hW2]; exact blk_below (blk_new W _) (below_alloc (Below.refl _ _) _)
  have b2 : W2.heap[W.heap.size + 1]? = some (.cells #[.int .u64 y.f0, .int .u64 y.f1] 34 (0, 0)) := by
    have h : (W.alloc (.cells #[.int .u64 x.f0, .int .u64 x.f1] 34)).heap.size = W.heap.size + 1 := Array.size_push ..
    rw [hW2, ← h]; exact blk_new _ _
  have y0 : W2.cell? ⟨W.heap.size, 0, none⟩ = some (.int .u64 x.f0) := by simp [World.cell?, b1]
  have y1 : W2.cell? ⟨W.heap.size, 1, none⟩ = some (.int .u64 x.f1) := by simp [World.cell?, b1]
  have y2 : W2.cell? ⟨W.heap.size + 1, 0, none⟩ = some (.int .u64 y.f0) := by simp [World.cell?, b2]
  have y3 : W2.cell? ⟨W.heap.size + 1, 1, none⟩ = some (.int .u64 y.f1) := by simp [World.cell?, b2]
  have OR : ∀ W', Kd.C (Kd.int .i64) W' (some ⟨W2.heap.size, 0, none⟩) 2 [c0, c1] → Calls Try.prog 62 #[.slice (some ⟨W2.heap.size, 0, none⟩) 2 2] W' fun e w' => e = .returned (.int .i64 r) ∧ Drawn0 W' w' := fun W' h => cmp_Or_int.calls 10 _ 2 [c0, c1] r W' h (by simp) A3.out
  go_enter Try.func46, Try.ntmps46
  go_wp2
  rw [← hW2]
  clear hW2 b1 b2
  go_region_held3 (fun w' => w'.cell? ⟨W.heap.size, 0, none⟩ = some (.int .u64 x.f0) ∧ w'.cell? ⟨W.heap.size, 1, none⟩ = some (.int .u64 x.f1) ∧ w'.cell? ⟨W.heap.size + 1, 0, none⟩ = some (.int .u64 y.f0) ∧ w'.cell? ⟨W.heap.size + 1, 1, none⟩ = some (.int .u64 y.f1)) (first | exact ⟨y0, y1, y2, y3⟩ | exact ⟨cu_al y0, cu_al y1, cu_al y2, cu_al y3⟩)
    (first | (go_at_call 63; with_reducible refine (cmp_Compare_uint64.calls x.f0 y.f0 c0 _ A1.out).mono ?_; rintro e w' ⟨rfl, ⟨nd, rfl⟩⟩) | (go_at_call 63; with_reducible refine (cmp_Compare_uint64.calls x.f1 y.f1 c1 _ A2.out).mono ?_; rintro e w' ⟨rfl, ⟨nd2, rfl⟩⟩) | (go_at_call 62; with_reducible refine (OR _ ?s1).mono ?_; (case s1 => have h_ := C_two (W2.drewN (1 + nd + nd2)) c0 c1; rw [show (W2.drewN (1 + nd + nd2)).heap.size = W2.heap.size from by simp [World.drewN]] at h_; exact h_); rintro e w' ⟨rfl, ⟨nd3, rfl⟩⟩))
  all_goals
    go_wp2
    go_ret
    exact ⟨rfl, by repeat (first | exact HG.out | apply Grew.alloc | apply Grew.drewN | apply Grew.drew)⟩
section
open Go.Sort Go.Lib Go.Shelf
instance instInhS : Inhabited S34 := ⟨⟨0, 0⟩⟩
def encS (x : S34) : List Value := [.int .u64 x.f0, .int .u64 x.f1]
def leS (x y : S34) : Bool := !(ltOf ordf) y x
def sortS (xs : List S34) : List S34 := xs.mergeSort leS
theorem ltS_eq (x y : S34) : ltOf ordf x y = decide (x.f0 < y.f0 ∨ (x.f0 = y.f0 ∧ x.f1 < y.f1)) := by
  unfold ltOf ordf
  by_cases a : x.f0 < y.f0
  · simp [a]
  · by_cases b : x.f0 > y.f0
    · have : ¬ (x.f0 = y.f0) := by omega
      simp [a, b, this]
    · have e : x.f0 = y.f0 := by omega
      by_cases c : x.f1 < y.f1
      · simp [a, b, c, e]
      · by_cases d : x.f1 > y.f1
        · simp [a, b, c, d, e]
        · simp [a, b, c, d, e]
theorem swoS : SWO (ltOf ordf) where
  irrefl x := by rw [ltS_eq]; simp
  trans x y z h1 h2 := by rw [ltS_eq] at *; simp at *; omega
  ntrans x y z h1 h2 := by rw [ltS_eq] at *; simp at *; omega
theorem totS (x y : S34) (h1 : ltOf ordf x y = false) (h2 : ltOf ordf y x = false) : x = y := by
  rw [ltS_eq] at h1 h2
  obtain ⟨a, b⟩ := x
  obtain ⟨c, d⟩ := y
  simp at *
  omega
theorem reps_flat (w : World) (base : Nat) (ok : Nat → Prop) (xs : List S34) : Reps (k34.M w base ok) 2 xs (flatK encS 2 xs.toArray).toList := by
  refine ⟨by simp, fun j p hj => ?_⟩
  have hl : j < xs.length := (List.getElem?_eq_some_iff.1 hj).1
  have hp : xs[j]! = p := by rw [getElem!_pos _ j hl]; exact (List.getElem?_eq_some_iff.1 hj).2
  have e : ((flatK encS 2 xs.toArray).toList.drop (j * 2)).take 2 = [.int .u64 p.f0, .int .u64 p.f1] := by
    have g : ∀ c, c < 2 → (flatK encS 2 xs.toArray)[j * 2 + c]! = (encS p)[c]! := fun c hc => by
      rw [get_flatK _ _ _ _ (by simp; omega)]
      have h1 : (j * 2 + c) / 2 = j := by omega
      have h2 : (j * 2 + c) % 2 = c := by omega
      rw [h1, h2]
      have : xs.toArray[j]! = p := by rw [← hp]; simp
      rw [this]
    have hs : (flatK encS 2 xs.toArray).size = xs.length * 2 := by simp
    apply List.ext_getElem
    · simp; omega
    · intro i hi1 hi2
      have hi : i < 2 := by simpa using hi2
      have := g i hi
      rw [getElem!_pos _ _ (by omega)] at this
      simp only [List.getElem_take, List.getElem_drop, Array.getElem_toList, this]
      match i, hi with
      | 0, _ => rfl
      | 1, _ => rfl
  rw [e]
  exact k34_mkM w base ok p
theorem reps_unique {w : World} {base : Nat} {ok : Nat → Prop} {xs : List S34} {a b : List Value} (ha : Reps (k34.M w base ok) 2 xs a) (hb : Reps (k34.M w base ok) 2 xs b) : a = b := by
  apply List.ext_getElem
  · rw [ha.1, hb.1]
  · intro i hi1 hi2
    have hl : i / 2 < xs.length := by have := ha.1; omega
    have h1 := k34_openM (ha.2 (i / 2) _ (List.getElem?_eq_getElem hl))
    have h2 := k34_openM (hb.2 (i / 2) _ (List.getElem?_eq_getElem hl))
    have h3 : ((a.drop (i / 2 * 2)).take 2)[i % 2]? = ((b.drop (i / 2 * 2)).take 2)[i % 2]? := by rw [h1, h2]
    have h4 : i % 2 < 2 := by omega
    have h5 : i / 2 * 2 + i % 2 = i := by omega
    rw [List.getElem?_take_of_lt h4, List.getElem?_take_of_lt h4, List.getElem?_drop, List.getElem?_drop, h5, List.getElem?_eq_getElem hi1, List.getElem?_eq_getElem hi2] at h3
    exact Option.some.inj h3
set_option maxHeartbeats 4000000 in
theorem sort_any (cf : Nat) (eg : ∀ args w, (callFunc cf args).run Try.prog w = .ok (.enter cf args) w) (hcf : ∀ (x y : S34) (W : World), Calls Try.prog cf #[.agg #[.int .u64 x.f0, .int .u64 x.f1], .agg #[.int .u64 y.f0, .int .u64 y.f1]] W fun e w' => e = .returned (.int .i64 (ordf x y)) ∧ Grew W w') (xs : List S34) (w0 W : World) (base : Nat) (v : Value) (hB : Below w0.heap.size w0 W) (hb0 : w0.heap.size ≤ base) (h : Kd.R k34 34 W base (fun _ => True) v xs) (hl : xs.length < 4611686018427387904) :
    Calls Try.prog 45 #[v, .func (.func cf) #[] #[]] W fun e W' => e = .returned (.tuple #[]) ∧ Kd.R k34 34 W' base (fun _ => True) v (sortS xs) ∧ Below w0.heap.size w0 W' ∧ (∀ k, k < W.heap.size → some k ≠ v.ownBlock → W'.heap[k]? = W.heap[k]?) := by
  obtain ⟨h0, inner, ⟨h1, h2⟩, hr⟩ := h
  rcases h2 with ⟨rfl, h2⟩ | ⟨g, cap, cur, rfl, hb, hh, hn, hc, hs, ht⟩
  · obtain rfl : xs = [] := List.length_eq_zero_iff.1 h2
    refine (show Calls Try.prog 45 _ W _ from AnyF.slices_SortFunc_none Try.laySortFunc none 0 _ W).mono ?_
    rintro e w' ⟨rfl, rfl⟩
    exact ⟨rfl, by rw [show sortS [] = [] from by unfold sortS; exact List.mergeSort_nil]; exact Kd.R_nil _ _ _ _ _, hB, fun _ _ _ => rfl⟩
  · have hin : inner = (flatK encS 2 xs.toArray).toList := reps_unique hr (reps_flat _ _ _ xs)
    have hsz2 : (flatK encS 2 xs.toArray).size = xs.length * 2 := by simp
    have hsz : k34.sz = 2 := rfl
    rw [hsz] at hs ht
    have hH : HoldsK encS 2 W g 0 xs.toArray := by
      intro j hj
      have hj' : j < xs.length * 2 := by rw [← hsz2]; exact hj
      have hjc : j < cur.size := by have := Nat.mul_le_mul_right 2 hn; omega
      have e1 : cur[j]? = some (flatK encS 2 xs.toArray)[j]! := by
        have e2 : (cur.toList.take (xs.length * 2))[j]? = (flatK encS 2 xs.toArray).toList[j]? := by rw [ht, hin]
        rw [List.getElem?_take_of_lt hj', Array.getElem?_toList, Array.getElem?_toList, Array.getElem?_eq_getElem hj] at e2
        rw [e2, getElem!_pos _ j hj]
      refine ⟨?_, ?_⟩
      · simp only [World.cell?, hh, Nat.zero_add]
        first | exact e1 | (simp [e1]; done) | (rw [e1]; rfl)
      · simp [World.frozen?, hh]
    have hblk : g < W.heap.size := by
      rcases Nat.lt_or_ge g W.heap.size with h | h
      · exact h
      · rw [Array.getElem?_eq_none h] at hh; cases hh
    have hcon := AnyQ.slices_SortFunc_total Try.laySortFunc 2 (by first | exact Try.isAgg34 | (intro w; rfl)) (by first | exact Try.sizeOf34 | (intro w; rfl)) encS (fun _ => rfl) (fun x v hv => by simp [encS] at hv; rcases hv with rfl | rfl <;> rfl) ordf swoS cf #[] g 0 cap xs.toArray W eg (fun m os dk _ x y => hcf x y _) hH hblk (by simpa using hl) totS
    have e3 : (xs.toArray.toList.mergeSort fun x y => !(ltOf ordf) y x).toArray = (sortS xs).toArray := rfl
    rw [e3, show xs.toArray.size = xs.length from by simp] at hcon
    refine (show Calls Try.prog 45 _ W _ from hcon).mono ?_
    have hls : (sortS xs).length = xs.length := List.length_mergeSort ..
    generalize sortS xs = ys at hls
    rintro e w' ⟨rfl, n, os, rfl⟩
    have hsz3 : (flatK encS 2 ys.toArray).size = xs.length * 2 := by simp [hls]
    have hcell : (sortWorldK encS 2 W g 0 n ys.toArray os).heap[g]? = some (.cells (putCells id 0 (flatK encS 2 ys.toArray) cur) 34 (0, 0)) := by
      simp only [sortWorldK, putRowK, putRow, grow, mapBlock, Go.Sort.ahead]
      rw [Array.getElem?_append_left (by simpa using hblk), Array.getElem?_modify, hh]
      simp [onCells]
    have hother : ∀ k, k < W.heap.size → k ≠ g → (sortWorldK encS 2 W g 0 n ys.toArray os).heap[k]? = W.heap[k]? := by
      intro k hk hne
      simp only [sortWorldK, putRowK, putRow, grow, mapBlock, Go.Sort.ahead]
      rw [Array.getElem?_append_left (by simpa using hk), Array.getElem?_modify, if_neg (fun e => hne e.symm)]
    have htk : (putCells id 0 (flatK encS 2 ys.toArray) cur).toList.take (ys.length * 2) = (flatK encS 2 ys.toArray).toList := by
      have := Nat.mul_le_mul_right 2 hn
      apply List.ext_getElem
      · simp [putCells, hls]; omega
      · intro i hi1 hi2
        have hi : i < ys.length * 2 := by simpa using hi2
        have hi3 : i < (flatK encS 2 ys.toArray).size := by simpa using hi
        simp [putCells, hi]
    have hrep := reps_flat (sortWorldK encS 2 W g 0 n ys.toArray os) base (fun k => True ∧ some k ≠ (Value.slice (some ⟨g, 0, none⟩) xs.length cap).ownBlock) ys
    refine ⟨rfl, ⟨fun _ _ => trivial, _, ⟨by rw [hrep.1]; rfl, .inr ⟨g, cap, _, by rw [hls], hb, hcell, by omega, hc, ?_, ?_⟩⟩, hrep⟩, ?_, ?_⟩
    · rw [hsz]; simpa [putCells] using hs
    · rw [hsz]; exact htk
    · refine ⟨(show (sortWorldK encS 2 W g 0 n ys.toArray os).os = W.os from rfl).trans hB.os, (show (sortWorldK encS 2 W g 0 n ys.toArray os).tape = W.tape from rfl).trans hB.tape, (show (sortWorldK encS 2 W g 0 n ys.toArray os).output = W.output from rfl).trans hB.output, ?_, ?_⟩
      · have h1 := hB.size
        have h2 : W.heap.size ≤ (sortWorldK encS 2 W g 0 n ys.toArray os).heap.size := by simp [sortWorldK, putRowK, putRow, grow, mapBlock, Go.Sort.ahead]
        omega
      · intro k hk
        have h1 := hB.size
        exact (hother k (by omega) (by omega)).trans (hB.block k hk)
    · intro k hk hne
      exact hother k hk (fun e => hne (by simp [Value.ownBlock, e]))
end
theorem eg46 : ∀ args w, (callFunc 46 args).run Try.prog w = .ok (.enter 46 args) w := enters_of Try.func46 (by kernel_rfl) rfl
def diff_Cover.f (k : Nat) (a0 : Int) (l1 : List Int) : Option (List S34 × Int) := (steiner_Is.f k a0 l1 1).bind fun s => if s.2 = 0 then (if s.1 = true then ((diff_cut.f k a0 l1 1 []).bind fun r => if r.2 = 0 then (if r.1.length < 4611686018427387904 then some (sortS r.1, 0) else none) else some ([], r.2)) else some ([⟨1, 0⟩], 0)) else some ([], s.2)
theorem diff_Cover.mono : ∀ a0 a1 k, LeO (diff_Cover.f k a0 a1) (diff_Cover.f (k + 1) a0 a1) := by
  intro a0 a1 k
  unfold diff_Cover.f
  repeat' first
      | (with_reducible exact (diff_cut.mono2 _).1 _ _ _ _)
      | (with_reducible exact steiner_Is.mono _ _ _ _)
      | (with_reducible exact LeO.refl _)
      | (with_reducible exact LeO.none _)
      | (with_reducible refine LeO.ite ?_ ?_)
      | (with_reducible refine LeO.bind ?_ (fun _ => ?_))
theorem diff_cut.box (k : Nat) (a0 : Int) (A : Option Addr) (c : Nat) (l : List Int) (o : List S34) (r : Int) (W0 W : World) (g : Nat) (hg : g = W0.heap.size) (hr : Kd.C (Kd.int .u64) W0 A l.length l) (hc : l.length ≤ c) (hx : W.heap[g]? = some (.cells #[.int .i64 a0, .slice A l.length c, .slice none 0 0] 85 (0, 0))) (hB : Below W0.heap.size W0 W) (h : diff_cut.f k a0 l 1 [] = some (o, r)) :
    Calls Try.prog 44 #[.pointer (some ⟨g, 0, none⟩), .int .u64 1] W fun e W' => e = .returned (.int .i64 r) ∧ ∃ (A' : Option Addr) (c' : Nat), W'.heap[g]? = some (.cells #[.int .i64 a0, .slice A l.length c, .slice A' o.length c'] 85 (0, 0)) ∧ Kd.R k34 34 W' g (fun _ => True) (.slice A' o.length c') o ∧ Below W0.heap.size W0 W' := by
  subst hg
  refine (diff_cut.calls k a0 A c l [] 1 r o W0 W (.slice none 0 0) hr hc hB hx (Kd.R_nil _ _ _ _ _) h).mono ?_
  rintro e w' ⟨rfl, v', hx', hv', hb'⟩
  obtain ⟨A', c', rfl⟩ := Kd.R_slice hv'
  exact ⟨rfl, A', c', hx', hv', hb'⟩
theorem sort_box (xs : List S34) (W0 W : World) (g : Nat) (A : Option Addr) (c n : Nat) (a0 : Int) (A1 : Option Addr) (c1 : Nat) (hg : g = W0.heap.size) (hB : Below W0.heap.size W0 W) (h : Kd.R k34 34 W g (fun _ => True) (.slice A xs.length c) xs) (hl : xs.length < 4611686018427387904) (hx : W.heap[g]? = some (.cells #[.int .i64 a0, .slice A1 n c1, .slice A xs.length c] 85 (0, 0))) :
    Calls Try.prog 45 #[.slice A xs.length c, .func (.func 46) #[] #[]] W fun e W' => e = .returned (.tuple #[]) ∧ W'.heap[g]? = some (.cells #[.int .i64 a0, .slice A1 n c1, .slice A xs.length c] 85 (0, 0)) ∧ Kd.R k34 34 W' g (fun _ => True) (.slice A xs.length c) (sortS xs) ∧ Below W0.heap.size W0 W' := by
  refine (sort_any 46 eg46 diff_order.grew xs W0 W g _ hB (by omega) h hl).mono ?_
  rintro e w' ⟨rfl, h1, h2, h3⟩
  exact ⟨rfl, (h3 g (blk_lt hx) (Kd.R_ne h hx (by decide))).trans hx, h1, h2⟩
set_option maxHeartbeats 8000000 in
set_option maxRecDepth 100000 in
theorem diff_Cover.calls (k : Nat) (a0 : Int) (A1 : Option Addr) (c1 : Nat) (l1 : List Int) (r1 : List S34) (r2 : Int) (w : World) (hr1 : Kd.C (Kd.int .u64) w A1 l1.length l1) (hc1 : l1.length ≤ c1) (h : diff_Cover.f k a0 l1 = some (r1, r2)) :
    Calls Try.prog 15 #[.int .i64 a0, .slice A1 l1.length c1] w fun e w' => ∃ v0_ : Value, e = .returned (.tuple #[v0_, .int .i64 r2]) ∧ Kd.R k34 34 w' w.heap.size (fun _ => True) v0_ r1 ∧ Below w.heap.size w w' := by
  have HR1 := Aside0.mk hr1
  have HC1 := Aside0.mk hc1
  clear hr1 hc1
  have HB := Aside0.mk (Below.refl w.heap.size w)
  have hu85 := Try.underlying85
  unfold diff_Cover.f at h
  obtain ⟨⟨s, e1⟩, A0, H⟩ := Option.bind_eq_some_iff.mp h
  dsimp only at H
  have AI := Aside0.mk A0
  clear h A0
  by_cases d1 : e1 = 0
  · rw [if_pos d1] at H
    subst d1
    by_cases d2 : s = true
    · rw [if_pos d2] at H
      subst d2
      obtain ⟨⟨o, e2⟩, A2, H⟩ := Option.bind_eq_some_iff.mp H
      dsimp only at H
      have AC := Aside0.mk A2
      clear A2
      by_cases d3 : e2 = 0
      · rw [if_pos d3] at H
        subst d3
        by_cases d4 : o.length < 4611686018427387904
        · rw [if_pos d4] at H
          simp only [Option.some.injEq, Prod.mk.injEq] at H
          obtain ⟨rfl, rfl⟩ := H
          have HL := Aside0.mk d4
          clear d4
          go_enter Try.func15, Try.ntmps15
          go_wp2_with (first
            | ((with_reducible refine gate_callee (f := 43) rfl ?_); refine goesL_ (some 13) rfl rfl Try.func43 (by kernel_rfl) rfl #[.int .i64 a0, .slice A1 l1.length c1, .int .u64 1] rfl (by (try simp only [List.map_toArray, List.map_cons, List.map_nil]); first | done | rfl) ?_; refine (steiner_Is.calls k a0 A1 c1 l1 1 true 0 _ ?sa HC1.out AI.out).mono ?_; (case sa => repeat (first | exact HR1.out | (with_reducible refine Kd.C_drewN ?_ _) | (with_reducible refine Kd.C_drew ?_))); rintro e w5 ⟨rfl, hb⟩; refine ⟨_, rfl, ?_⟩; have n2_ := Aside0.mk (below_step (by repeat (first | (with_reducible first | exact HB.out | apply pw_below_drewN | apply below_drew1) | exact HB.out)) hb); clear HB; have HB := n2_; clear n2_ hb)
            | ((with_reducible refine gate_dst (N := 28) rfl ?_); refine box_event ?hg (N := 28) ?hd (cs := #[.int .i64 a0, .slice A1 l1.length c1, .slice none 0 0]) (t := 85) ?hr ?_; (case hd => rfl); (case hg => rfl); (case hr => first | (go_simp; done) | (go_simp; rfl)); intro gb hg w6 hbox hb; have n0_ : ∃ W0 : World, gb = W0.heap.size ∧ Below w.heap.size w W0 ∧ Kd.C (Kd.int .u64) W0 A1 l1.length l1 ∧ Below W0.heap.size W0 w6 := ⟨_, hg, (by repeat (first | (with_reducible first | exact HB.out | apply pw_below_drewN | apply below_drew1) | exact HB.out)), Kd.C_below HR1.out (by repeat (first | (with_reducible first | exact HB.out | apply pw_below_drewN | apply below_drew1) | exact HB.out)), hb⟩; obtain ⟨W0, hg0, hB0, hR0, hBW⟩ := n0_; have HG := Aside0.mk hg0; have HB0 := Aside0.mk hB0; have HR0 := Aside0.mk hR0; have HX := Aside0.mk hbox; clear HB; have HB := Aside0.mk hBW; clear hg0 hB0 hR0 hBW hbox hb hg)
            | ((with_reducible refine gate_callee (f := 44) rfl ?_); refine goesL_ (some 30) rfl rfl Try.func44 (by kernel_rfl) rfl #[.pointer (some ⟨gb, 0, none⟩), .int .u64 1] rfl (by (try simp only [List.map_toArray, List.map_cons, List.map_nil]); first | done | rfl) ?_; refine (diff_cut.box k a0 A1 c1 l1 o 0 W0 _ gb HG.out HR0.out HC1.out ?sX ?sB AC.out).mono ?_; (case sB => exact (by repeat (first | (with_reducible first | exact HB.out | apply below_alloc | apply pw_below_drewN | apply below_drew1) | exact HB.out))); (case sX => exact (by (with_reducible repeat (first | refine blk_drewN ?_ _ | refine blk_drew ?_ | refine blk_alloc ?_ _)); exact HX.out)); rintro e w9 ⟨rfl, A9, c9, hx9, ho9, hb9⟩; refine ⟨_, rfl, ?_⟩; obtain ⟨z0, z1, z2, zf⟩ := cu_cells hx9; clear HX HB; have HX := Aside0.mk hx9; have HV := Aside0.mk ho9; have HB := Aside0.mk hb9; clear hx9 ho9 hb9)
            | ((with_reducible refine gate_callee (f := 45) rfl ?_); refine goesL_ (some 38) rfl rfl Try.func45 (by kernel_rfl) rfl #[.slice A9 o.length c9, .func (.func 46) #[] #[]] rfl (by (try simp only [List.map_toArray, List.map_cons, List.map_nil]); first | done | rfl) ?_; refine (sort_box o W0 _ gb A9 c9 l1.length a0 A1 c1 HG.out ?sB ?sV HL.out ?sX).mono ?_; (case sB => exact (by repeat (first | (with_reducible first | exact HB.out | apply below_alloc | apply pw_below_drewN | apply below_drew1) | exact HB.out))); (case sX => exact (by (with_reducible repeat (first | refine blk_drewN ?_ _ | refine blk_drew ?_ | refine blk_alloc ?_ _)); exact HX.out)); (case sV => exact (by (with_reducible repeat (first | apply Kd.R_alloc | apply Kd.R_drewN | apply Kd.R_drew)); exact HV.out)); rintro e w10 ⟨rfl, hx9, ho9, hb9⟩; refine ⟨_, rfl, ?_⟩; clear z0 z1 z2 zf; obtain ⟨y0, y1, y2, yf⟩ := cu_cells hx9; clear HX HB HV; have HX := Aside0.mk hx9; have HV := Aside0.mk ho9; have HB := Aside0.mk hb9; clear hx9 ho9 hb9))
          go_ret2
          exact ⟨_, rfl, Kd.R_lower (by (with_reducible repeat (first | apply Kd.R_alloc | apply Kd.R_drewN | apply Kd.R_drew)); exact HV.out) (by rw [HG.out]; exact HB0.out.size), below_step HB0.out (by repeat (first | (with_reducible first | exact HB.out | apply below_alloc | apply pw_below_drewN | apply below_drew1) | exact HB.out))⟩
        · rw [if_neg d4] at H
          cases H
      · rw [if_neg d3] at H
        simp only [Option.some.injEq, Prod.mk.injEq] at H
        obtain ⟨rfl, rfl⟩ := H
        have d3b0 : (e2 != 0) = true := bne_iff_ne.mpr d3
        clear d3
        go_enter Try.func15, Try.ntmps15
        go_wp2_with (first
            | ((with_reducible refine gate_callee (f := 43) rfl ?_); refine goesL_ (some 13) rfl rfl Try.func43 (by kernel_rfl) rfl #[.int .i64 a0, .slice A1 l1.length c1, .int .u64 1] rfl (by (try simp only [List.map_toArray, List.map_cons, List.map_nil]); first | done | rfl) ?_; refine (steiner_Is.calls k a0 A1 c1 l1 1 true 0 _ ?sa HC1.out AI.out).mono ?_; (case sa => repeat (first | exact HR1.out | (with_reducible refine Kd.C_drewN ?_ _) | (with_reducible refine Kd.C_drew ?_))); rintro e w5 ⟨rfl, hb⟩; refine ⟨_, rfl, ?_⟩; have n2_ := Aside0.mk (below_step (by repeat (first | (with_reducible first | exact HB.out | apply pw_below_drewN | apply below_drew1) | exact HB.out)) hb); clear HB; have HB := n2_; clear n2_ hb)
            | ((with_reducible refine gate_dst (N := 28) rfl ?_); refine box_event ?hg (N := 28) ?hd (cs := #[.int .i64 a0, .slice A1 l1.length c1, .slice none 0 0]) (t := 85) ?hr ?_; (case hd => rfl); (case hg => rfl); (case hr => first | (go_simp; done) | (go_simp; rfl)); intro gb hg w6 hbox hb; have n0_ : ∃ W0 : World, gb = W0.heap.size ∧ Below w.heap.size w W0 ∧ Kd.C (Kd.int .u64) W0 A1 l1.length l1 ∧ Below W0.heap.size W0 w6 := ⟨_, hg, (by repeat (first | (with_reducible first | exact HB.out | apply pw_below_drewN | apply below_drew1) | exact HB.out)), Kd.C_below HR1.out (by repeat (first | (with_reducible first | exact HB.out | apply pw_below_drewN | apply below_drew1) | exact HB.out)), hb⟩; obtain ⟨W0, hg0, hB0, hR0, hBW⟩ := n0_; have HG := Aside0.mk hg0; have HB0 := Aside0.mk hB0; have HR0 := Aside0.mk hR0; have HX := Aside0.mk hbox; clear HB; have HB := Aside0.mk hBW; clear hg0 hB0 hR0 hBW hbox hb hg)
            | ((with_reducible refine gate_callee (f := 44) rfl ?_); refine goesL_ (some 30) rfl rfl Try.func44 (by kernel_rfl) rfl #[.pointer (some ⟨gb, 0, none⟩), .int .u64 1] rfl (by (try simp only [List.map_toArray, List.map_cons, List.map_nil]); first | done | rfl) ?_; refine (diff_cut.box k a0 A1 c1 l1 o e2 W0 _ gb HG.out HR0.out HC1.out ?sX ?sB AC.out).mono ?_; (case sB => exact (by repeat (first | (with_reducible first | exact HB.out | apply below_alloc | apply pw_below_drewN | apply below_drew1) | exact HB.out))); (case sX => exact (by (with_reducible repeat (first | refine blk_drewN ?_ _ | refine blk_drew ?_ | refine blk_alloc ?_ _)); exact HX.out)); rintro e w9 ⟨rfl, A9, c9, hx9, ho9, hb9⟩; refine ⟨_, rfl, ?_⟩; clear HX HB; have HB := Aside0.mk hb9; clear hx9 ho9 hb9))
        go_ret2
        exact ⟨_, rfl, Kd.R_nil _ _ _ _ _, below_step HB0.out (by repeat (first | (with_reducible first | exact HB.out | apply below_alloc | apply pw_below_drewN | apply below_drew1) | exact HB.out))⟩
    · rw [if_neg d2] at H
      obtain rfl : s = false := by simpa using d2
      clear d2
      simp only [Option.some.injEq, Prod.mk.injEq] at H
      obtain ⟨rfl, rfl⟩ := H
      go_enter Try.func15, Try.ntmps15
      go_wp2_with (first
            | ((with_reducible refine gate_callee (f := 43) rfl ?_); refine goesL_ (some 13) rfl rfl Try.func43 (by kernel_rfl) rfl #[.int .i64 a0, .slice A1 l1.length c1, .int .u64 1] rfl (by (try simp only [List.map_toArray, List.map_cons, List.map_nil]); first | done | rfl) ?_; refine (steiner_Is.calls k a0 A1 c1 l1 1 false 0 _ ?sa HC1.out AI.out).mono ?_; (case sa => repeat (first | exact HR1.out | (with_reducible refine Kd.C_drewN ?_ _) | (with_reducible refine Kd.C_drew ?_))); rintro e w5 ⟨rfl, hb⟩; refine ⟨_, rfl, ?_⟩; have n2_ := Aside0.mk (below_step (by repeat (first | (with_reducible first | exact HB.out | apply pw_below_drewN | apply below_drew1) | exact HB.out)) hb); clear HB; have HB := n2_; clear n2_ hb)
            | ((with_reducible refine gate_dst (N := 24) rfl ?_); refine Kd.R_lit k34 _ 34 ?hg (N := 24) ?hd (xs := ([(⟨1, 0⟩ : S34)] : List (S34))) (inner := [.int .u64 1, .int .u64 0]) (ok := fun _ => True) (okp := fun _ => True) ?hr ?hp (fun _ hk => hk) trivial (Below.refl _ _) (Nat.le_refl _) (by simp) ?_; (case hd => rfl); (case hg => rfl); (case hr => first | (go_simp; done) | (go_simp; rfl)); (case hp => exact (Reps.c2 (show Kd.M k34 _ _ _ (⟨1, 0⟩ : S34) [.int .u64 1, .int .u64 0] from (k34_mkM _ _ _ (⟨1, 0⟩ : S34) )) (Reps.none _ _))); intro v7 w7 ho hb hg_ hnew_; clear hg_ hnew_; have n0_ := Aside0.mk (Kd.R_lower ho (below_size (by repeat (first | (with_reducible first | exact HB.out | apply below_alloc | apply pw_below_drewN | apply below_drew1) | exact HB.out)))); have n2_ := Aside0.mk (below_step (by repeat (first | (with_reducible first | exact HB.out | apply below_alloc | apply pw_below_drewN | apply below_drew1) | exact HB.out)) hb); clear HB; have HB := n2_; have HV := n0_; clear n0_ n2_ ho hb))
      go_ret2
      exact ⟨_, rfl, (by (with_reducible repeat (first | apply Kd.R_alloc | apply Kd.R_drewN | apply Kd.R_drew)); exact HV.out), (by repeat (first | (with_reducible first | exact HB.out | apply below_alloc | apply pw_below_drewN | apply below_drew1) | exact HB.out))⟩
  · rw [if_neg d1] at H
    simp only [Option.some.injEq, Prod.mk.injEq] at H
    obtain ⟨rfl, rfl⟩ := H
    have d1b0 : (e1 != 0) = true := bne_iff_ne.mpr d1
    clear d1
    go_enter Try.func15, Try.ntmps15
    go_wp2_with (first
            | ((with_reducible refine gate_callee (f := 43) rfl ?_); refine goesL_ (some 13) rfl rfl Try.func43 (by kernel_rfl) rfl #[.int .i64 a0, .slice A1 l1.length c1, .int .u64 1] rfl (by (try simp only [List.map_toArray, List.map_cons, List.map_nil]); first | done | rfl) ?_; refine (steiner_Is.calls k a0 A1 c1 l1 1 s e1 _ ?sa HC1.out AI.out).mono ?_; (case sa => repeat (first | exact HR1.out | (with_reducible refine Kd.C_drewN ?_ _) | (with_reducible refine Kd.C_drew ?_))); rintro e w5 ⟨rfl, hb⟩; refine ⟨_, rfl, ?_⟩; have n2_ := Aside0.mk (below_step (by repeat (first | (with_reducible first | exact HB.out | apply pw_below_drewN | apply below_drew1) | exact HB.out)) hb); clear HB; have HB := n2_; clear n2_ hb))
    go_ret2
    exact ⟨_, rfl, Kd.R_nil _ _ _ _ _, (by repeat (first | (with_reducible first | exact HB.out | apply below_alloc | apply pw_below_drewN | apply below_drew1) | exact HB.out))⟩

end Go.Proofs.Ytmffkfakcbopcaa.MP
