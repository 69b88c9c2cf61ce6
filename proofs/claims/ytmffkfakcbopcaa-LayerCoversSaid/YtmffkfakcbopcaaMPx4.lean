-- written by a program of this session (wip/tools/mprint.sh) for this seat
import Derived.Test.YtmffkfakcbopcaaMPx0
import Derived.Test.YtmffkfakcbopcaaMPx2
import Derived.Test.YtmffkfakcbopcaaMPx3
import Derived.Deep.RegionHeld3
import Derived.Shelf.SlSortCmp.NoneTotal
import Derived.Shelf.Lay
import Derived.Ground.SlsfProg
import Derived.RangeFuncNested
import Derived.RangeFuncBound
import Derived.RangeFuncCalls
import Derived.RangeFuncLeaves
import Derived.Shelf.Abstract
import Derived.OwnWalkIn
import Derived.TacticsInMore
import Derived.LoopNIn
import Derived.LoopIn
import Derived.Maps.AppendAt
namespace Go.Proofs.Ytmffkfakcbopcaa.MP
open Go.RowKit Go.Proofs.YtmffkfakcbopcaaW.PrintWords Go.Proofs.YtmffkfakcbopcaaW.PrintLast Go.Proofs.YtmffkfakcbopcaaW.PrintMore
open List (setIfInBounds_toArray set_cons_zero set_cons_succ map_toArray map_cons map_nil length_drop length_take)
attribute [local go_sem] max2_int min2_int max_two min_two max_three min_three max_four min_four   -- for this text's walks alone
set_option linter.unusedVariables false
set_option linter.unusedSimpArgs false

/-! ### diff_Cover: function 15 -/
mutual
def diff_cut.f : Nat → Int → List Int → Int → List S34 → Option (List S34 × Int)
  | 0, _, _, _, _ => none
  | k + 1, h, l, top, out => (steiner_Down.f k h l top).bind fun d => if d.2 = 0 then (if d.1 = top then diff_cut.g k h l d.1 0 out else if out.length < 8796093022207 then diff_cut.g k h l d.1 0 (out ++ [⟨top, d.1⟩]) else none) else some (out, d.2)
def diff_cut.g : Nat → Int → List Int → Int → Int → List S34 → Option (List S34 × Int)
  | 0, _, _, _, _, _ => none
  | k + 1, h, l, d, t, out => if t < 2 then ((node_Child.f k h d t).bind fun n => if n.2 = 4 then some (out, 0) else if n.2 = 0 then ((diff_cut.f k h l n.1 out).bind fun r => if r.2 = 0 then diff_cut.g k h l d (wrap64 (t + 1)) r.1 else some r) else some (out, n.2)) else some (out, 0)
end
theorem diff_cut.mono2 : ∀ k, (∀ a b c d, LeO (diff_cut.f k a b c d) (diff_cut.f (k + 1) a b c d)) ∧ (∀ a b c d e, LeO (diff_cut.g k a b c d e) (diff_cut.g (k + 1) a b c d e))
  | 0 => ⟨fun _ _ _ _ r h => by simp [diff_cut.f] at h, fun _ _ _ _ _ r h => by simp [diff_cut.g] at h⟩
  | k + 1 => by
   obtain ⟨ih0, ih1⟩ := diff_cut.mono2 k
   refine ⟨?_, ?_⟩
   ·intro a b c d
    rw [diff_cut.f, diff_cut.f]
    repeat' first
    | (with_reducible exact ih1 _ _ _ _ _)
    | (with_reducible exact steiner_Down.mono _ _ _ _)
    | (with_reducible exact LeO.refl _)
    | (with_reducible exact LeO.none _)
    | (with_reducible refine LeO.ite ?_ ?_)
    | (with_reducible refine LeO.bind ?_ (fun _ => ?_))
   ·intro a b c d e
    rw [diff_cut.g, diff_cut.g]
    repeat' first
    | (with_reducible exact ih0 _ _ _ _)
    | (with_reducible exact ih1 _ _ _ _ _)
    | (with_reducible exact node_Child.mono _ _ _ _)
    | (with_reducible exact LeO.refl _)
    | (with_reducible exact LeO.none _)
    | (with_reducible refine LeO.ite ?_ ?_)
    | (with_reducible refine LeO.bind ?_ (fun _ => ?_))
theorem cu_cells {W : World} {b T : Nat} {x y z : Value} (h : W.heap[b]? = some (.cells #[x, y, z] T (0, 0))) : W.cell? ⟨b, 0, none⟩ = some x ∧ W.cell? ⟨b, 1, none⟩ = some y ∧ W.cell? ⟨b, 2, none⟩ = some z ∧ W.frozen? ⟨b, 2, none⟩ = false := by
  simp [World.cell?, World.frozen?, h]
theorem cu_grown {W w1 : World} {g : Nat} {o : Obj} {row : Option Nat} (h : W.heap[g]? = some o) (hg : W.grownBy w1 row) (hne : some g ≠ row) : w1.heap[g]? = some o := (hg.5 g (blk_lt h) (by first | exact hne | exact fun e => hne e.symm)).trans h
theorem cu_set {W : World} {b T : Nat} {x y z : Value} (h : W.heap[b]? = some (.cells #[x, y, z] T (0, 0))) (u : Value) : (W.setCell ⟨b, 2, none⟩ u).heap[b]? = some (.cells #[x, y, u] T (0, 0)) := by
  simp [World.setCell, Array.getElem?_modify, h]
theorem cu_R {W : World} {e base b T : Nat} {ok : Nat → Prop} {v u : Value} {xs : List S34} {cs : Array Value} (h : Kd.R k34 e W base ok v xs) (hx : W.heap[b]? = some (.cells cs T (0, 0))) (hT : e ≠ T) : Kd.R k34 e (W.setCell ⟨b, 2, none⟩ u) base ok v xs := by
  refine Kd.R_mono (Kd.R_move (Kd.R_bound h) ?_) (fun k_ hk => hk.1)
  rintro k_ ⟨_, _, _, q, hq, cells, hc⟩
  refine Below.heap_setCell W _ u k_ ?_
  rintro rfl
  rw [hx] at hc
  simp only [Option.some.injEq, Obj.cells.injEq] at hc
  simp [k34, Kd.iso, Kd.pair, Kd.int, Kd.scalar] at hq
  exact hT (hq.symm.trans hc.2.1.symm)
set_option maxHeartbeats 8000000 in
set_option maxRecDepth 100000 in
theorem diff_cut.calls (k : Nat) : ∀ (a0 : Int) (A : Option Addr) (c : Nat) (l : List Int) (out : List S34) (top r : Int) (out' : List S34) (w W : World) (v : Value) (hr : Kd.C (Kd.int .u64) w A l.length l) (hc : l.length ≤ c) (hB : Below w.heap.size w W) (hx : W.heap[w.heap.size]? = some (.cells #[.int .i64 a0, .slice A l.length c, v] 85 (0, 0))) (hv : Kd.R k34 34 W w.heap.size (fun _ => True) v out) (h : diff_cut.f k a0 l top out = some (out', r)),
   Calls Try.prog 44 #[.pointer (some ⟨w.heap.size, 0, none⟩), .int .u64 top] W fun e W' => e = .returned (.int .i64 r) ∧ ∃ v' : Value, W'.heap[w.heap.size]? = some (.cells #[.int .i64 a0, .slice A l.length c, v'] 85 (0, 0)) ∧ Kd.R k34 34 W' w.heap.size (fun _ => True) v' out' ∧ Below w.heap.size w W' := by
  induction k using Nat.strongRecOn with
  | ind k ih =>
  intro a0 A c l out top r out' w W v hr hc hB hx hv h
  cases k with
  | zero => exact absurd h (by simp [diff_cut.f])
  | succ k =>
  rw [diff_cut.f] at h
  obtain ⟨⟨d, e1⟩, A30, H⟩ := Option.bind_eq_some_iff.mp h
  clear h
  dsimp only at H
  have A3 := ak_ A30
  have HR := ak_ hr
  have HC := ak_ hc
  have HB := ak_ hB
  have HX := ak_ hx
  have HV := ak_ hv
  have IH := ak_ ih
  obtain ⟨x0, x1, x2, xf⟩ := cu_cells hx
  clear A30 hr hc hB hv ih
  have hu85 := Try.underlying85
  by_cases c1 : e1 = 0
  ·rw [if_pos c1] at H
   subst c1
   by_cases c2 : d = top
   ·rw [if_pos c2] at H
    subst c2
    have H' := ak_ H
    clear H
    go_enter Try.func44, Try.ntmps44
    go_wp2
    go_region_held3 (fun w' => w'.cell? ⟨w.heap.size, 0, none⟩ = some (.int .i64 a0) ∧ w'.cell? ⟨w.heap.size, 1, none⟩ = some (.slice A l.length c)) (go_keep)
     (first | (go_at_call 89; refine (steiner_Down.calls k a0 A c l d d 0 _ ?side1 HC.out A3.out).mono ?_; (case side1 => repeat (first | exact Kd.C_below HR.out HB.out | (with_reducible refine Kd.C_drewN ?_ _) | (with_reducible refine Kd.C_drew ?_))); rintro e w5 ⟨rfl, hb⟩; have n0_ := ak_ (blk_below (by (with_reducible repeat (first | refine kn_ ?_ _ | refine kd_ ?_)); exact HX.out) hb); have n1_ := ak_ (Kd.R_below (by (with_reducible repeat (first | apply Kd.R_drewN | apply Kd.R_drew)); exact HV.out) hb); have n2_ := ak_ (below_step (by repeat (first | (with_reducible first | exact HB.out | apply bn_ | apply bd_) | exact HB.out)) hb); obtain ⟨y0, y1, y2, yf⟩ := cu_cells n0_.out; clear HX HV HB; have HX := n0_; have HV := n1_; have HB := n2_; clear n0_ n1_ n2_ hb))
    clear x0 x1 x2 xf hx
    go_wp2
    go_loopg [41] k (fun kq v41 w' => ∃ (t : Int) (o : List S34) (u : Value), v41 = .int .i64 t ∧ Aside0 (diff_cut.g kq a0 l d t o = some (out', r)) ∧ Aside0 (kq ≤ k) ∧ Aside0 (w'.heap[w.heap.size]? = some (.cells #[.int .i64 a0, .slice A l.length c, u] 85 (0, 0))) ∧ Aside0 (Kd.R k34 34 w' w.heap.size (fun _ => True) u o) ∧ Aside0 (Below w.heap.size w w'))
    case atStart => exact ⟨0, out, v, rfl, H', ⟨Nat.le_refl _⟩, ⟨(by (with_reducible repeat (first | refine kn_ ?_ _ | refine kd_ ?_ | refine ka_ ?_ _)); exact HX.out)⟩, ⟨(by (with_reducible repeat (first | apply Kd.R_alloc | apply Kd.R_drewN | apply Kd.R_drew)); exact HV.out)⟩, ⟨(by repeat (first | (with_reducible first | exact HB.out | apply ba_ | apply bn_ | apply bd_) | exact HB.out))⟩⟩
    case round =>
     clear H' HX HV HB
     try clear y0 y1 y2 yf
     obtain ⟨t, o, u, rfl, HA, HK1, HX, HV, HB⟩ := hrel
     cases gk with
     | zero => exact absurd HA.out (by simp [diff_cut.g])
     | succ k2 =>
      have H := HA.out
      clear HA
      rw [diff_cut.g] at H
      obtain ⟨x0, x1, x2, xf⟩ := cu_cells HX.out
      by_cases c5 : t < 2
      ·rw [if_pos c5] at H
       have c5b0 : decide (t < 2) = true := decide_eq_true c5
       clear c5
       obtain ⟨⟨n1, n2⟩, A110, H⟩ := Option.bind_eq_some_iff.mp H
       dsimp only at H
       have A11 := ak_ A110
       clear A110
       by_cases c6 : n2 = 4
       ·rw [if_pos c6] at H
        subst c6
        simp only [Option.some.injEq, Prod.mk.injEq] at H
        obtain ⟨rfl, rfl⟩ := H
        go_wp2_with (first | ((with_reducible refine gate_callee (f := 90) rfl ?_); refine goesL_ (some 51) rfl rfl Try.func90 (by kernel_rfl) rfl #[.int .i64 a0, .int .u64 d, .int .i64 t] rfl (by (try simp only [map_toArray, map_cons, map_nil]); first | done | rfl) ?_; (with_reducible refine (node_Child.calls k2 a0 d t n1 4 _ A11.out).mono ?_); rintro e w' ⟨rfl, ⟨nd, rfl⟩⟩; refine ⟨_, rfl, ?_⟩))
        go_ret
        exact ⟨rfl, u, (by (with_reducible repeat (first | refine kn_ ?_ _ | refine kd_ ?_ | refine ka_ ?_ _)); exact HX.out), (by (with_reducible repeat (first | apply Kd.R_alloc | apply Kd.R_drewN | apply Kd.R_drew)); exact HV.out), (by repeat (first | (with_reducible first | exact HB.out | apply ba_ | apply bn_ | apply bd_) | exact HB.out))⟩
       ·rw [if_neg c6] at H
        have c6b0 : (n2 == 4) = false := beq_eq_false_iff_ne.mpr c6
        clear c6
        by_cases c7 : n2 = 0
        ·rw [if_pos c7] at H
         subst c7
         obtain ⟨⟨q1, q2⟩, A130, H⟩ := Option.bind_eq_some_iff.mp H
         dsimp only at H
         have A13 := ak_ A130
         clear A130
         by_cases c8 : q2 = 0
         ·rw [if_pos c8] at H
          subst c8
          have H' := ak_ H
          clear H
          go_wp2_with (first | ((with_reducible refine gate_callee (f := 90) rfl ?_); refine goesL_ (some 51) rfl rfl Try.func90 (by kernel_rfl) rfl #[.int .i64 a0, .int .u64 d, .int .i64 t] rfl (by (try simp only [map_toArray, map_cons, map_nil]); first | done | rfl) ?_; (with_reducible refine (node_Child.calls k2 a0 d t n1 0 _ A11.out).mono ?_); rintro e w' ⟨rfl, ⟨nd, rfl⟩⟩; refine ⟨_, rfl, ?_⟩) | ((with_reducible refine gate_callee (f := 44) rfl ?_); refine goesL_ (some 61) rfl rfl Try.func44 (by kernel_rfl) rfl #[.pointer (some ⟨w.heap.size, 0, none⟩), .int .u64 n1] rfl (by (try simp only [map_toArray, map_cons, map_nil]); first | done | rfl) ?_; refine (IH.out k2 ?lt a0 A c l o n1 0 q1 w _ u HR.out HC.out ?sB ?sX ?sV A13.out).mono ?_; (case lt => have := HK1.out; omega); (case sB => exact (by repeat (first | (with_reducible first | exact HB.out | apply ba_ | apply bn_ | apply bd_) | exact HB.out))); (case sX => exact (by (with_reducible repeat (first | refine kn_ ?_ _ | refine kd_ ?_ | refine ka_ ?_ _)); exact HX.out)); (case sV => exact (by (with_reducible repeat (first | apply Kd.R_alloc | apply Kd.R_drewN | apply Kd.R_drew)); exact HV.out)); rintro e w9 ⟨rfl, v9, hx9, ho9, hb9⟩; refine ⟨_, rfl, ?_⟩; have n0_ := ak_ hx9; have n1_ := ak_ ho9; have n2_ := ak_ hb9; obtain ⟨z0, z1, z2, zf⟩ := cu_cells hx9; clear hx9 ho9 hb9; clear HX HV HB; have HX := n0_; have HV := n1_; have HB := n2_; clear n0_ n1_ n2_))
          go_roundg k2
          case measure => have := HK1.out; omega
          case rel => exact ⟨(wrap64 (t + 1)), q1, v9, (by first | rfl | (simp; done) | (simp [*]; done)), H', ⟨by have := HK1.out; omega⟩, ⟨(by (with_reducible repeat (first | refine kn_ ?_ _ | refine kd_ ?_ | refine ka_ ?_ _)); exact HX.out)⟩, ⟨(by (with_reducible repeat (first | apply Kd.R_alloc | apply Kd.R_drewN | apply Kd.R_drew)); exact HV.out)⟩, ⟨(by repeat (first | (with_reducible first | exact HB.out | apply ba_ | apply bn_ | apply bd_) | exact HB.out))⟩⟩
         ·rw [if_neg c8] at H
          have c8b0 : (q2 != 0) = true := bne_iff_ne.mpr c8
          clear c8
          simp only [Option.some.injEq, Prod.mk.injEq] at H
          obtain ⟨rfl, rfl⟩ := H
          go_wp2_with (first | ((with_reducible refine gate_callee (f := 90) rfl ?_); refine goesL_ (some 51) rfl rfl Try.func90 (by kernel_rfl) rfl #[.int .i64 a0, .int .u64 d, .int .i64 t] rfl (by (try simp only [map_toArray, map_cons, map_nil]); first | done | rfl) ?_; (with_reducible refine (node_Child.calls k2 a0 d t n1 0 _ A11.out).mono ?_); rintro e w' ⟨rfl, ⟨nd, rfl⟩⟩; refine ⟨_, rfl, ?_⟩) | ((with_reducible refine gate_callee (f := 44) rfl ?_); refine goesL_ (some 61) rfl rfl Try.func44 (by kernel_rfl) rfl #[.pointer (some ⟨w.heap.size, 0, none⟩), .int .u64 n1] rfl (by (try simp only [map_toArray, map_cons, map_nil]); first | done | rfl) ?_; refine (IH.out k2 ?lt a0 A c l o n1 q2 q1 w _ u HR.out HC.out ?sB ?sX ?sV A13.out).mono ?_; (case lt => have := HK1.out; omega); (case sB => exact (by repeat (first | (with_reducible first | exact HB.out | apply ba_ | apply bn_ | apply bd_) | exact HB.out))); (case sX => exact (by (with_reducible repeat (first | refine kn_ ?_ _ | refine kd_ ?_ | refine ka_ ?_ _)); exact HX.out)); (case sV => exact (by (with_reducible repeat (first | apply Kd.R_alloc | apply Kd.R_drewN | apply Kd.R_drew)); exact HV.out)); rintro e w9 ⟨rfl, v9, hx9, ho9, hb9⟩; refine ⟨_, rfl, ?_⟩; have n0_ := ak_ hx9; have n1_ := ak_ ho9; have n2_ := ak_ hb9; obtain ⟨z0, z1, z2, zf⟩ := cu_cells hx9; clear hx9 ho9 hb9; clear HX HV HB; have HX := n0_; have HV := n1_; have HB := n2_; clear n0_ n1_ n2_))
          go_ret
          exact ⟨rfl, v9, (by (with_reducible repeat (first | refine kn_ ?_ _ | refine kd_ ?_ | refine ka_ ?_ _)); exact HX.out), (by (with_reducible repeat (first | apply Kd.R_alloc | apply Kd.R_drewN | apply Kd.R_drew)); exact HV.out), (by repeat (first | (with_reducible first | exact HB.out | apply ba_ | apply bn_ | apply bd_) | exact HB.out))⟩
        ·rw [if_neg c7] at H
         have c7b0 : (n2 != 0) = true := bne_iff_ne.mpr c7
         clear c7
         simp only [Option.some.injEq, Prod.mk.injEq] at H
         obtain ⟨rfl, rfl⟩ := H
         go_wp2_with (first | ((with_reducible refine gate_callee (f := 90) rfl ?_); refine goesL_ (some 51) rfl rfl Try.func90 (by kernel_rfl) rfl #[.int .i64 a0, .int .u64 d, .int .i64 t] rfl (by (try simp only [map_toArray, map_cons, map_nil]); first | done | rfl) ?_; (with_reducible refine (node_Child.calls k2 a0 d t n1 n2 _ A11.out).mono ?_); rintro e w' ⟨rfl, ⟨nd, rfl⟩⟩; refine ⟨_, rfl, ?_⟩))
         go_ret
         exact ⟨rfl, u, (by (with_reducible repeat (first | refine kn_ ?_ _ | refine kd_ ?_ | refine ka_ ?_ _)); exact HX.out), (by (with_reducible repeat (first | apply Kd.R_alloc | apply Kd.R_drewN | apply Kd.R_drew)); exact HV.out), (by repeat (first | (with_reducible first | exact HB.out | apply ba_ | apply bn_ | apply bd_) | exact HB.out))⟩
      ·rw [if_neg c5] at H
       have c5b0 : decide (t < 2) = false := decide_eq_false c5
       clear c5
       simp only [Option.some.injEq, Prod.mk.injEq] at H
       obtain ⟨rfl, rfl⟩ := H
       go_wp2
       go_ret
       exact ⟨rfl, u, (by (with_reducible repeat (first | refine kn_ ?_ _ | refine kd_ ?_ | refine ka_ ?_ _)); exact HX.out), (by (with_reducible repeat (first | apply Kd.R_alloc | apply Kd.R_drewN | apply Kd.R_drew)); exact HV.out), (by repeat (first | (with_reducible first | exact HB.out | apply ba_ | apply bn_ | apply bd_) | exact HB.out))⟩
   ·rw [if_neg c2] at H
    have c2b0 : (d != top) = true := bne_iff_ne.mpr c2
    clear c2
    by_cases c3 : out.length < 8796093022207
    ·rw [if_pos c3] at H
     have HL := ak_ c3
     have H' := ak_ H
     clear H c3
     go_enter Try.func44, Try.ntmps44
     go_wp2
     go_region_held3 (fun w' => w'.cell? ⟨w.heap.size, 0, none⟩ = some (.int .i64 a0) ∧ w'.cell? ⟨w.heap.size, 1, none⟩ = some (.slice A l.length c)) (go_keep)
      (first | (go_at_call 89; refine (steiner_Down.calls k a0 A c l top d 0 _ ?side1 HC.out A3.out).mono ?_; (case side1 => repeat (first | exact Kd.C_below HR.out HB.out | (with_reducible refine Kd.C_drewN ?_ _) | (with_reducible refine Kd.C_drew ?_))); rintro e w5 ⟨rfl, hb⟩; have n0_ := ak_ (blk_below (by (with_reducible repeat (first | refine kn_ ?_ _ | refine kd_ ?_)); exact HX.out) hb); have n1_ := ak_ (Kd.R_below (by (with_reducible repeat (first | apply Kd.R_drewN | apply Kd.R_drew)); exact HV.out) hb); have n2_ := ak_ (below_step (by repeat (first | (with_reducible first | exact HB.out | apply bn_ | apply bd_) | exact HB.out)) hb); obtain ⟨y0, y1, y2, yf⟩ := cu_cells n0_.out; clear HX HV HB; have HX := n0_; have HV := n1_; have HB := n2_; clear n0_ n1_ n2_ hb))
     clear x0 x1 x2 xf hx
     have HNE := ak_ (Kd.R_ne HV.out HX.out (by decide))
     go_wp2_with (first | (at_builtin; refine Kd.R_append k34 (w0 := w) w.heap.size rfl (.tmp 33) (.tmp 37) 24 34 (.agg #[(.int .u64 0), (.int .u64 0)]) 16 rfl Try.underlying24 info34 rfl (by decide) (by omega) v out (⟨top, d⟩ : S34) [.int .u64 top, .int .u64 d] (fun _ => True) (fun _ => False) rfl rfl ?aP (fun _ hk => hk.elim) ?aF ?aO ?aB ?aS ?aL ?_; (case aP => exact k34_mkM _ _ _ (⟨top, d⟩ : S34)); (case aB => exact (by repeat (first | (with_reducible first | exact HB.out | apply ba_ | apply bn_ | apply bd_) | exact HB.out))); (case aF => exact (fun _ _ => trivial)); (case aO => exact (by (with_reducible repeat (first | apply Kd.R_alloc | apply Kd.R_drewN | apply Kd.R_drew)); exact HV.out)); (case aS => exact below_size (by repeat (first | (with_reducible first | exact HB.out | apply ba_ | apply bn_ | apply bd_) | exact HB.out))); (case aL => have := HL.out; omega); intro v1 w1 ho hb hg hat; have hx1 := cu_grown (by (with_reducible repeat (first | refine kn_ ?_ _ | refine kd_ ?_ | refine ka_ ?_ _)); exact HX.out) hg (by have := HNE.out; first | exact this | exact fun e => this e); obtain ⟨y0, y1, y2, yf⟩ := cu_cells hx1; have HX1 := ak_ hx1; have HV1 := ak_ ho; have HB1 := ak_ hb; clear ho hb hg hat hx1; obtain ⟨A1, cc1, e1_⟩ := Kd.R_slice HV1.out; have e2_ : v1 = .slice A1 (out.length + 1) cc1 := (by rw [e1_, List.length_append]; rfl); clear e1_; subst e2_))
     have n0_ := ak_ (cu_set HX1.out (.slice A1 (out.length + 1) cc1))
     have n1_ := ak_ (cu_R (u := .slice A1 (out.length + 1) cc1) HV1.out HX1.out (by decide))
     have n2_ := ak_ (HB1.out.setCell (p := ⟨w.heap.size, 2, none⟩) (Nat.le_refl w.heap.size) (.slice A1 (out.length + 1) cc1))
     clear HX HV HB HX1 HV1 HB1
     have HX := n0_
     have HV := n1_
     have HB := n2_
     clear n0_ n1_ n2_
     go_loopg [41] k (fun kq v41 w' => ∃ (t : Int) (o : List S34) (u : Value), v41 = .int .i64 t ∧ Aside0 (diff_cut.g kq a0 l d t o = some (out', r)) ∧ Aside0 (kq ≤ k) ∧ Aside0 (w'.heap[w.heap.size]? = some (.cells #[.int .i64 a0, .slice A l.length c, u] 85 (0, 0))) ∧ Aside0 (Kd.R k34 34 w' w.heap.size (fun _ => True) u o) ∧ Aside0 (Below w.heap.size w w'))
     case atStart => exact ⟨0, (out ++ [⟨top, d⟩]), .slice A1 (out.length + 1) cc1, rfl, H', ⟨Nat.le_refl _⟩, ⟨(by (with_reducible repeat (first | refine kn_ ?_ _ | refine kd_ ?_ | refine ka_ ?_ _)); exact HX.out)⟩, ⟨(by (with_reducible repeat (first | apply Kd.R_alloc | apply Kd.R_drewN | apply Kd.R_drew)); exact HV.out)⟩, ⟨(by repeat (first | (with_reducible first | exact HB.out | apply ba_ | apply bn_ | apply bd_) | exact HB.out))⟩⟩
     case round =>
      clear H' HX HV HB
      try clear y0 y1 y2 yf
      obtain ⟨t, o, u, rfl, HA, HK1, HX, HV, HB⟩ := hrel
      cases gk with
      | zero => exact absurd HA.out (by simp [diff_cut.g])
      | succ k2 =>
       have H := HA.out
       clear HA
       rw [diff_cut.g] at H
       obtain ⟨x0, x1, x2, xf⟩ := cu_cells HX.out
       by_cases c5 : t < 2
       ·rw [if_pos c5] at H
        have c5b0 : decide (t < 2) = true := decide_eq_true c5
        clear c5
        obtain ⟨⟨n1, n2⟩, A110, H⟩ := Option.bind_eq_some_iff.mp H
        dsimp only at H
        have A11 := ak_ A110
        clear A110
        by_cases c6 : n2 = 4
        ·rw [if_pos c6] at H
         subst c6
         simp only [Option.some.injEq, Prod.mk.injEq] at H
         obtain ⟨rfl, rfl⟩ := H
         go_wp2_with (first | ((with_reducible refine gate_callee (f := 90) rfl ?_); refine goesL_ (some 51) rfl rfl Try.func90 (by kernel_rfl) rfl #[.int .i64 a0, .int .u64 d, .int .i64 t] rfl (by (try simp only [map_toArray, map_cons, map_nil]); first | done | rfl) ?_; (with_reducible refine (node_Child.calls k2 a0 d t n1 4 _ A11.out).mono ?_); rintro e w' ⟨rfl, ⟨nd, rfl⟩⟩; refine ⟨_, rfl, ?_⟩))
         go_ret
         exact ⟨rfl, u, (by (with_reducible repeat (first | refine kn_ ?_ _ | refine kd_ ?_ | refine ka_ ?_ _)); exact HX.out), (by (with_reducible repeat (first | apply Kd.R_alloc | apply Kd.R_drewN | apply Kd.R_drew)); exact HV.out), (by repeat (first | (with_reducible first | exact HB.out | apply ba_ | apply bn_ | apply bd_) | exact HB.out))⟩
        ·rw [if_neg c6] at H
         have c6b0 : (n2 == 4) = false := beq_eq_false_iff_ne.mpr c6
         clear c6
         by_cases c7 : n2 = 0
         ·rw [if_pos c7] at H
          subst c7
          obtain ⟨⟨q1, q2⟩, A130, H⟩ := Option.bind_eq_some_iff.mp H
          dsimp only at H
          have A13 := ak_ A130
          clear A130
          by_cases c8 : q2 = 0
          ·rw [if_pos c8] at H
           subst c8
           have H' := ak_ H
           clear H
           go_wp2_with (first | ((with_reducible refine gate_callee (f := 90) rfl ?_); refine goesL_ (some 51) rfl rfl Try.func90 (by kernel_rfl) rfl #[.int .i64 a0, .int .u64 d, .int .i64 t] rfl (by (try simp only [map_toArray, map_cons, map_nil]); first | done | rfl) ?_; (with_reducible refine (node_Child.calls k2 a0 d t n1 0 _ A11.out).mono ?_); rintro e w' ⟨rfl, ⟨nd, rfl⟩⟩; refine ⟨_, rfl, ?_⟩) | ((with_reducible refine gate_callee (f := 44) rfl ?_); refine goesL_ (some 61) rfl rfl Try.func44 (by kernel_rfl) rfl #[.pointer (some ⟨w.heap.size, 0, none⟩), .int .u64 n1] rfl (by (try simp only [map_toArray, map_cons, map_nil]); first | done | rfl) ?_; refine (IH.out k2 ?lt a0 A c l o n1 0 q1 w _ u HR.out HC.out ?sB ?sX ?sV A13.out).mono ?_; (case lt => have := HK1.out; omega); (case sB => exact (by repeat (first | (with_reducible first | exact HB.out | apply ba_ | apply bn_ | apply bd_) | exact HB.out))); (case sX => exact (by (with_reducible repeat (first | refine kn_ ?_ _ | refine kd_ ?_ | refine ka_ ?_ _)); exact HX.out)); (case sV => exact (by (with_reducible repeat (first | apply Kd.R_alloc | apply Kd.R_drewN | apply Kd.R_drew)); exact HV.out)); rintro e w9 ⟨rfl, v9, hx9, ho9, hb9⟩; refine ⟨_, rfl, ?_⟩; have n0_ := ak_ hx9; have n1_ := ak_ ho9; have n2_ := ak_ hb9; obtain ⟨z0, z1, z2, zf⟩ := cu_cells hx9; clear hx9 ho9 hb9; clear HX HV HB; have HX := n0_; have HV := n1_; have HB := n2_; clear n0_ n1_ n2_))
           go_roundg k2
           case measure => have := HK1.out; omega
           case rel => exact ⟨(wrap64 (t + 1)), q1, v9, (by first | rfl | (simp; done) | (simp [*]; done)), H', ⟨by have := HK1.out; omega⟩, ⟨(by (with_reducible repeat (first | refine kn_ ?_ _ | refine kd_ ?_ | refine ka_ ?_ _)); exact HX.out)⟩, ⟨(by (with_reducible repeat (first | apply Kd.R_alloc | apply Kd.R_drewN | apply Kd.R_drew)); exact HV.out)⟩, ⟨(by repeat (first | (with_reducible first | exact HB.out | apply ba_ | apply bn_ | apply bd_) | exact HB.out))⟩⟩
          ·rw [if_neg c8] at H
           have c8b0 : (q2 != 0) = true := bne_iff_ne.mpr c8
           clear c8
           simp only [Option.some.injEq, Prod.mk.injEq] at H
           obtain ⟨rfl, rfl⟩ := H
           go_wp2_with (first | ((with_reducible refine gate_callee (f := 90) rfl ?_); refine goesL_ (some 51) rfl rfl Try.func90 (by kernel_rfl) rfl #[.int .i64 a0, .int .u64 d, .int .i64 t] rfl (by (try simp only [map_toArray, map_cons, map_nil]); first | done | rfl) ?_; (with_reducible refine (node_Child.calls k2 a0 d t n1 0 _ A11.out).mono ?_); rintro e w' ⟨rfl, ⟨nd, rfl⟩⟩; refine ⟨_, rfl, ?_⟩) | ((with_reducible refine gate_callee (f := 44) rfl ?_); refine goesL_ (some 61) rfl rfl Try.func44 (by kernel_rfl) rfl #[.pointer (some ⟨w.heap.size, 0, none⟩), .int .u64 n1] rfl (by (try simp only [map_toArray, map_cons, map_nil]); first | done | rfl) ?_; refine (IH.out k2 ?lt a0 A c l o n1 q2 q1 w _ u HR.out HC.out ?sB ?sX ?sV A13.out).mono ?_; (case lt => have := HK1.out; omega); (case sB => exact (by repeat (first | (with_reducible first | exact HB.out | apply ba_ | apply bn_ | apply bd_) | exact HB.out))); (case sX => exact (by (with_reducible repeat (first | refine kn_ ?_ _ | refine kd_ ?_ | refine ka_ ?_ _)); exact HX.out)); (case sV => exact (by (with_reducible repeat (first | apply Kd.R_alloc | apply Kd.R_drewN | apply Kd.R_drew)); exact HV.out)); rintro e w9 ⟨rfl, v9, hx9, ho9, hb9⟩; refine ⟨_, rfl, ?_⟩; have n0_ := ak_ hx9; have n1_ := ak_ ho9; have n2_ := ak_ hb9; obtain ⟨z0, z1, z2, zf⟩ := cu_cells hx9; clear hx9 ho9 hb9; clear HX HV HB; have HX := n0_; have HV := n1_; have HB := n2_; clear n0_ n1_ n2_))
           go_ret
           exact ⟨rfl, v9, (by (with_reducible repeat (first | refine kn_ ?_ _ | refine kd_ ?_ | refine ka_ ?_ _)); exact HX.out), (by (with_reducible repeat (first | apply Kd.R_alloc | apply Kd.R_drewN | apply Kd.R_drew)); exact HV.out), (by repeat (first | (with_reducible first | exact HB.out | apply ba_ | apply bn_ | apply bd_) | exact HB.out))⟩
         ·rw [if_neg c7] at H
          have c7b0 : (n2 != 0) = true := bne_iff_ne.mpr c7
          clear c7
          simp only [Option.some.injEq, Prod.mk.injEq] at H
          obtain ⟨rfl, rfl⟩ := H
          go_wp2_with (first | ((with_reducible refine gate_callee (f := 90) rfl ?_); refine goesL_ (some 51) rfl rfl Try.func90 (by kernel_rfl) rfl #[.int .i64 a0, .int .u64 d, .int .i64 t] rfl (by (try simp only [map_toArray, map_cons, map_nil]); first | done | rfl) ?_; (with_reducible refine (node_Child.calls k2 a0 d t n1 n2 _ A11.out).mono ?_); rintro e w' ⟨rfl, ⟨nd, rfl⟩⟩; refine ⟨_, rfl, ?_⟩))
          go_ret
          exact ⟨rfl, u, (by (with_reducible repeat (first | refine kn_ ?_ _ | refine kd_ ?_ | refine ka_ ?_ _)); exact HX.out), (by (with_reducible repeat (first | apply Kd.R_alloc | apply Kd.R_drewN | apply Kd.R_drew)); exact HV.out), (by repeat (first | (with_reducible first | exact HB.out | apply ba_ | apply bn_ | apply bd_) | exact HB.out))⟩
       ·rw [if_neg c5] at H
        have c5b0 : decide (t < 2) = false := decide_eq_false c5
        clear c5
        simp only [Option.some.injEq, Prod.mk.injEq] at H
        obtain ⟨rfl, rfl⟩ := H
        go_wp2
        go_ret
        exact ⟨rfl, u, (by (with_reducible repeat (first | refine kn_ ?_ _ | refine kd_ ?_ | refine ka_ ?_ _)); exact HX.out), (by (with_reducible repeat (first | apply Kd.R_alloc | apply Kd.R_drewN | apply Kd.R_drew)); exact HV.out), (by repeat (first | (with_reducible first | exact HB.out | apply ba_ | apply bn_ | apply bd_) | exact HB.out))⟩
    ·rw [if_neg c3] at H
     cases H
  ·rw [if_neg c1] at H
   have c1b0 : (e1 != 0) = true := bne_iff_ne.mpr c1
   clear c1
   simp only [Option.some.injEq, Prod.mk.injEq] at H
   obtain ⟨rfl, rfl⟩ := H
   go_enter Try.func44, Try.ntmps44
   go_wp2
   go_region_held3 (fun w' => w'.cell? ⟨w.heap.size, 0, none⟩ = some (.int .i64 a0) ∧ w'.cell? ⟨w.heap.size, 1, none⟩ = some (.slice A l.length c)) (go_keep)
    (first | (go_at_call 89; refine (steiner_Down.calls k a0 A c l top d e1 _ ?side1 HC.out A3.out).mono ?_; (case side1 => repeat (first | exact Kd.C_below HR.out HB.out | (with_reducible refine Kd.C_drewN ?_ _) | (with_reducible refine Kd.C_drew ?_))); rintro e w5 ⟨rfl, hb⟩; have n0_ := ak_ (blk_below (by (with_reducible repeat (first | refine kn_ ?_ _ | refine kd_ ?_)); exact HX.out) hb); have n1_ := ak_ (Kd.R_below (by (with_reducible repeat (first | apply Kd.R_drewN | apply Kd.R_drew)); exact HV.out) hb); have n2_ := ak_ (below_step (by repeat (first | (with_reducible first | exact HB.out | apply bn_ | apply bd_) | exact HB.out)) hb); obtain ⟨y0, y1, y2, yf⟩ := cu_cells n0_.out; clear HX HV HB; have HX := n0_; have HV := n1_; have HB := n2_; clear n0_ n1_ n2_ hb))
   go_wp2
   go_ret
   exact ⟨rfl, v, HX.out, HV.out, HB.out⟩
open Go.Shelf Go.Lib Go.Sort in
shelf_lay_g SlLaysF0.n6 Slsf 6 at Try 45 as Try.laySortFunc
/-- A world that has drawn, and has new blocks. -/
def Grew (W w' : World) : Prop := ∃ q os, w' = Go.Sort.grow (W.drewN q) os
theorem Grew.refl (W : World) : Grew W W := ⟨0, #[], by simp [Go.Sort.grow, World.drewN]⟩
theorem Grew.drewN {W w' : World} (h : Grew W w') (n : Nat) : Grew W (w'.drewN n) := by
  obtain ⟨q, os, rfl⟩ := h
  exact ⟨q + n, os, by simp [Go.Sort.grow, World.drewN, Nat.add_assoc]⟩
theorem Grew.drew {W w' : World} (h : Grew W w') : Grew W w'.drew := by
  obtain ⟨q, os, rfl⟩ := h
  exact ⟨q + 1, os, by simp [Go.Sort.grow, World.drewN, World.drew, Nat.add_assoc]⟩
theorem Grew.alloc {W w' : World} (h : Grew W w') (o : Obj) : Grew W (w'.alloc o) := by
  obtain ⟨q, os, rfl⟩ := h
  refine ⟨q, os.push o, ?_⟩
  show ({ heap := (W.heap ++ os).push o, .. } : World) = _
  unfold Go.Sort.grow
  rw [Array.append_push]; rfl
theorem C_two (W : World) (a b : Int) : Kd.C (Kd.int .i64) (W.alloc (.cells #[.int .i64 a, .int .i64 b] 3)) (some ⟨W.heap.size, 0, none⟩) 2 [a, b] := by
  have h := World.ownsRow_lit (base := 0) (e := 3) (size := 1) W #[.int .i64 a, .int .i64 b] 2 (Nat.zero_le _) (by simp only [maxLen]; omega) rfl
  exact (Kd.R_reads' (Kd.R_of_own (enc := Value.int .i64) (h1 := fun _ => rfl) (xs := [a, b]) (ok := fun _ => True) h (fun _ _ => trivial))).2.2
theorem cu_al {W : World} {o : Obj} {a : Addr} {v : Value} (h : W.cell? a = some v) : (W.alloc o).cell? a = some v := by
  have hb : a.block < W.heap.size := World.block_lt_of_cell? _ _ h
  rw [World.cell?] at h ⊢
  have : (W.alloc o).heap[a.block]? = W.heap[a.block]? := by
   show (W.heap.push o)[a.block]? = _
   rw [Array.getElem?_push_lt hb, Array.getElem?_eq_getElem hb]
  rw [this]; exact h
def ordf (x y : S34) : Int := if x.f0 < y.f0 then -1 else if x.f0 > y.f0 then 1 else if x.f1 < y.f1 then -1 else if x.f1 > y.f1 then 1 else 0
theorem cmp_eq (a b : Int) : cmp_Compare_uint64.f a b = some (if a < b then -1 else if a > b then 1 else 0) := by
  unfold cmp_Compare_uint64.f cmp_isNaN_uint64.f
  simp
  split
  ·rfl
  ·split <;> rfl
theorem or_eq (a b : Int) : cmp_Or_int.f 10 [a, b] = some (if a = 0 then b else a) := by
  unfold cmp_Or_int.f
  have r0 : rd [a, b] 0 = a := rfl
  have r1 : rd [a, b] 1 = b := rfl
  have w1 : wrap64 (0 + 1) = 1 := by unfold wrap64; omega
  have w2 : wrap64 (1 + 1) = 2 := by unfold wrap64; omega
  rw [cmp_Or_int.l0, if_pos (by simp), if_pos (by omega), if_pos (by simp), r0, w1]
  by_cases c : a = 0
  ·rw [if_pos c, if_pos c, cmp_Or_int.l0, if_pos (by simp), if_pos (by omega), if_pos (by simp), r1, w2]
   by_cases d : b = 0
   ·rw [if_pos d, cmp_Or_int.l0, if_neg (by simp), d]
   ·rw [if_neg d]
  ·rw [if_neg c, if_neg c]
set_option maxHeartbeats 8000000 in
set_option maxRecDepth 100000 in
theorem diff_order.grew (x y : S34) (W : World) : Calls Try.prog 46 #[.agg #[.int .u64 x.f0, .int .u64 x.f1], .agg #[.int .u64 y.f0, .int .u64 y.f1]] W fun e w' => e = .returned (.int .i64 (ordf x y)) ∧ Grew W w' := by
  have hu34 := Try.underlying34
  obtain ⟨c0, h0⟩ : ∃ c, c = (if x.f0 < y.f0 then -1 else if x.f0 > y.f0 then 1 else (0 : Int)) := ⟨_, rfl⟩
  obtain ⟨c1, h1⟩ : ∃ c, c = (if x.f1 < y.f1 then -1 else if x.f1 > y.f1 then 1 else (0 : Int)) := ⟨_, rfl⟩
  have e : ordf x y = if c0 = 0 then c1 else c0 := by
   subst h0 h1
   unfold ordf
   by_cases a : x.f0 < y.f0
   ·simp [a]
   ·by_cases b : x.f0 > y.f0
    ·simp [a, b]
    ·simp [a, b]
  have A1 := ak_ (show cmp_Compare_uint64.f x.f0 y.f0 = some c0 by rw [cmp_eq, h0])
  have A2 := ak_ (show cmp_Compare_uint64.f x.f1 y.f1 = some c1 by rw [cmp_eq, h1])
  have A3 := ak_ (show cmp_Or_int.f 10 [c0, c1] = some (ordf x y) by rw [or_eq, e])
  clear h0 h1 e
  generalize ordf x y = r at A3 ⊢
  obtain ⟨W2, hW2⟩ : ∃ W2, W2 = (W.alloc (.cells #[.int .u64 x.f0, .int .u64 x.f1] 34)).alloc (.cells #[.int .u64 y.f0, .int .u64 y.f1] 34) := ⟨_, rfl⟩
  have HG := ak_ (show Grew W W2 by rw [hW2]; exact ((Grew.refl W).alloc _).alloc _)
  have b1 : W2.heap[W.heap.size]? = some (.cells #[.int .u64 x.f0, .int .u64 x.f1] 34 (0, 0)) := by
   rw [hW2]; exact blk_below (blk_new W _) (ba_ (Below.refl _ _) _)
  have b2 : W2.heap[W.heap.size + 1]? = some (.cells #[.int .u64 y.f0, .int .u64 y.f1] 34 (0, 0)) := by
   have h : (W.alloc (.cells #[.int .u64 x.f0, .int .u64 x.f1] 34)).heap.size = W.heap.size + 1 := Array.size_push ..
   rw [hW2, ← h]; exact blk_new _ _
  have y0 : W2.cell? ⟨W.heap.size, 0, none⟩ = some (.int .u64 x.f0) := by simp [World.cell?, b1]
  have y1 : W2.cell? ⟨W.heap.size, 1, none⟩ = some (.int .u64 x.f1) := by simp [World.cell?, b1]
  have y2 : W2.cell? ⟨W.heap.size + 1, 0, none⟩ = some (.int .u64 y.f0) := by simp [World.cell?, b2]
  have y3 : W2.cell? ⟨W.heap.size + 1, 1, none⟩ = some (.int .u64 y.f1) := by simp [World.cell?, b2]
  have OR : ∀ W', Kd.C (Kd.int .i64) W' (some ⟨W2.heap.size, 0, none⟩) 2 [c0, c1] → Calls Try.prog 62 #[.slice (some ⟨W2.heap.size, 0, none⟩) 2 2] W' fun e w' => e = .returned (.int .i64 r) ∧ Drawn0 W' w' := fun W' h => cmp_Or_int.calls 10 _ 2 [c0, c1] r W' h (by simp) A3.out
  go_enter Try.func46, Try.ntmps46
  go_wp2
  rw [← hW2]
  clear hW2 b1 b2
  go_region_held3 (fun w' => w'.cell? ⟨W.heap.size, 0, none⟩ = some (.int .u64 x.f0) ∧ w'.cell? ⟨W.heap.size, 1, none⟩ = some (.int .u64 x.f1) ∧ w'.cell? ⟨W.heap.size + 1, 0, none⟩ = some (.int .u64 y.f0) ∧ w'.cell? ⟨W.heap.size + 1, 1, none⟩ = some (.int .u64 y.f1)) (first | exact ⟨y0, y1, y2, y3⟩ | exact ⟨cu_al y0, cu_al y1, cu_al y2, cu_al y3⟩)
   (first | (go_at_call 63; with_reducible refine (cmp_Compare_uint64.calls x.f0 y.f0 c0 _ A1.out).mono ?_; rintro e w' ⟨rfl, ⟨nd, rfl⟩⟩) | (go_at_call 63; with_reducible refine (cmp_Compare_uint64.calls x.f1 y.f1 c1 _ A2.out).mono ?_; rintro e w' ⟨rfl, ⟨nd2, rfl⟩⟩) | (go_at_call 62; with_reducible refine (OR _ ?s1).mono ?_; (case s1 => have h_ := C_two (W2.drewN (1 + nd + nd2)) c0 c1; rw [show (W2.drewN (1 + nd + nd2)).heap.size = W2.heap.size from by simp [World.drewN]] at h_; exact h_); rintro e w' ⟨rfl, ⟨nd3, rfl⟩⟩))
  all_goals
   go_wp2
   go_ret
   exact ⟨rfl, by repeat (first | exact HG.out | apply Grew.alloc | apply Grew.drewN | apply Grew.drew)⟩
section
open Go.Sort Go.Lib Go.Shelf
instance instInhS : Inhabited S34 := ⟨⟨0, 0⟩⟩
def encS (x : S34) : List Value := [.int .u64 x.f0, .int .u64 x.f1]
def leS (x y : S34) : Bool := !(ltOf ordf) y x
def sortS (xs : List S34) : List S34 := xs.mergeSort leS
theorem ltS_eq (x y : S34) : ltOf ordf x y = decide (x.f0 < y.f0 ∨ (x.f0 = y.f0 ∧ x.f1 < y.f1)) := by
  unfold ltOf ordf
  by_cases a : x.f0 < y.f0
  ·simp [a]
  ·by_cases b : x.f0 > y.f0
   ·have : ¬ (x.f0 = y.f0) := by omega
    simp [a, b, this]
   ·have e : x.f0 = y.f0 := by omega
    by_cases c : x.f1 < y.f1
    ·simp [a, b, c, e]
    ·by_cases d : x.f1 > y.f1
     ·simp [a, b, c, d, e]
     ·simp [a, b, c, d, e]
theorem swoS : SWO (ltOf ordf) where
  irrefl x := by rw [ltS_eq]; simp
  trans x y z h1 h2 := by rw [ltS_eq] at *; simp at *; omega
  ntrans x y z h1 h2 := by rw [ltS_eq] at *; simp at *; omega
theorem totS (x y : S34) (h1 : ltOf ordf x y = false) (h2 : ltOf ordf y x = false) : x = y := by
  rw [ltS_eq] at h1 h2
  obtain ⟨a, b⟩ := x
  obtain ⟨c, d⟩ := y
  simp at *
  omega
theorem reps_flat (w : World) (base : Nat) (ok : Nat → Prop) (xs : List S34) : Reps (k34.M w base ok) 2 xs (flatK encS 2 xs.toArray).toList := by
  refine ⟨by simp, fun j p hj => ?_⟩
  have hl : j < xs.length := (List.getElem?_eq_some_iff.1 hj).1
  have hp : xs[j]! = p := by rw [getElem!_pos _ j hl]; exact (List.getElem?_eq_some_iff.1 hj).2
  have e : ((flatK encS 2 xs.toArray).toList.drop (j * 2)).take 2 = [.int .u64 p.f0, .int .u64 p.f1] := by
   have g : ∀ c, c < 2 → (flatK encS 2 xs.toArray)[j * 2 + c]! = (encS p)[c]! := fun c hc => by
    rw [get_flatK _ _ _ _ (by simp; omega)]
    have h1 : (j * 2 + c) / 2 = j := by omega
    have h2 : (j * 2 + c) % 2 = c := by omega
    rw [h1, h2]
    have : xs.toArray[j]! = p := by rw [← hp]; simp
    rw [this]
   have hs : (flatK encS 2 xs.toArray).size = xs.length * 2 := by simp
   apply List.ext_getElem
   ·simp; omega
   ·intro i hi1 hi2
    have hi : i < 2 := by simpa using hi2
    have := g i hi
    rw [getElem!_pos _ _ (by omega)] at this
    simp only [List.getElem_take, List.getElem_drop, Array.getElem_toList, this]
    match i, hi with
    | 0, _ => rfl
    | 1, _ => rfl
  rw [e]
  exact k34_mkM w base ok p
theorem reps_unique {w : World} {base : Nat} {ok : Nat → Prop} {xs : List S34} {a b : List Value} (ha : Reps (k34.M w base ok) 2 xs a) (hb : Reps (k34.M w base ok) 2 xs b) : a = b := by
  apply List.ext_getElem
  ·rw [ha.1, hb.1]
  ·intro i hi1 hi2
   have hl : i / 2 < xs.length := by have := ha.1; omega
   have h1 := k34_openM (ha.2 (i / 2) _ (List.getElem?_eq_getElem hl))
   have h2 := k34_openM (hb.2 (i / 2) _ (List.getElem?_eq_getElem hl))
   have h3 : ((a.drop (i / 2 * 2)).take 2)[i % 2]? = ((b.drop (i / 2 * 2)).take 2)[i % 2]? := by rw [h1, h2]
   have h4 : i % 2 < 2 := by omega
   have h5 : i / 2 * 2 + i % 2 = i := by omega
   rw [List.getElem?_take_of_lt h4, List.getElem?_take_of_lt h4, List.getElem?_drop, List.getElem?_drop, h5, List.getElem?_eq_getElem hi1, List.getElem?_eq_getElem hi2] at h3
   exact Option.some.inj h3
set_option maxHeartbeats 4000000 in
theorem sort_any (cf : Nat) (eg : ∀ args w, (callFunc cf args).run Try.prog w = .ok (.enter cf args) w) (hcf : ∀ (x y : S34) (W : World), Calls Try.prog cf #[.agg #[.int .u64 x.f0, .int .u64 x.f1], .agg #[.int .u64 y.f0, .int .u64 y.f1]] W fun e w' => e = .returned (.int .i64 (ordf x y)) ∧ Grew W w') (xs : List S34) (w0 W : World) (base : Nat) (v : Value) (hB : Below w0.heap.size w0 W) (hb0 : w0.heap.size ≤ base) (h : Kd.R k34 34 W base (fun _ => True) v xs) (hl : xs.length < 4611686018427387904) :
   Calls Try.prog 45 #[v, .func (.func cf) #[] #[]] W fun e W' => e = .returned (.tuple #[]) ∧ Kd.R k34 34 W' base (fun _ => True) v (sortS xs) ∧ Below w0.heap.size w0 W' ∧ (∀ k, k < W.heap.size → some k ≠ v.ownBlock → W'.heap[k]? = W.heap[k]?) := by
  obtain ⟨h0, inner, ⟨h1, h2⟩, hr⟩ := h
  rcases h2 with ⟨rfl, h2⟩ | ⟨g, cap, cur, rfl, hb, hh, hn, hc, hs, ht⟩
  ·obtain rfl : xs = [] := List.length_eq_zero_iff.1 h2
   refine (show Calls Try.prog 45 _ W _ from AnyF.slices_SortFunc_none Try.laySortFunc none 0 _ W).mono ?_
   rintro e w' ⟨rfl, rfl⟩
   exact ⟨rfl, by rw [show sortS [] = [] from by unfold sortS; exact List.mergeSort_nil]; exact Kd.R_nil _ _ _ _ _, hB, fun _ _ _ => rfl⟩
  ·have hin : inner = (flatK encS 2 xs.toArray).toList := reps_unique hr (reps_flat _ _ _ xs)
   have hsz2 : (flatK encS 2 xs.toArray).size = xs.length * 2 := by simp
   have hsz : k34.sz = 2 := rfl
   rw [hsz] at hs ht
   have hH : HoldsK encS 2 W g 0 xs.toArray := by
    intro j hj
    have hj' : j < xs.length * 2 := by rw [← hsz2]; exact hj
    have hjc : j < cur.size := by have := Nat.mul_le_mul_right 2 hn; omega
    have e1 : cur[j]? = some (flatK encS 2 xs.toArray)[j]! := by
     have e2 : (cur.toList.take (xs.length * 2))[j]? = (flatK encS 2 xs.toArray).toList[j]? := by rw [ht, hin]
     rw [List.getElem?_take_of_lt hj', Array.getElem?_toList, Array.getElem?_toList, Array.getElem?_eq_getElem hj] at e2
     rw [e2, getElem!_pos _ j hj]
    refine ⟨?_, ?_⟩
    ·simp only [World.cell?, hh, Nat.zero_add]
     first | exact e1 | (simp [e1]; done) | (rw [e1]; rfl)
    ·simp [World.frozen?, hh]
   have hblk : g < W.heap.size := by
    rcases Nat.lt_or_ge g W.heap.size with h | h
    ·exact h
    ·rw [Array.getElem?_eq_none h] at hh; cases hh
   have hcon := AnyQ.slices_SortFunc_total Try.laySortFunc 2 (by first | exact Try.isAgg34 | (intro w; rfl)) (by first | exact Try.sizeOf34 | (intro w; rfl)) encS (fun _ => rfl) (fun x v hv => by simp [encS] at hv; rcases hv with rfl | rfl <;> rfl) ordf swoS cf #[] g 0 cap xs.toArray W eg (fun m os dk _ x y => hcf x y _) hH hblk (by simpa using hl) totS
   have e3 : (xs.toArray.toList.mergeSort fun x y => !(ltOf ordf) y x).toArray = (sortS xs).toArray := rfl
   rw [e3, show xs.toArray.size = xs.length from by simp] at hcon
   refine (show Calls Try.prog 45 _ W _ from hcon).mono ?_
   have hls : (sortS xs).length = xs.length := List.length_mergeSort ..
   generalize sortS xs = ys at hls
   rintro e w' ⟨rfl, n, os, rfl⟩
   have hsz3 : (flatK encS 2 ys.toArray).size = xs.length * 2 := by simp [hls]
   have hcell : (sortWorldK encS 2 W g 0 n ys.toArray os).heap[g]? = some (.cells (putCells id 0 (flatK encS 2 ys.toArray) cur) 34 (0, 0)) := by
    simp only [sortWorldK, putRowK, putRow, grow, mapBlock, Go.Sort.ahead]
    rw [Array.getElem?_append_left (by simpa using hblk), Array.getElem?_modify, hh]
    simp [onCells]
   have hother : ∀ k, k < W.heap.size → k ≠ g → (sortWorldK encS 2 W g 0 n ys.toArray os).heap[k]? = W.heap[k]? := by
    intro k hk hne
    simp only [sortWorldK, putRowK, putRow, grow, mapBlock, Go.Sort.ahead]
    rw [Array.getElem?_append_left (by simpa using hk), Array.getElem?_modify, if_neg (fun e => hne e.symm)]
   have htk : (putCells id 0 (flatK encS 2 ys.toArray) cur).toList.take (ys.length * 2) = (flatK encS 2 ys.toArray).toList := by
    have := Nat.mul_le_mul_right 2 hn
    apply List.ext_getElem
    ·simp [putCells, hls]; omega
    ·intro i hi1 hi2
     have hi : i < ys.length * 2 := by simpa using hi2
     have hi3 : i < (flatK encS 2 ys.toArray).size := by simpa using hi
     simp [putCells, hi]
   have hrep := reps_flat (sortWorldK encS 2 W g 0 n ys.toArray os) base (fun k => True ∧ some k ≠ (Value.slice (some ⟨g, 0, none⟩) xs.length cap).ownBlock) ys
   refine ⟨rfl, ⟨fun _ _ => trivial, _, ⟨by rw [hrep.1]; rfl, .inr ⟨g, cap, _, by rw [hls], hb, hcell, by omega, hc, ?_, ?_⟩⟩, hrep⟩, ?_, ?_⟩
   ·rw [hsz]; simpa [putCells] using hs
   ·rw [hsz]; exact htk
   ·refine ⟨(show (sortWorldK encS 2 W g 0 n ys.toArray os).os = W.os from rfl).trans hB.os, (show (sortWorldK encS 2 W g 0 n ys.toArray os).tape = W.tape from rfl).trans hB.tape, (show (sortWorldK encS 2 W g 0 n ys.toArray os).output = W.output from rfl).trans hB.output, ?_, ?_⟩
    ·have h1 := hB.size
     have h2 : W.heap.size ≤ (sortWorldK encS 2 W g 0 n ys.toArray os).heap.size := by simp [sortWorldK, putRowK, putRow, grow, mapBlock, Go.Sort.ahead]
     omega
    ·intro k hk
     have h1 := hB.size
     exact (hother k (by omega) (by omega)).trans (hB.block k hk)
   ·intro k hk hne
    exact hother k hk (fun e => hne (by simp [Value.ownBlock, e]))
end
theorem eg46 : ∀ args w, (callFunc 46 args).run Try.prog w = .ok (.enter 46 args) w := enters_of Try.func46 (by kernel_rfl) rfl
def diff_Cover.f (k : Nat) (a0 : Int) (l1 : List Int) : Option (List S34 × Int) := (steiner_Is.f k a0 l1 1).bind fun s => if s.2 = 0 then (if s.1 = true then ((diff_cut.f k a0 l1 1 []).bind fun r => if r.2 = 0 then (if r.1.length < 4611686018427387904 then some (sortS r.1, 0) else none) else some ([], r.2)) else some ([⟨1, 0⟩], 0)) else some ([], s.2)
theorem diff_Cover.mono : ∀ a0 a1 k, LeO (diff_Cover.f k a0 a1) (diff_Cover.f (k + 1) a0 a1) := by
  intro a0 a1 k
  unfold diff_Cover.f
  repeat' first
    | (with_reducible exact (diff_cut.mono2 _).1 _ _ _ _)
    | (with_reducible exact steiner_Is.mono _ _ _ _)
    | (with_reducible exact LeO.refl _)
    | (with_reducible exact LeO.none _)
    | (with_reducible refine LeO.ite ?_ ?_)
    | (with_reducible refine LeO.bind ?_ (fun _ => ?_))
theorem diff_cut.box (k : Nat) (a0 : Int) (A : Option Addr) (c : Nat) (l : List Int) (o : List S34) (r : Int) (W0 W : World) (g : Nat) (hg : g = W0.heap.size) (hr : Kd.C (Kd.int .u64) W0 A l.length l) (hc : l.length ≤ c) (hx : W.heap[g]? = some (.cells #[.int .i64 a0, .slice A l.length c, .slice none 0 0] 85 (0, 0))) (hB : Below W0.heap.size W0 W) (h : diff_cut.f k a0 l 1 [] = some (o, r)) :
   Calls Try.prog 44 #[.pointer (some ⟨g, 0, none⟩), .int .u64 1] W fun e W' => e = .returned (.int .i64 r) ∧ ∃ (A' : Option Addr) (c' : Nat), W'.heap[g]? = some (.cells #[.int .i64 a0, .slice A l.length c, .slice A' o.length c'] 85 (0, 0)) ∧ Kd.R k34 34 W' g (fun _ => True) (.slice A' o.length c') o ∧ Below W0.heap.size W0 W' := by
  subst hg
  refine (diff_cut.calls k a0 A c l [] 1 r o W0 W (.slice none 0 0) hr hc hB hx (Kd.R_nil _ _ _ _ _) h).mono ?_
  rintro e w' ⟨rfl, v', hx', hv', hb'⟩
  obtain ⟨A', c', rfl⟩ := Kd.R_slice hv'
  exact ⟨rfl, A', c', hx', hv', hb'⟩
theorem sort_box (xs : List S34) (W0 W : World) (g : Nat) (A : Option Addr) (c n : Nat) (a0 : Int) (A1 : Option Addr) (c1 : Nat) (hg : g = W0.heap.size) (hB : Below W0.heap.size W0 W) (h : Kd.R k34 34 W g (fun _ => True) (.slice A xs.length c) xs) (hl : xs.length < 4611686018427387904) (hx : W.heap[g]? = some (.cells #[.int .i64 a0, .slice A1 n c1, .slice A xs.length c] 85 (0, 0))) :
   Calls Try.prog 45 #[.slice A xs.length c, .func (.func 46) #[] #[]] W fun e W' => e = .returned (.tuple #[]) ∧ W'.heap[g]? = some (.cells #[.int .i64 a0, .slice A1 n c1, .slice A xs.length c] 85 (0, 0)) ∧ Kd.R k34 34 W' g (fun _ => True) (.slice A xs.length c) (sortS xs) ∧ Below W0.heap.size W0 W' := by
  refine (sort_any 46 eg46 diff_order.grew xs W0 W g _ hB (by omega) h hl).mono ?_
  rintro e w' ⟨rfl, h1, h2, h3⟩
  exact ⟨rfl, (h3 g (blk_lt hx) (Kd.R_ne h hx (by decide))).trans hx, h1, h2⟩
set_option maxHeartbeats 8000000 in
set_option maxRecDepth 100000 in
theorem diff_Cover.calls (k : Nat) (a0 : Int) (A1 : Option Addr) (c1 : Nat) (l1 : List Int) (r1 : List S34) (r2 : Int) (w : World) (hr1 : Kd.C (Kd.int .u64) w A1 l1.length l1) (hc1 : l1.length ≤ c1) (h : diff_Cover.f k a0 l1 = some (r1, r2)) :
   Calls Try.prog 15 #[.int .i64 a0, .slice A1 l1.length c1] w fun e w' => ∃ v0_ : Value, e = .returned (.tuple #[v0_, .int .i64 r2]) ∧ Kd.R k34 34 w' w.heap.size (fun _ => True) v0_ r1 ∧ Below w.heap.size w w' := by
  have HR1 := ak_ hr1
  have HC1 := ak_ hc1
  clear hr1 hc1
  have HB := ak_ (Below.refl w.heap.size w)
  have hu85 := Try.underlying85
  unfold diff_Cover.f at h
  obtain ⟨⟨s, e1⟩, A0, H⟩ := Option.bind_eq_some_iff.mp h
  dsimp only at H
  have AI := ak_ A0
  clear h A0
  by_cases d1 : e1 = 0
  ·rw [if_pos d1] at H
   subst d1
   by_cases d2 : s = true
   ·rw [if_pos d2] at H
    subst d2
    obtain ⟨⟨o, e2⟩, A2, H⟩ := Option.bind_eq_some_iff.mp H
    dsimp only at H
    have AC := ak_ A2
    clear A2
    by_cases d3 : e2 = 0
    ·rw [if_pos d3] at H
     subst d3
     by_cases d4 : o.length < 4611686018427387904
     ·rw [if_pos d4] at H
      simp only [Option.some.injEq, Prod.mk.injEq] at H
      obtain ⟨rfl, rfl⟩ := H
      have HL := ak_ d4
      clear d4
      go_enter Try.func15, Try.ntmps15
      go_wp2_with (first
       | ((with_reducible refine gate_callee (f := 43) rfl ?_); refine goesL_ (some 13) rfl rfl Try.func43 (by kernel_rfl) rfl #[.int .i64 a0, .slice A1 l1.length c1, .int .u64 1] rfl (by (try simp only [map_toArray, map_cons, map_nil]); first | done | rfl) ?_; refine (steiner_Is.calls k a0 A1 c1 l1 1 true 0 _ ?sa HC1.out AI.out).mono ?_; (case sa => repeat (first | exact HR1.out | (with_reducible refine Kd.C_drewN ?_ _) | (with_reducible refine Kd.C_drew ?_))); rintro e w5 ⟨rfl, hb⟩; refine ⟨_, rfl, ?_⟩; have n2_ := ak_ (below_step (by repeat (first | (with_reducible first | exact HB.out | apply bn_ | apply bd_) | exact HB.out)) hb); clear HB; have HB := n2_; clear n2_ hb)
       | ((with_reducible refine gate_dst (N := 28) rfl ?_); refine box_event ?hg (N := 28) ?hd (cs := #[.int .i64 a0, .slice A1 l1.length c1, .slice none 0 0]) (t := 85) ?hr ?_; (case hd => rfl); (case hg => rfl); (case hr => first | (go_simp; done) | (go_simp; rfl)); intro gb hg w6 hbox hb; have n0_ : ∃ W0 : World, gb = W0.heap.size ∧ Below w.heap.size w W0 ∧ Kd.C (Kd.int .u64) W0 A1 l1.length l1 ∧ Below W0.heap.size W0 w6 := ⟨_, hg, (by repeat (first | (with_reducible first | exact HB.out | apply bn_ | apply bd_) | exact HB.out)), Kd.C_below HR1.out (by repeat (first | (with_reducible first | exact HB.out | apply bn_ | apply bd_) | exact HB.out)), hb⟩; obtain ⟨W0, hg0, hB0, hR0, hBW⟩ := n0_; have HG := ak_ hg0; have HB0 := ak_ hB0; have HR0 := ak_ hR0; have HX := ak_ hbox; clear HB; have HB := ak_ hBW; clear hg0 hB0 hR0 hBW hbox hb hg)
       | ((with_reducible refine gate_callee (f := 44) rfl ?_); refine goesL_ (some 30) rfl rfl Try.func44 (by kernel_rfl) rfl #[.pointer (some ⟨gb, 0, none⟩), .int .u64 1] rfl (by (try simp only [map_toArray, map_cons, map_nil]); first | done | rfl) ?_; refine (diff_cut.box k a0 A1 c1 l1 o 0 W0 _ gb HG.out HR0.out HC1.out ?sX ?sB AC.out).mono ?_; (case sB => exact (by repeat (first | (with_reducible first | exact HB.out | apply ba_ | apply bn_ | apply bd_) | exact HB.out))); (case sX => exact (by (with_reducible repeat (first | refine kn_ ?_ _ | refine kd_ ?_ | refine ka_ ?_ _)); exact HX.out)); rintro e w9 ⟨rfl, A9, c9, hx9, ho9, hb9⟩; refine ⟨_, rfl, ?_⟩; obtain ⟨z0, z1, z2, zf⟩ := cu_cells hx9; clear HX HB; have HX := ak_ hx9; have HV := ak_ ho9; have HB := ak_ hb9; clear hx9 ho9 hb9)
       | ((with_reducible refine gate_callee (f := 45) rfl ?_); refine goesL_ (some 38) rfl rfl Try.func45 (by kernel_rfl) rfl #[.slice A9 o.length c9, .func (.func 46) #[] #[]] rfl (by (try simp only [map_toArray, map_cons, map_nil]); first | done | rfl) ?_; refine (sort_box o W0 _ gb A9 c9 l1.length a0 A1 c1 HG.out ?sB ?sV HL.out ?sX).mono ?_; (case sB => exact (by repeat (first | (with_reducible first | exact HB.out | apply ba_ | apply bn_ | apply bd_) | exact HB.out))); (case sX => exact (by (with_reducible repeat (first | refine kn_ ?_ _ | refine kd_ ?_ | refine ka_ ?_ _)); exact HX.out)); (case sV => exact (by (with_reducible repeat (first | apply Kd.R_alloc | apply Kd.R_drewN | apply Kd.R_drew)); exact HV.out)); rintro e w10 ⟨rfl, hx9, ho9, hb9⟩; refine ⟨_, rfl, ?_⟩; clear z0 z1 z2 zf; obtain ⟨y0, y1, y2, yf⟩ := cu_cells hx9; clear HX HB HV; have HX := ak_ hx9; have HV := ak_ ho9; have HB := ak_ hb9; clear hx9 ho9 hb9))
      go_ret2
      exact ⟨_, rfl, Kd.R_lower (by (with_reducible repeat (first | apply Kd.R_alloc | apply Kd.R_drewN | apply Kd.R_drew)); exact HV.out) (by rw [HG.out]; exact HB0.out.size), below_step HB0.out (by repeat (first | (with_reducible first | exact HB.out | apply ba_ | apply bn_ | apply bd_) | exact HB.out))⟩
     ·rw [if_neg d4] at H
      cases H
    ·rw [if_neg d3] at H
     simp only [Option.some.injEq, Prod.mk.injEq] at H
     obtain ⟨rfl, rfl⟩ := H
     have d3b0 : (e2 != 0) = true := bne_iff_ne.mpr d3
     clear d3
     go_enter Try.func15, Try.ntmps15
     go_wp2_with (first
       | ((with_reducible refine gate_callee (f := 43) rfl ?_); refine goesL_ (some 13) rfl rfl Try.func43 (by kernel_rfl) rfl #[.int .i64 a0, .slice A1 l1.length c1, .int .u64 1] rfl (by (try simp only [map_toArray, map_cons, map_nil]); first | done | rfl) ?_; refine (steiner_Is.calls k a0 A1 c1 l1 1 true 0 _ ?sa HC1.out AI.out).mono ?_; (case sa => repeat (first | exact HR1.out | (with_reducible refine Kd.C_drewN ?_ _) | (with_reducible refine Kd.C_drew ?_))); rintro e w5 ⟨rfl, hb⟩; refine ⟨_, rfl, ?_⟩; have n2_ := ak_ (below_step (by repeat (first | (with_reducible first | exact HB.out | apply bn_ | apply bd_) | exact HB.out)) hb); clear HB; have HB := n2_; clear n2_ hb)
       | ((with_reducible refine gate_dst (N := 28) rfl ?_); refine box_event ?hg (N := 28) ?hd (cs := #[.int .i64 a0, .slice A1 l1.length c1, .slice none 0 0]) (t := 85) ?hr ?_; (case hd => rfl); (case hg => rfl); (case hr => first | (go_simp; done) | (go_simp; rfl)); intro gb hg w6 hbox hb; have n0_ : ∃ W0 : World, gb = W0.heap.size ∧ Below w.heap.size w W0 ∧ Kd.C (Kd.int .u64) W0 A1 l1.length l1 ∧ Below W0.heap.size W0 w6 := ⟨_, hg, (by repeat (first | (with_reducible first | exact HB.out | apply bn_ | apply bd_) | exact HB.out)), Kd.C_below HR1.out (by repeat (first | (with_reducible first | exact HB.out | apply bn_ | apply bd_) | exact HB.out)), hb⟩; obtain ⟨W0, hg0, hB0, hR0, hBW⟩ := n0_; have HG := ak_ hg0; have HB0 := ak_ hB0; have HR0 := ak_ hR0; have HX := ak_ hbox; clear HB; have HB := ak_ hBW; clear hg0 hB0 hR0 hBW hbox hb hg)
       | ((with_reducible refine gate_callee (f := 44) rfl ?_); refine goesL_ (some 30) rfl rfl Try.func44 (by kernel_rfl) rfl #[.pointer (some ⟨gb, 0, none⟩), .int .u64 1] rfl (by (try simp only [map_toArray, map_cons, map_nil]); first | done | rfl) ?_; refine (diff_cut.box k a0 A1 c1 l1 o e2 W0 _ gb HG.out HR0.out HC1.out ?sX ?sB AC.out).mono ?_; (case sB => exact (by repeat (first | (with_reducible first | exact HB.out | apply ba_ | apply bn_ | apply bd_) | exact HB.out))); (case sX => exact (by (with_reducible repeat (first | refine kn_ ?_ _ | refine kd_ ?_ | refine ka_ ?_ _)); exact HX.out)); rintro e w9 ⟨rfl, A9, c9, hx9, ho9, hb9⟩; refine ⟨_, rfl, ?_⟩; clear HX HB; have HB := ak_ hb9; clear hx9 ho9 hb9))
     go_ret2
     exact ⟨_, rfl, Kd.R_nil _ _ _ _ _, below_step HB0.out (by repeat (first | (with_reducible first | exact HB.out | apply ba_ | apply bn_ | apply bd_) | exact HB.out))⟩
   ·rw [if_neg d2] at H
    obtain rfl : s = false := by simpa using d2
    clear d2
    simp only [Option.some.injEq, Prod.mk.injEq] at H
    obtain ⟨rfl, rfl⟩ := H
    go_enter Try.func15, Try.ntmps15
    go_wp2_with (first
       | ((with_reducible refine gate_callee (f := 43) rfl ?_); refine goesL_ (some 13) rfl rfl Try.func43 (by kernel_rfl) rfl #[.int .i64 a0, .slice A1 l1.length c1, .int .u64 1] rfl (by (try simp only [map_toArray, map_cons, map_nil]); first | done | rfl) ?_; refine (steiner_Is.calls k a0 A1 c1 l1 1 false 0 _ ?sa HC1.out AI.out).mono ?_; (case sa => repeat (first | exact HR1.out | (with_reducible refine Kd.C_drewN ?_ _) | (with_reducible refine Kd.C_drew ?_))); rintro e w5 ⟨rfl, hb⟩; refine ⟨_, rfl, ?_⟩; have n2_ := ak_ (below_step (by repeat (first | (with_reducible first | exact HB.out | apply bn_ | apply bd_) | exact HB.out)) hb); clear HB; have HB := n2_; clear n2_ hb)
       | ((with_reducible refine gate_dst (N := 24) rfl ?_); refine Kd.R_lit k34 _ 34 ?hg (N := 24) ?hd (xs := ([(⟨1, 0⟩ : S34)] : List (S34))) (inner := [.int .u64 1, .int .u64 0]) (ok := fun _ => True) (okp := fun _ => True) ?hr ?hp (fun _ hk => hk) trivial (Below.refl _ _) (Nat.le_refl _) (by simp) ?_; (case hd => rfl); (case hg => rfl); (case hr => first | (go_simp; done) | (go_simp; rfl)); (case hp => exact (Reps.c2 (show Kd.M k34 _ _ _ (⟨1, 0⟩ : S34) [.int .u64 1, .int .u64 0] from (k34_mkM _ _ _ (⟨1, 0⟩ : S34) )) (Reps.none _ _))); intro v7 w7 ho hb hg_ hnew_; clear hg_ hnew_; have n0_ := ak_ (Kd.R_lower ho (below_size (by repeat (first | (with_reducible first | exact HB.out | apply ba_ | apply bn_ | apply bd_) | exact HB.out)))); have n2_ := ak_ (below_step (by repeat (first | (with_reducible first | exact HB.out | apply ba_ | apply bn_ | apply bd_) | exact HB.out)) hb); clear HB; have HB := n2_; have HV := n0_; clear n0_ n2_ ho hb))
    go_ret2
    exact ⟨_, rfl, (by (with_reducible repeat (first | apply Kd.R_alloc | apply Kd.R_drewN | apply Kd.R_drew)); exact HV.out), (by repeat (first | (with_reducible first | exact HB.out | apply ba_ | apply bn_ | apply bd_) | exact HB.out))⟩
  ·rw [if_neg d1] at H
   simp only [Option.some.injEq, Prod.mk.injEq] at H
   obtain ⟨rfl, rfl⟩ := H
   have d1b0 : (e1 != 0) = true := bne_iff_ne.mpr d1
   clear d1
   go_enter Try.func15, Try.ntmps15
   go_wp2_with (first
       | ((with_reducible refine gate_callee (f := 43) rfl ?_); refine goesL_ (some 13) rfl rfl Try.func43 (by kernel_rfl) rfl #[.int .i64 a0, .slice A1 l1.length c1, .int .u64 1] rfl (by (try simp only [map_toArray, map_cons, map_nil]); first | done | rfl) ?_; refine (steiner_Is.calls k a0 A1 c1 l1 1 s e1 _ ?sa HC1.out AI.out).mono ?_; (case sa => repeat (first | exact HR1.out | (with_reducible refine Kd.C_drewN ?_ _) | (with_reducible refine Kd.C_drew ?_))); rintro e w5 ⟨rfl, hb⟩; refine ⟨_, rfl, ?_⟩; have n2_ := ak_ (below_step (by repeat (first | (with_reducible first | exact HB.out | apply bn_ | apply bd_) | exact HB.out)) hb); clear HB; have HB := n2_; clear n2_ hb))
   go_ret2
   exact ⟨_, rfl, Kd.R_nil _ _ _ _ _, (by repeat (first | (with_reducible first | exact HB.out | apply ba_ | apply bn_ | apply bd_) | exact HB.out))⟩

set_option maxHeartbeats 8000000 in
set_option maxRecDepth 100000 in
theorem slices_Grow_nil.calls (n : Int) (w : World) (h0 : 0 ≤ n) (hl : n.toNat ≤ 17592186044416) :
   Calls Try.prog 148 #[.slice none 0 0, .int .i64 n] w fun e w' => ∃ v : Value, e = .returned v ∧ Kd.R (Kd.int .u64) 28 w' w.heap.size (fun _ => True) v (List.replicate 0 0) ∧ Below w.heap.size w w' := by
  have e1 : wrap64 (n - 0) = n := by unfold wrap64; omega
  have e2 : wrap64 n = n := by unfold wrap64; omega
  by_cases c : n = 0
  ·subst c
   go_enter Try.func148, Try.ntmps148
   go_wp2
   go_ret
   exact ⟨_, rfl, Kd.R_nil _ _ _ _ _, Below.refl _ _⟩
  ·have c1 : decide (n < 0) = false := decide_eq_false (by omega)
   have c2 : decide (0 < n) = true := decide_eq_true (by omega)
   go_enter Try.func148, Try.ntmps148
   go_wp2_with (first | (at_builtin; refine Kd.R_append_zeros (Kd.int .u64) (w0 := w) w.heap.size rfl (.tmp 20) (.tmp 21) 22 3 28 (.int .u64 0) 8 rfl Try.underlying22 Try.underlying3 info28 rfl (by decide) (by omega) (.slice none 0 0) [] 0 n (fun _ => True) rfl rfl rfl (fun _ _ => trivial) (Kd.R_nil _ _ _ _ _) h0 (Below.refl _ _) (Nat.le_refl _) (by simp; omega) ?_; intro v1 w1 ho hb hg hat; clear hg hat; obtain ⟨Ax, cx, ex⟩ := Kd.R_slice ho; subst ex; have HO := ak_ ho; have HB := ak_ hb; clear ho hb; have hlen : (([] : List Int) ++ List.replicate n.toNat 0).length = n.toNat := by simp))
   go_ret
   exact ⟨_, rfl, by have h := Kd.R_take HO.out (Nat.zero_le _); simpa using h, HB.out⟩
/-! ### slices_Concat_uint64_uint64: function 134 -/
mutual
def slices_Concat_uint64_uint64.l0 : Nat → List (List Int) → Int → List (List Int) → Int → Int → Option (List Int)
  | 0, _, _, _, _, _ => none
  | k + 1, x0, x3, x9, x10, x11 => if x11 < x10 then (if 0 ≤ x11 then (if x11 < (x9.length : Int) then (if (wrap64 (x3 + ((rd_L4 x9 x11).length : Int))) < 0 then (none) else (slices_Concat_uint64_uint64.l0 k x0 (wrap64 (x3 + ((rd_L4 x9 x11).length : Int))) x9 x10 (wrap64 (x11 + 1)))) else (none)) else (none)) else (if 0 ≤ x3 then (if (x3 : Int).toNat ≤ 17592186044416 then (slices_Concat_uint64_uint64.l1 k (List.replicate 0 0) x0 (x0.length : Int) 0) else (none)) else (none))
def slices_Concat_uint64_uint64.l1 : Nat → List Int → List (List Int) → Int → Int → Option (List Int)
  | 0, _, _, _, _ => none
  | k + 1, x6, x25, x26, x27 => if x27 < x26 then (if 0 ≤ x27 then (if x27 < (x25.length : Int) then (if x6.length + (rd_L4 x25 x27).length < 17592186044416 then (slices_Concat_uint64_uint64.l1 k (x6 ++ (rd_L4 x25 x27)) x25 x26 (wrap64 (x27 + 1))) else (none)) else (none)) else (none)) else (some x6)
end
def slices_Concat_uint64_uint64.f (k : Nat) (l0 : List (List Int)) : Option (List Int) := slices_Concat_uint64_uint64.l0 k l0 0 l0 (l0.length : Int) 0
theorem slices_Concat_uint64_uint64.mono_l : ∀ k, (∀ y0 y1 y2 y3 y4, LeO (slices_Concat_uint64_uint64.l0 k y0 y1 y2 y3 y4) (slices_Concat_uint64_uint64.l0 (k + 1) y0 y1 y2 y3 y4)) ∧ (∀ y0 y1 y2 y3, LeO (slices_Concat_uint64_uint64.l1 k y0 y1 y2 y3) (slices_Concat_uint64_uint64.l1 (k + 1) y0 y1 y2 y3))
  | 0 => ⟨fun _ _ _ _ _ r h => by simp [slices_Concat_uint64_uint64.l0] at h, fun _ _ _ _ r h => by simp [slices_Concat_uint64_uint64.l1] at h⟩
  | k + 1 => by
   obtain ⟨ih0, ih1⟩ := slices_Concat_uint64_uint64.mono_l k
   refine ⟨?_, ?_⟩
   ·intro y0 y1 y2 y3 y4
    unfold slices_Concat_uint64_uint64.l0
    repeat' first
    | (with_reducible exact ih0 _ _ _ _ _)
    | (with_reducible exact ih1 _ _ _ _)
    | (with_reducible exact LeO.refl _)
    | (with_reducible exact LeO.none _)
    | (with_reducible refine LeO.ite ?_ ?_)
    | (with_reducible refine LeO.bind ?_ (fun _ => ?_))
    | exact ih0 _ _ _ _ _
    | exact ih1 _ _ _ _
    | exact LeO.none _
    | refine LeO.ite ?_ ?_
    | refine LeO.bind ?_ (fun _ => ?_)
   ·intro y0 y1 y2 y3
    unfold slices_Concat_uint64_uint64.l1
    repeat' first
    | (with_reducible exact ih0 _ _ _ _ _)
    | (with_reducible exact ih1 _ _ _ _)
    | (with_reducible exact LeO.refl _)
    | (with_reducible exact LeO.none _)
    | (with_reducible refine LeO.ite ?_ ?_)
    | (with_reducible refine LeO.bind ?_ (fun _ => ?_))
    | exact ih0 _ _ _ _ _
    | exact ih1 _ _ _ _
    | exact LeO.none _
    | refine LeO.ite ?_ ?_
    | refine LeO.bind ?_ (fun _ => ?_)
theorem slices_Concat_uint64_uint64.mono : ∀ a0 k, LeO (slices_Concat_uint64_uint64.f k a0) (slices_Concat_uint64_uint64.f (k + 1) a0) := by
  intro a0 k
  obtain ⟨ih0, ih1⟩ := slices_Concat_uint64_uint64.mono_l k
  unfold slices_Concat_uint64_uint64.f
  repeat' first
    | (with_reducible exact ih0 _ _ _ _ _)
    | (with_reducible exact ih1 _ _ _ _)
    | (with_reducible exact LeO.refl _)
    | (with_reducible exact LeO.none _)
    | (with_reducible refine LeO.ite ?_ ?_)
    | (with_reducible refine LeO.bind ?_ (fun _ => ?_))
    | exact ih0 _ _ _ _ _
    | exact ih1 _ _ _ _
    | exact LeO.none _
    | refine LeO.ite ?_ ?_
    | refine LeO.bind ?_ (fun _ => ?_)
set_option maxHeartbeats 8000000 in
set_option maxRecDepth 100000 in
theorem slices_Concat_uint64_uint64.calls (k : Nat) (A0 : Option Addr) (c0 : Nat) (l0 : List (List Int)) (r : List Int) (w : World) (hr0 : Kd.C (Kd.slice 28 (Kd.int .u64)) w A0 l0.length l0) (hc0 : l0.length ≤ c0) (h : slices_Concat_uint64_uint64.f k l0 = some r) :
   Calls Try.prog 134 #[.slice A0 l0.length c0] w fun e w' => ∃ v0_ : Value, e = .returned (v0_) ∧ Kd.R (Kd.int .u64) 28 w' w.heap.size (fun _ => True) v0_ r ∧ Below w.heap.size w w' := by
  have HR0 := ak_ hr0
  have HC0 := ak_ hc0
  clear hr0 hc0
  have HB := ak_ (Below.refl w.heap.size w)
  have H : (slices_Concat_uint64_uint64.l0 k l0 0 l0 (l0.length : Int) 0) = some r := h
  clear h
  have H' := ak_ H
  clear H
  go_enter Try.func134, Try.ntmps134
  go_wp2
  go_loopg [3, 11] k (fun kq v3 v11 w' => ∃ (x3_1 : Int) (x11_1 : Int), v3 = .int .i64 x3_1 ∧ v11 = .int .i64 x11_1 ∧ Aside0 (slices_Concat_uint64_uint64.l0 kq l0 x3_1 l0 (l0.length : Int) x11_1 = some r) ∧ Aside0 (kq ≤ k) ∧ Aside0 (Below w.heap.size w w'))
  case atStart => exact ⟨(0), (0), (by first | rfl | (simp; done) | (simp [*]; done)), (by first | rfl | (simp; done) | (simp [*]; done)), H', ⟨Nat.le_refl _⟩, ⟨by repeat (first | (with_reducible first | exact HB.out | apply ba_ | apply bn_ | apply bd_) | exact HB.out)⟩⟩
  case round =>
   clear H'
   try clear c1
   obtain ⟨x3_1, x11_1, rfl, rfl, HA, HK1, HB⟩ := hrel
   cases gk with
   | zero => exact absurd HA.out (by simp [slices_Concat_uint64_uint64.l0])
   | succ k1 =>
    have H := HA.out
    clear HA
    simp only [slices_Concat_uint64_uint64.l0] at H
    by_cases c2 : x11_1 < (l0.length : Int)
    ·rw [if_pos c2] at H
     have c2b0 : decide (x11_1 < (l0.length : Int)) = true := decide_eq_true c2
     clear c2
     by_cases c3 : 0 ≤ x11_1
     ·rw [if_pos c3] at H
      have c3b0 : decide (0 ≤ x11_1) = true := decide_eq_true c3
      clear c3
      by_cases c4 : x11_1 < (l0.length : Int)
      ·rw [if_pos c4] at H
       have c4b0 : decide (x11_1 < (l0.length : Int)) = true := decide_eq_true c4
       clear c4
       by_cases c5 : (wrap64 (x3_1 + ((rd_L4 l0 x11_1).length : Int))) < 0
       ·rw [if_pos c5] at H
        exact absurd H (by simp)
       ·rw [if_neg c5] at H
        have c5b0 : decide ((wrap64 (x3_1 + ((rd_L4 l0 x11_1).length : Int))) < 0) = false := decide_eq_false c5
        clear c5
        have H' := ak_ H
        clear H
        have p238 : 0 ≤ (x11_1 : Int) := of_decide_eq_true (by first | (with_reducible assumption) | assumption)
        have q238 : x11_1 < (l0.length : Int) := of_decide_eq_true (by first | (with_reducible assumption) | assumption)
        obtain ⟨ad238, A238_0, c238_0, e238, hx238_0, hl238_0, hi238_0⟩ := at_L4 HR0.out x11_1 p238 q238
        cases e238
        replace hx238_0 := (HB.out.cell (World.block_lt_of_cell? w _ hx238_0)).trans hx238_0
        have HR238_0 := ak_ hi238_0
        have HC238_0 := ak_ hl238_0
        clear hi238_0 hl238_0
        replace p238 := eq_true p238
        replace q238 := eq_true q238
        go_wp2
        go_roundg k1
        case measure => have := HK1.out; omega
        case rel => exact ⟨(wrap64 (x3_1 + ((rd_L4 l0 x11_1).length : Int))), (wrap64 (x11_1 + 1)), (by first | rfl | (simp; done) | (simp [*]; done)), (by first | rfl | (simp; done) | (simp [*]; done)), H', ⟨by have := HK1.out; omega⟩, ⟨by repeat (first | (with_reducible first | exact HB.out | apply ba_ | apply bn_ | apply bd_) | exact HB.out)⟩⟩
      ·rw [if_neg c4] at H
       exact absurd H (by simp)
     ·rw [if_neg c3] at H
      exact absurd H (by simp)
    ·rw [if_neg c2] at H
     have c2b0 : decide (x11_1 < (l0.length : Int)) = false := decide_eq_false c2
     clear c2
     by_cases c6 : 0 ≤ x3_1
     ·rw [if_pos c6] at H
      have c6b0 := eq_true c6
      have c6b1 : decide (0 ≤ x3_1) = true := decide_eq_true c6
      clear c6
      by_cases c7 : (x3_1 : Int).toNat ≤ 17592186044416
      ·rw [if_pos c7] at H
       have c7b0 := eq_true c7
       have c7b1 : decide ((x3_1 : Int).toNat ≤ 17592186044416) = true := decide_eq_true c7
       clear c7
       obtain ⟨y239, hy239⟩ : ∃ y_ : List Int, y_ = (List.replicate 0 0) := ⟨_, rfl⟩
       replace H : (slices_Concat_uint64_uint64.l1 k1 y239 l0 (l0.length : Int) 0) = some r := by first | (rw [hy239]; with_reducible exact H) | (have H2_ := (Option.bind_some _ _).symm.trans H; rw [hy239]; with_reducible exact H2_) | (have H2_ := (Option.bind_some _ _).symm.trans H; with_reducible exact H2_) | with_reducible exact H | (rw [hy239]; exact H) | exact H
       have Ny239 := ak_ hy239
       clear hy239
       have H' := ak_ H
       clear H
       go_wp2_with (first | ((with_reducible refine gate_callee (f := 148) rfl ?_); refine goesL_ (some 24) rfl rfl Try.func148 (by kernel_rfl) rfl #[.slice none 0 0, .int .i64 x3_1] rfl (by (try simp only [map_toArray, map_cons, map_nil]); first | done | rfl) ?_; (with_reducible refine (slices_Grow_nil.calls x3_1 _ (of_decide_eq_true (by first | (with_reducible assumption) | assumption)) (of_decide_eq_true (by first | (with_reducible assumption) | assumption))).mono ?_); rintro e w8 ⟨v240, rfl, ho9, hb⟩; refine ⟨_, rfl, ?_⟩; (first | rw [← Ny239.out] at ho9 | (simp only [Int.reduceToNat] at ho9; rw [← Ny239.out] at ho9)); have n0_ := ak_ (Kd.R_lower ho9 (below_size (by repeat (first | (with_reducible first | exact HB.out | apply ba_ | apply bn_ | apply bd_) | exact HB.out)))); have n1_ := ak_ (below_step (by repeat (first | (with_reducible first | exact HB.out | apply ba_ | apply bn_ | apply bd_) | exact HB.out)) hb); clear HB; have HO241 := n0_; have HB := n1_; clear n0_ n1_; clear hb ho9))
       go_loopg [6, 27] k1 (fun kq v6 v27 w' => ∃ (x6_2 : List Int) (x27_2 : Int), v27 = .int .i64 x27_2 ∧ Aside0 (slices_Concat_uint64_uint64.l1 kq x6_2 l0 (l0.length : Int) x27_2 = some r) ∧ Aside0 (kq ≤ k1) ∧ Aside0 (Kd.R (Kd.int .u64) 28 w' w.heap.size (fun _ => True) v6 x6_2) ∧ Aside0 (Below w.heap.size w w'))
       case atStart => exact ⟨(y239), (0), (by first | rfl | (simp; done) | (simp [*]; done)), H', ⟨Nat.le_refl _⟩, ⟨by (with_reducible repeat (first | apply Kd.R_alloc | apply Kd.R_drewN | apply Kd.R_drew)); exact HO241.out⟩, ⟨by repeat (first | (with_reducible first | exact HB.out | apply ba_ | apply bn_ | apply bd_) | exact HB.out)⟩⟩
       case round =>
        clear H'
        try clear c1
        try clear c2
        try clear c2b0
        try clear p2
        try clear q2
        try clear hx2
        try clear c3
        try clear c3b0
        try clear c4
        try clear c4b0
        try clear c5
        try clear c5b0
        try clear c6
        try clear c6b0
        try clear c6b1
        try clear p6
        try clear c7
        try clear c7b0
        try clear c7b1
        try clear hx238_0
        try clear p238
        try clear q238
        obtain ⟨x6_2, x27_2, rfl, HA, HK2, HO_6, HB⟩ := hrel
        cases gk with
        | zero => exact absurd HA.out (by simp [slices_Concat_uint64_uint64.l1])
        | succ k2 =>
         have H := HA.out
         clear HA
         simp only [slices_Concat_uint64_uint64.l1] at H
         by_cases c10 : x27_2 < (l0.length : Int)
         ·rw [if_pos c10] at H
          have c10b0 : decide (x27_2 < (l0.length : Int)) = true := decide_eq_true c10
          clear c10
          by_cases c11 : 0 ≤ x27_2
          ·rw [if_pos c11] at H
           have c11b0 : decide (0 ≤ x27_2) = true := decide_eq_true c11
           clear c11
           by_cases c12 : x27_2 < (l0.length : Int)
           ·rw [if_pos c12] at H
            have c12b0 : decide (x27_2 < (l0.length : Int)) = true := decide_eq_true c12
            clear c12
            by_cases c13 : x6_2.length + (rd_L4 l0 x27_2).length < 17592186044416
            ·rw [if_pos c13] at H
             have LMc13 := ak_ c13
             clear c13
             obtain ⟨y243, hy243⟩ : ∃ y_ : List Int, y_ = (x6_2 ++ (rd_L4 l0 x27_2)) := ⟨_, rfl⟩
             replace H : (slices_Concat_uint64_uint64.l1 k2 y243 l0 (l0.length : Int) (wrap64 (x27_2 + 1))) = some r := by first | (rw [hy243]; with_reducible exact H) | (have H2_ := (Option.bind_some _ _).symm.trans H; rw [hy243]; with_reducible exact H2_) | (have H2_ := (Option.bind_some _ _).symm.trans H; with_reducible exact H2_) | with_reducible exact H | (rw [hy243]; exact H) | exact H
             have Ny243 := ak_ hy243
             clear hy243
             have H' := ak_ H
             clear H
             have p242 : 0 ≤ (x27_2 : Int) := of_decide_eq_true (by first | (with_reducible assumption) | assumption)
             have q242 : x27_2 < (l0.length : Int) := of_decide_eq_true (by first | (with_reducible assumption) | assumption)
             obtain ⟨ad242, A242_0, c242_0, e242, hx242_0, hl242_0, hi242_0⟩ := at_L4 HR0.out x27_2 p242 q242
             cases e242
             replace hx242_0 := (HB.out.cell (World.block_lt_of_cell? w _ hx242_0)).trans hx242_0
             have HR242_0 := ak_ hi242_0
             have HC242_0 := ak_ hl242_0
             clear hi242_0 hl242_0
             replace p242 := eq_true p242
             replace q242 := eq_true q242
             go_wp2_with (first | ((with_reducible refine gate_builtin (b := .append) (xs := #[.tmp 31, .tmp 32]) rfl ?_); at_builtin; refine Kd.R_append_rows (Kd.int .u64) (w0 := w) w.heap.size rfl (.tmp 31) (.tmp 32) 22 28 (.int .u64 0) 8 rfl Try.underlying22 info28 rfl (by decide) (by omega) u6 x6_2 (rd_L4 l0 x27_2) _ _ _ (fun _ => True) (fun _ => False) rfl rfl ?aO ?aR (fun _ _ h => h) (fun _ h => h.elim) ?aF ?aB ?aS ?aL ?_; (case aR => repeat (first | exact (Kd.C_below HR242_0.out HB.out) | (with_reducible refine Kd.C_alloc ?_ _) | (with_reducible refine Kd.C_drewN ?_ _) | (with_reducible refine Kd.C_drew ?_))); (case aB => exact (by repeat (first | (with_reducible first | exact HB.out | apply ba_ | apply bn_ | apply bd_) | exact HB.out))); (case aF => exact (fun _ _ => trivial)); (case aO => exact (by (with_reducible repeat (first | apply Kd.R_alloc | apply Kd.R_drewN | apply Kd.R_drew)); exact HO_6.out)); (case aS => exact (below_size (by repeat (first | (with_reducible first | exact HB.out | apply ba_ | apply bn_ | apply bd_) | exact HB.out)))); (case aL => have := LMc13.out; omega); intro v244 w14 ho hb hg hat; rw [← Ny243.out] at ho; have n0_ := ak_ (hb); have n1_ := ak_ (ho); clear HB; clear HO_6; have HB := n0_; have HO245 := n1_; clear n0_ n1_; clear ho hb hg hat))
             go_roundg k2
             case measure => have := HK1.out; have := HK2.out; omega
             case rel => exact ⟨(y243), (wrap64 (x27_2 + 1)), (by first | rfl | (simp; done) | (simp [*]; done)), H', ⟨by have := HK1.out; have := HK2.out; omega⟩, ⟨by (with_reducible repeat (first | apply Kd.R_alloc | apply Kd.R_drewN | apply Kd.R_drew)); exact HO245.out⟩, ⟨by repeat (first | (with_reducible first | exact HB.out | apply ba_ | apply bn_ | apply bd_) | exact HB.out)⟩⟩
            ·rw [if_neg c13] at H
             exact absurd H (by simp)
           ·rw [if_neg c12] at H
            exact absurd H (by simp)
          ·rw [if_neg c11] at H
           exact absurd H (by simp)
         ·rw [if_neg c10] at H
          have c10b0 : decide (x27_2 < (l0.length : Int)) = false := decide_eq_false c10
          clear c10
          obtain rfl := Option.some.inj H
          go_wp2
          go_ret
          exact ⟨_, by first | rfl | (simp <;> rfl) | (simp [*] <;> rfl), by (with_reducible repeat (first | apply Kd.R_alloc | apply Kd.R_drewN | apply Kd.R_drew)); exact HO_6.out, by repeat (first | (with_reducible first | exact HB.out | apply ba_ | apply bn_ | apply bd_) | exact HB.out)⟩
      ·rw [if_neg c7] at H
       exact absurd H (by simp)
     ·rw [if_neg c6] at H
      exact absurd H (by simp)

/-! ### slices_Compact_uint64_uint64: function 135: by the library's contract (AnyE.slices_Compact) -/
open Go.Shelf Go.Lib in
shelf_lay_g SlLaysE.n43 Slgn 43 at Try 135 as Try.layCompact
def slices_Compact_uint64_uint64.f (_k : Nat) (l0 : List Int) : Option (List Int) := some (Go.Lib.compactUpTo l0.toArray l0.length)
theorem slices_Compact_uint64_uint64.mono : ∀ a0 k, LeO (slices_Compact_uint64_uint64.f k a0) (slices_Compact_uint64_uint64.f (k + 1) a0) := fun _ _ => LeO.refl _
theorem holds_of_R {e base g cap : Nat} {ok : Nat → Prop} {w : World} {xs : List Int} (h : Kd.R (Kd.int .u64) e w base ok (.slice (some ⟨g, 0, none⟩) xs.length cap) xs) : Go.Sort.Holds (Value.int .u64) w g 0 xs.toArray := by
  intro j hj
  have hj' : j < xs.length := by simpa using hj
  have h2 := Kd.R_cell (enc := Value.int .u64) (h1 := fun _ => rfl) (0 : Int) h (j : Int) (by omega) (by omega)
  have e1 : xs.toArray[j]! = rdOf (0 : Int) xs (j : Int) := by
   rw [getElem!_pos _ j hj]
   simp [rdOf, hj', List.getElem?_eq_getElem]
  rw [Nat.zero_add, e1]
  simpa using h2
theorem R_of_put {e base g cap : Nat} {ok : Nat → Prop} {w : World} {xs ys : List Int} (h : Kd.R (Kd.int .u64) e w base ok (.slice (some ⟨g, 0, none⟩) xs.length cap) xs) (hy : ys.length = xs.length) (q : Nat) : Kd.R (Kd.int .u64) e (Go.Sort.putRow (Value.int .u64) (Go.Sort.ahead w q) g 0 ys.toArray) base ok (.slice (some ⟨g, 0, none⟩) ys.length cap) ys := by
  obtain ⟨h0, inner, ho, hr⟩ := h
  obtain ⟨h1, h2⟩ := ho
  rcases h2 with ⟨h2, _⟩ | ⟨g', cap', cur, he, hb, hh, hn, hc, hs, ht⟩
  ·cases h2
  ·simp only [Value.slice.injEq, Option.some.injEq, Addr.mk.injEq] at he
   obtain ⟨⟨rfl, _⟩, _, rfl⟩ := he
   have hcell : (Go.Sort.putRow (Value.int .u64) (Go.Sort.ahead w q) g 0 ys.toArray).heap[g]? = some (.cells (Go.Sort.putCells (Value.int .u64) 0 ys.toArray cur) e (0, 0)) := by
    simp [Go.Sort.putRow, Go.Sort.mapBlock, Go.Sort.ahead, Array.getElem?_modify, hh, Go.Sort.onCells]
   have htk : (Go.Sort.putCells (Value.int .u64) 0 ys.toArray cur).toList.take ys.length = encs (Value.int .u64) ys := by
    apply List.ext_getElem
    ·simp [Go.Sort.putCells, encs]; simp only [Kd.int, Kd.scalar] at hs; omega
    ·intro i hi1 hi2
     have hi : i < ys.length := by simp [encs] at hi2; exact hi2
     simp [Go.Sort.putCells, encs, hi]
   refine Kd.R_of_own (enc := Value.int .u64) (h1 := fun _ => rfl) ⟨by simp [encs], .inr ⟨g, cap, _, rfl, hb, hcell, by omega, hc, ?_, ?_⟩⟩ (fun k hk => h0 k (by simpa [Value.ownBlock] using hk))
   ·simp only [Kd.int, Kd.scalar] at hs
    simp [Go.Sort.putCells, hs]
   ·simpa using htk
theorem grown_put {w : World} {q g : Nat} (d : Array Int) : w.grownBy (Go.Sort.putRow (Value.int .u64) (Go.Sort.ahead w q) g 0 d) (some g) := by
  refine ⟨rfl, rfl, rfl, by simp, fun k hk hne => ?_⟩
  have : g ≠ k := fun e => hne (by rw [e])
  simp [Go.Sort.putRow, Go.Sort.mapBlock, Go.Sort.ahead, Array.getElem?_modify, this]
theorem compactUpTo_length (d : Array Int) (m : Nat) : (Go.Lib.compactUpTo d m).length ≤ m := by
  unfold Go.Lib.compactUpTo
  rw [List.length_map]
  exact Nat.le_trans (List.length_filter_le _ _) (by simp)
set_option maxHeartbeats 8000000 in
set_option maxRecDepth 100000 in
theorem slices_Compact_uint64_uint64.calls (k : Nat) (P0_ : Nat → Prop) (u9000_ : Value) (l0 : List Int) (r : List Int) (w0 w : World) (hB : Below w0.heap.size w0 w) (ho0 : Kd.R (Kd.int .u64) 28 w w0.heap.size P0_ u9000_ l0) (h : slices_Compact_uint64_uint64.f k l0 = some r) :
   Calls Try.prog 135 #[u9000_] w fun e w' => ∃ v0_ : Value, e = .returned (v0_) ∧ Kd.R (Kd.int .u64) 28 w' w0.heap.size (fun k_ => (P0_ k_ ∨ w.heap.size ≤ k_)) v0_ r ∧ Below w0.heap.size w0 w' ∧ Kept w w' (fun k_ => P0_ k_) := by
  obtain rfl : Go.Lib.compactUpTo l0.toArray l0.length = r := Option.some.inj h
  have hown := ho0
  obtain ⟨h0, inner, ⟨h1, h2⟩, hr⟩ := hown
  rcases h2 with ⟨rfl, h2⟩ | ⟨g, cap, cur, rfl, hb, hh, hn, hc, hs, ht⟩
  ·obtain rfl : l0 = [] := List.length_eq_zero_iff.1 h2
   clear hr h0 h1 h
   go_enter Try.func135, Try.ntmps135
   go_wp2
   go_ret
   exact ⟨_, rfl, Kd.R_nil _ _ _ _ _, hB, Kept.refl _ _⟩
  ·have hmax : cap ≤ 9223372036854775807 := by simp only [maxLen] at hc; omega
   have hc2 := Go.Proofs.AnyE.slices_Compact (α := Int) Try.layCompact (Value.int .u64) (fun _ => rfl) (EqlAt.intD _ _ .u64) (NeqAt.intD _ _ .u64) (0 : Int) (fun _ => rfl) g 0 cap l0.toArray w (holds_of_R ho0) (by simp; omega) (by simpa using hn)
   have hsz : l0.toArray.size = l0.length := by simp
   rw [hsz] at hc2
   refine Calls.mono (show Calls Try.prog 135 #[.slice (some ⟨g, 0, none⟩) l0.length cap] w _ from hc2) ?_
   rintro e w' ⟨rfl, q, rfl⟩
   have hle := compactUpTo_length l0.toArray l0.length
   have hR := R_of_put (ys := Go.Lib.compactUpTo l0.toArray l0.length ++ List.replicate (l0.length - (Go.Lib.compactUpTo l0.toArray l0.length).length) 0) ho0 (by simp; omega) q
   have hT := Kd.R_take (m := (Go.Lib.compactUpTo l0.toArray l0.length).length) hR (by simp)
   rw [List.take_left'] at hT
   ·have hg := grown_put (w := w) (q := q) (g := g) (Go.Lib.compactUpTo l0.toArray l0.length ++ List.replicate (l0.length - (Go.Lib.compactUpTo l0.toArray l0.length).length) (0 : Int)).toArray
    exact ⟨_, rfl, Kd.R_mono hT (fun k_ hk => .inl hk), hB.grown hg hB.size (fun j hj => by obtain rfl := Option.some.inj hj; exact hb), Kept.of_grown hg (Kept.refl _ _) (fun k_ hk => by obtain rfl := Option.some.inj hk; exact .inl (h0 _ (by simp [Value.ownBlock])))⟩
   ·rfl

theorem concat_two (x y : List Int) (h : x.length + y.length < 17592186044416) : slices_Concat_uint64_uint64.f 7 [x, y] = some (x ++ y) := by
  have w1 : wrap64 1 = 1 := by unfold wrap64; omega
  have w2 : wrap64 2 = 2 := by unfold wrap64; omega
  have w3 : wrap64 (x.length : Int) = (x.length : Int) := by unfold wrap64; omega
  have w4 : wrap64 ((x.length : Int) + (y.length : Int)) = (x.length : Int) + (y.length : Int) := by unfold wrap64; omega
  have r0 : rd_L4 [x, y] 0 = x := rfl
  have r1 : rd_L4 [x, y] 1 = y := rfl
  unfold slices_Concat_uint64_uint64.f
  simp only [slices_Concat_uint64_uint64.l0, slices_Concat_uint64_uint64.l1, List.length_cons, List.length_nil]
  simp only [show (((0 + 1 + 1 : Nat)) : Int) = 2 from rfl, r0, r1, Int.zero_add, w1, w2, w3, w4, show (1 : Int) + 1 = 2 from rfl, show (0 : Int) + 1 = 1 from rfl]
  have a1 : ¬ ((x.length : Int) < 0) := by omega
  have a2 : ¬ ((x.length : Int) + (y.length : Int) < 0) := by omega
  have a3 : (0 : Int) ≤ (x.length : Int) + (y.length : Int) := by omega
  have a4 : ((x.length : Int) + (y.length : Int)).toNat ≤ 17592186044416 := by omega
  have a5 : x.length < 17592186044416 := by omega
  simp [a1, a2, a3, a4, a5, h]
/-! ### steiner_tree: function 105 -/
mutual
def steiner_tree.l0 : Nat → Int → List Int → List Int → Int → Int → Option (List Int × Int)
  | 0, _, _, _, _, _ => none
  | k + 1, x0, x7, x23, x24, x25 => if x25 < x24 then (if 0 ≤ x25 then (if x25 < (x23.length : Int) then ((node_Leaf.f x0 (rd x23 x25)).bind fun bt268 => (if bt268.2 = 0 then (if x25 < (x7.length : Int) then (steiner_tree.l0 k x0 (x7.set (x25 : Int).toNat bt268.1) x23 x24 (wrap64 (x25 + 1))) else (none)) else (some (([] : List Int), bt268.2)))) else (none)) else (none)) else (steiner_tree.l1 k x7 ([] : List Int) (wrap64 (x0 + 1)) 0)
def steiner_tree.l1 : Nat → List Int → List Int → Int → Int → Option (List Int × Int)
  | 0, _, _, _, _ => none
  | k + 1, x7, x12, x45, x46 => if x46 < x45 then (if ([] : List Int).length + x7.length < 17592186044416 then ((some (([] : List Int) ++ x7 : List Int)).bind fun y271 => (if y271.length + x12.length < 17592186044416 then (steiner_tree.l2 k x7 (y271 ++ x12) x45 x46 (x7.length : Int) 0) else (none))) else (none)) else (some (x12, 0))
def steiner_tree.l2 : Nat → List Int → List Int → Int → Int → Int → Int → Option (List Int × Int)
  | 0, _, _, _, _, _, _ => none
  | k + 1, x7, x12, x45, x46, x53, x54 => if x54 < x53 then (if 0 ≤ x54 then (if x54 < (x7.length : Int) then (steiner_tree.l2 k (x7.set (x54 : Int).toNat ((rd x7 x54) / 2)) x12 x45 x46 x53 (wrap64 (x54 + 1))) else (none)) else (none)) else ((slices_Compact_uint64_uint64.f k x7).bind fun t279 => (steiner_tree.l1 k t279 x12 x45 (wrap64 (x46 + 1))))
end
def steiner_tree.f (k : Nat) (a0 : Int) (l1 : List Int) : Option (List Int × Int) := (leaf_Check.f k a0 l1).bind fun t263 => (if t263 = 0 then (if 0 ≤ (l1.length : Int) then (if ((l1.length : Int) : Int).toNat ≤ 35184372088832 then (steiner_tree.l0 k a0 (List.replicate ((l1.length : Int) : Int).toNat 0) l1 (l1.length : Int) 0) else (none)) else (none)) else (some (([] : List Int), t263)))
theorem steiner_tree.mono_l : ∀ k, (∀ y0 y1 y2 y3 y4, LeO (steiner_tree.l0 k y0 y1 y2 y3 y4) (steiner_tree.l0 (k + 1) y0 y1 y2 y3 y4)) ∧ (∀ y0 y1 y2 y3, LeO (steiner_tree.l1 k y0 y1 y2 y3) (steiner_tree.l1 (k + 1) y0 y1 y2 y3)) ∧ (∀ y0 y1 y2 y3 y4 y5, LeO (steiner_tree.l2 k y0 y1 y2 y3 y4 y5) (steiner_tree.l2 (k + 1) y0 y1 y2 y3 y4 y5))
  | 0 => ⟨fun _ _ _ _ _ r h => by simp [steiner_tree.l0] at h, fun _ _ _ _ r h => by simp [steiner_tree.l1] at h, fun _ _ _ _ _ _ r h => by simp [steiner_tree.l2] at h⟩
  | k + 1 => by
   obtain ⟨ih0, ih1, ih2⟩ := steiner_tree.mono_l k
   refine ⟨?_, ?_, ?_⟩
   ·intro y0 y1 y2 y3 y4
    unfold steiner_tree.l0
    repeat' first
    | (with_reducible exact ih0 _ _ _ _ _)
    | (with_reducible exact ih1 _ _ _ _)
    | (with_reducible exact ih2 _ _ _ _ _ _)
    | (with_reducible exact leaf_Check.mono _ _ _)
    | (with_reducible exact slices_Compact_uint64_uint64.mono _ _)
    | (with_reducible exact LeO.refl _)
    | (with_reducible exact LeO.none _)
    | (with_reducible refine LeO.ite ?_ ?_)
    | (with_reducible refine LeO.bind ?_ (fun _ => ?_))
    | exact ih0 _ _ _ _ _
    | exact ih1 _ _ _ _
    | exact ih2 _ _ _ _ _ _
    | exact leaf_Check.mono _ _ _
    | exact slices_Compact_uint64_uint64.mono _ _
    | exact LeO.none _
    | refine LeO.ite ?_ ?_
    | refine LeO.bind ?_ (fun _ => ?_)
   ·intro y0 y1 y2 y3
    unfold steiner_tree.l1
    repeat' first
    | (with_reducible exact ih0 _ _ _ _ _)
    | (with_reducible exact ih1 _ _ _ _)
    | (with_reducible exact ih2 _ _ _ _ _ _)
    | (with_reducible exact leaf_Check.mono _ _ _)
    | (with_reducible exact slices_Compact_uint64_uint64.mono _ _)
    | (with_reducible exact LeO.refl _)
    | (with_reducible exact LeO.none _)
    | (with_reducible refine LeO.ite ?_ ?_)
    | (with_reducible refine LeO.bind ?_ (fun _ => ?_))
    | exact ih0 _ _ _ _ _
    | exact ih1 _ _ _ _
    | exact ih2 _ _ _ _ _ _
    | exact leaf_Check.mono _ _ _
    | exact slices_Compact_uint64_uint64.mono _ _
    | exact LeO.none _
    | refine LeO.ite ?_ ?_
    | refine LeO.bind ?_ (fun _ => ?_)
   ·intro y0 y1 y2 y3 y4 y5
    unfold steiner_tree.l2
    repeat' first
    | (with_reducible exact ih0 _ _ _ _ _)
    | (with_reducible exact ih1 _ _ _ _)
    | (with_reducible exact ih2 _ _ _ _ _ _)
    | (with_reducible exact leaf_Check.mono _ _ _)
    | (with_reducible exact slices_Compact_uint64_uint64.mono _ _)
    | (with_reducible exact LeO.refl _)
    | (with_reducible exact LeO.none _)
    | (with_reducible refine LeO.ite ?_ ?_)
    | (with_reducible refine LeO.bind ?_ (fun _ => ?_))
    | exact ih0 _ _ _ _ _
    | exact ih1 _ _ _ _
    | exact ih2 _ _ _ _ _ _
    | exact leaf_Check.mono _ _ _
    | exact slices_Compact_uint64_uint64.mono _ _
    | exact LeO.none _
    | refine LeO.ite ?_ ?_
    | refine LeO.bind ?_ (fun _ => ?_)
theorem steiner_tree.mono : ∀ a0 a1 k, LeO (steiner_tree.f k a0 a1) (steiner_tree.f (k + 1) a0 a1) := by
  intro a0 a1 k
  obtain ⟨ih0, ih1, ih2⟩ := steiner_tree.mono_l k
  unfold steiner_tree.f
  repeat' first
    | (with_reducible exact ih0 _ _ _ _ _)
    | (with_reducible exact ih1 _ _ _ _)
    | (with_reducible exact ih2 _ _ _ _ _ _)
    | (with_reducible exact leaf_Check.mono _ _ _)
    | (with_reducible exact slices_Compact_uint64_uint64.mono _ _)
    | (with_reducible exact LeO.refl _)
    | (with_reducible exact LeO.none _)
    | (with_reducible refine LeO.ite ?_ ?_)
    | (with_reducible refine LeO.bind ?_ (fun _ => ?_))
    | exact ih0 _ _ _ _ _
    | exact ih1 _ _ _ _
    | exact ih2 _ _ _ _ _ _
    | exact leaf_Check.mono _ _ _
    | exact slices_Compact_uint64_uint64.mono _ _
    | exact LeO.none _
    | refine LeO.ite ?_ ?_
    | refine LeO.bind ?_ (fun _ => ?_)
set_option maxHeartbeats 8000000 in
set_option maxRecDepth 100000 in
theorem steiner_tree.calls (k : Nat) (a0 : Int) (A1 : Option Addr) (c1 : Nat) (l1 : List Int) (r1 : List Int) (r2 : Int) (w : World) (hr1 : Kd.C (Kd.int .u64) w A1 l1.length l1) (hc1 : l1.length ≤ c1) (h : steiner_tree.f k a0 l1 = some (r1, r2)) :
   Calls Try.prog 105 #[.int .i64 a0, .slice A1 l1.length c1] w fun e w' => ∃ v0_ : Value, e = .returned (.tuple #[v0_, .int .i64 r2]) ∧ Kd.R (Kd.int .u64) 28 w' w.heap.size (fun _ => True) v0_ r1 ∧ Below w.heap.size w w' := by
  have HR1 := ak_ hr1
  have HC1 := ak_ hc1
  clear hr1 hc1
  have HB := ak_ (Below.refl w.heap.size w)
  have H : ((leaf_Check.f k a0 l1).bind fun t263 => (if t263 = 0 then (if 0 ≤ (l1.length : Int) then (if ((l1.length : Int) : Int).toNat ≤ 35184372088832 then (steiner_tree.l0 k a0 (List.replicate ((l1.length : Int) : Int).toNat 0) l1 (l1.length : Int) 0) else (none)) else (none)) else (some (([] : List Int), t263)))) = some (r1, r2) := h
  clear h
  replace H := Option.bind_eq_some_iff.mp H
  obtain ⟨t263, A30, H⟩ := H
  replace H : (if t263 = 0 then (if 0 ≤ (l1.length : Int) then (if ((l1.length : Int) : Int).toNat ≤ 35184372088832 then (steiner_tree.l0 k a0 (List.replicate ((l1.length : Int) : Int).toNat 0) l1 (l1.length : Int) 0) else (none)) else (none)) else (some (([] : List Int), t263))) = some (r1, r2) := H
  have A3 := ak_ A30
  clear A30
  by_cases c4 : t263 = 0
  ·rw [if_pos c4] at H
   have c4b0 : (t263 == 0) = true := beq_iff_eq.mpr c4
   have c4b1 : (t263 != 0) = false := bne_eq_false_iff_eq.mpr c4
   clear c4
   by_cases c5 : 0 ≤ (l1.length : Int)
   ·rw [if_pos c5] at H
    have c5b0 := eq_true c5
    have c5b1 : decide (0 ≤ (l1.length : Int)) = true := decide_eq_true c5
    clear c5
    by_cases c6 : ((l1.length : Int) : Int).toNat ≤ 35184372088832
    ·rw [if_pos c6] at H
     have c6b0 := eq_true c6
     have c6b1 : decide (((l1.length : Int) : Int).toNat ≤ 35184372088832) = true := decide_eq_true c6
     clear c6
     obtain ⟨y264, hy264⟩ : ∃ y_ : List Int, y_ = (List.replicate ((l1.length : Int) : Int).toNat 0) := ⟨_, rfl⟩
     replace H : (steiner_tree.l0 k a0 y264 l1 (l1.length : Int) 0) = some (r1, r2) := by first | (rw [hy264]; with_reducible exact H) | (have H2_ := (Option.bind_some _ _).symm.trans H; rw [hy264]; with_reducible exact H2_) | (have H2_ := (Option.bind_some _ _).symm.trans H; with_reducible exact H2_) | with_reducible exact H | (rw [hy264]; exact H) | exact H
     have Ny264 := ak_ hy264
     clear hy264
     have H' := ak_ H
     clear H
     go_enter Try.func105, Try.ntmps105
     go_wp2_with (first | ((with_reducible refine gate_callee (f := 55) rfl ?_); refine goesL_ (some 16) rfl rfl Try.func55 (by kernel_rfl) rfl #[.int .i64 a0, .slice A1 l1.length c1] rfl (by (try simp only [map_toArray, map_cons, map_nil]); first | done | rfl | (simp only [length_drop, length_take]; rfl)) ?_; (with_reducible refine (leaf_Check.calls k a0 _ _ l1 t263 _ ?side1 ?side2 A3.out).mono ?_); (case side1 => repeat (first | exact HR1.out | (with_reducible refine Kd.C_alloc ?_ _) | (with_reducible refine Kd.C_drewN ?_ _) | (with_reducible refine Kd.C_drew ?_))); (case side2 => exact HC1.out); rintro e w' ⟨rfl, ⟨nd, rfl⟩⟩; refine ⟨_, rfl, ?_⟩) | ((with_reducible refine gate_dst (N := 22) rfl ?_); refine Kd.R_make (Kd.int .u64) _ 28 rfl (N := 22) rfl 22 _ _ rfl (l1.length : Int) rfl rfl Try.underlying22 (.int .u64 0) 8 info28 rfl (by decide) (by omega) 0 (ok := fun _ => True) (okp := fun _ => True) rfl (fun _ hk => hk) trivial (of_decide_eq_true (by first | (with_reducible assumption) | assumption)) (Nat.le_trans (Nat.mul_le_mul_right _ (of_decide_eq_true (by first | (with_reducible assumption) | assumption) : (l1.length : Int).toNat ≤ 35184372088832)) (by omega)) (Below.refl _ _) (Nat.le_refl _) ?_; intro v265 w7 ho8 hb hg_ hnew_; clear hg_ hnew_; (first | rw [← Ny264.out] at ho8 | (simp only [Int.reduceToNat] at ho8; rw [← Ny264.out] at ho8)); have n0_ := ak_ (Kd.R_lower ho8 (below_size (by repeat (first | (with_reducible first | exact HB.out | apply ba_ | apply bn_ | apply bd_) | exact HB.out)))); have n1_ := ak_ (below_step (by repeat (first | (with_reducible first | exact HB.out | apply ba_ | apply bn_ | apply bd_) | exact HB.out)) hb); clear HB; have HO266 := n0_; have HB := n1_; clear n0_ n1_; clear hb ho8))
     go_loopg [25] k (fun kq v25 w' => ∃ (x7_1 : List Int) (x25_1 : Int), v25 = .int .i64 x25_1 ∧ Aside0 (steiner_tree.l0 kq a0 x7_1 l1 (l1.length : Int) x25_1 = some (r1, r2)) ∧ Aside0 (kq ≤ k) ∧ Aside0 (Kd.R (Kd.int .u64) 28 w' w.heap.size (fun _ => True) v265 x7_1) ∧ Aside0 (Below w.heap.size w w'))
     case atStart => exact ⟨(y264), (0), (by first | rfl | (simp; done) | (simp [*]; done)), H', ⟨Nat.le_refl _⟩, ⟨by (with_reducible repeat (first | apply Kd.R_alloc | apply Kd.R_drewN | apply Kd.R_drew)); exact HO266.out⟩, ⟨by repeat (first | (with_reducible first | exact HB.out | apply ba_ | apply bn_ | apply bd_) | exact HB.out)⟩⟩
     case round =>
      clear H'
      try clear c1
      try clear p2
      try clear c4
      try clear c4b0
      try clear c4b1
      try clear c5
      try clear c5b0
      try clear c5b1
      try clear c6
      try clear c6b0
      try clear c6b1
      obtain ⟨x7_1, x25_1, rfl, HA, HK1, HO_7, HB⟩ := hrel
      cases gk with
      | zero => exact absurd HA.out (by simp [steiner_tree.l0])
      | succ k1 =>
       have H := HA.out
       clear HA
       simp only [steiner_tree.l0] at H
       by_cases c9 : x25_1 < (l1.length : Int)
       ·rw [if_pos c9] at H
        have c9b0 : decide (x25_1 < (l1.length : Int)) = true := decide_eq_true c9
        clear c9
        by_cases c10 : 0 ≤ x25_1
        ·rw [if_pos c10] at H
         have c10b0 : decide (0 ≤ x25_1) = true := decide_eq_true c10
         clear c10
         by_cases c11 : x25_1 < (l1.length : Int)
         ·rw [if_pos c11] at H
          have c11b0 : decide (x25_1 < (l1.length : Int)) = true := decide_eq_true c11
          clear c11
          replace H := Option.bind_eq_some_iff.mp H
          obtain ⟨⟨t268, t269⟩, A120, H⟩ := H
          replace H : (if t269 = 0 then (if x25_1 < (x7_1.length : Int) then (steiner_tree.l0 k1 a0 (x7_1.set (x25_1 : Int).toNat t268) l1 (l1.length : Int) (wrap64 (x25_1 + 1))) else (none)) else (some (([] : List Int), t269))) = some (r1, r2) := H
          have A12 := ak_ A120
          clear A120
          by_cases c13 : t269 = 0
          ·rw [if_pos c13] at H
           have c13b0 : (t269 == 0) = true := beq_iff_eq.mpr c13
           have c13b1 : (t269 != 0) = false := bne_eq_false_iff_eq.mpr c13
           clear c13
           by_cases c14 : x25_1 < (x7_1.length : Int)
           ·rw [if_pos c14] at H
            have c14b0 : decide (x25_1 < (x7_1.length : Int)) = true := decide_eq_true c14
            clear c14
            obtain ⟨y270, hy270⟩ : ∃ y_ : List Int, y_ = (x7_1.set (x25_1 : Int).toNat t268) := ⟨_, rfl⟩
            replace H : (steiner_tree.l0 k1 a0 y270 l1 (l1.length : Int) (wrap64 (x25_1 + 1))) = some (r1, r2) := by first | (rw [hy270]; with_reducible exact H) | (have H2_ := (Option.bind_some _ _).symm.trans H; rw [hy270]; with_reducible exact H2_) | (have H2_ := (Option.bind_some _ _).symm.trans H; with_reducible exact H2_) | with_reducible exact H | (rw [hy270]; exact H) | exact H
            have Ny270 := ak_ hy270
            clear hy270
            have H' := ak_ H
            clear H
            have p267 : 0 ≤ (x25_1 : Int) := of_decide_eq_true (by first | (with_reducible assumption) | assumption)
            have q267 : x25_1 < (l1.length : Int) := of_decide_eq_true (by first | (with_reducible assumption) | assumption)
            obtain ⟨ad267, e267, hx267_0⟩ := Kd.at_int HR1.out x25_1 p267 q267
            cases e267
            replace hx267_0 := (HB.out.cell (World.block_lt_of_cell? w _ hx267_0)).trans hx267_0
            replace p267 := eq_true p267
            replace q267 := eq_true q267
            go_wp2_with (first | ((with_reducible refine gate_callee (f := 108) rfl ?_); refine goesL_ (some 33) rfl rfl Try.func108 (by kernel_rfl) rfl #[.int .i64 a0, .int .u64 (rd l1 x25_1)] rfl (by (try simp only [map_toArray, map_cons, map_nil]); first | done | rfl | (simp only [length_drop, length_take]; rfl)) ?_; (with_reducible refine (node_Leaf.calls a0 (rd l1 x25_1) t268 t269 _ A12.out).mono ?_); rintro e w' ⟨rfl, ⟨nd, rfl⟩⟩; refine ⟨_, rfl, ?_⟩; (try (rw [drewN_self wr]; generalize hq_ : World.drewN wr _ = wr; have n0_ : Aside0 (Kd.R (Kd.int .u64) 28 wr w.heap.size (fun _ => True) v265 x7_1) := ⟨by rw [← hq_]; exact (by (with_reducible repeat (first | apply Kd.R_alloc | apply Kd.R_drewN | apply Kd.R_drew)); exact HO_7.out)⟩; have n1_ : Aside0 (Below w.heap.size w wr) := ⟨by rw [← hq_]; exact (by repeat (first | (with_reducible first | exact HB.out | apply ba_ | apply bn_ | apply bd_) | exact HB.out))⟩; clear HO_7 HB hq_; have HO_7 := n0_; have HB := n1_; clear n0_ n1_)); have p15 : 0 ≤ (x25_1 : Int) := of_decide_eq_true (by first | (with_reducible assumption) | assumption); have q15 : (x25_1 : Int) < ((x7_1.length : Int) : Int) := of_decide_eq_true (by first | (with_reducible assumption) | assumption); obtain ⟨go15, co15, eo15, gb15, gl15, cl15, HG15⟩ := Kd.R_form HO_7.out (by omega); (first | cases eo15 | (injection eo15 with ea_ en_ ec_; (first | subst ea_ | (injection ea_ with ea_; subst ea_)); subst ec_; clear en_)); have GB15 := ak_ gb15; have GG15 := ak_ HG15; clear gb15 gl15 HG15; obtain ⟨hx15_0, hf15_0⟩ := Kd.R_celln 0 HO_7.out (x25_1 : Int) p15 q15; replace p15 := eq_true p15; replace q15 := eq_true q15; obtain ⟨hy16_, hz16_⟩ := Kd.R_celln 0 HO_7.out (x25_1 : Int) (of_decide_eq_true (by first | (with_reducible assumption) | assumption)) (of_decide_eq_true (by first | (with_reducible assumption) | assumption)); have HP16 := Kd.R_putg HO_7.out (x25_1 : Int) t268) | ((with_reducible refine gate_store (t := 28) (p := 42) rfl ?_); refine store_event (t := 28) (p := 42) (v := ?vo_w17) (w1 := (wr.setCell ⟨go15, (x25_1 : Int).toNat, none⟩ (.int .u64 t268))) ?hg ?ho ?hn ?hr ?_; (case ho => rfl); (case hg => rfl); (case hn => rfl); (case hr => first | (go_simp; done) | (go_simp; rfl)); intro w17 hw; have hg : wr.grownBy w17 (some go15) := (by rw [hw]; exact HP16.2); have hp_ : Kd.R (Kd.int .u64) 28 w17 w.heap.size (fun _ => True) (.slice (some ⟨go15, 0, none⟩) x7_1.length co15) y270 := (by rw [hw, Ny270.out]; exact HP16.1); clear HP16; have n0_ := ak_ (hp_); have n1_ := ak_ ((by rw [hw]; exact below_set (HB.out) GB15.out : Below w.heap.size w w17)); clear HO_7; clear HB; have HO_7 := n0_; have HB := n1_; clear n0_ n1_; clear hg hw hp_))
            go_roundg k1
            case measure => have := HK1.out; omega
            case rel => exact ⟨(y270), (wrap64 (x25_1 + 1)), (by first | rfl | (simp; done) | (simp [*]; done)), H', ⟨by have := HK1.out; omega⟩, ⟨by (with_reducible repeat (first | apply Kd.R_alloc | apply Kd.R_drewN | apply Kd.R_drew)); exact HO_7.out⟩, ⟨by repeat (first | (with_reducible first | exact HB.out | apply ba_ | apply bn_ | apply bd_) | exact HB.out)⟩⟩
           ·rw [if_neg c14] at H
            exact absurd H (by simp)
          ·rw [if_neg c13] at H
           have c13b0 : (t269 == 0) = false := beq_eq_false_iff_ne.mpr c13
           have c13b1 : (t269 != 0) = true := bne_iff_ne.mpr c13
           simp only [Option.some.injEq, Prod.mk.injEq] at H
           obtain ⟨rfl, rfl⟩ := H
           have p267 : 0 ≤ (x25_1 : Int) := of_decide_eq_true (by first | (with_reducible assumption) | assumption)
           have q267 : x25_1 < (l1.length : Int) := of_decide_eq_true (by first | (with_reducible assumption) | assumption)
           obtain ⟨ad267, e267, hx267_0⟩ := Kd.at_int HR1.out x25_1 p267 q267
           cases e267
           replace hx267_0 := (HB.out.cell (World.block_lt_of_cell? w _ hx267_0)).trans hx267_0
           replace p267 := eq_true p267
           replace q267 := eq_true q267
           go_wp2_with (first | ((with_reducible refine gate_callee (f := 108) rfl ?_); refine goesL_ (some 33) rfl rfl Try.func108 (by kernel_rfl) rfl #[.int .i64 a0, .int .u64 (rd l1 x25_1)] rfl (by (try simp only [map_toArray, map_cons, map_nil]); first | done | rfl | (simp only [length_drop, length_take]; rfl)) ?_; (with_reducible refine (node_Leaf.calls a0 (rd l1 x25_1) t268 t269 _ A12.out).mono ?_); rintro e w' ⟨rfl, ⟨nd, rfl⟩⟩; refine ⟨_, rfl, ?_⟩))
           go_ret2
           exact ⟨_, by first | rfl | (simp <;> rfl) | (simp [*] <;> rfl), by first | exact Kd.R_nil _ _ _ _ _ | exact Kd.N_nil _ _ _ _ _ | exact Kd.V_nil _ _ _ _ _ | exact Kd.Q_nil _ _ _ _ _ | exact Kd.S_nil _ _ _ _ _, by repeat (first | (with_reducible first | exact HB.out | apply ba_ | apply bn_ | apply bd_) | exact HB.out)⟩
         ·rw [if_neg c11] at H
          exact absurd H (by simp)
        ·rw [if_neg c10] at H
         exact absurd H (by simp)
       ·rw [if_neg c9] at H
        have c9b0 : decide (x25_1 < (l1.length : Int)) = false := decide_eq_false c9
        clear c9
        have H' := ak_ H
        clear H
        go_wp2
        go_loopg [7, 12, 46] k1 (fun kq v7 v12 v46 w' => ∃ (x7_2 : List Int) (x12_2 : List Int) (x46_2 : Int), v46 = .int .i64 x46_2 ∧ Aside0 (steiner_tree.l1 kq x7_2 x12_2 (wrap64 (a0 + 1)) x46_2 = some (r1, r2)) ∧ Aside0 (kq ≤ k1) ∧ Aside0 (Kd.R (Kd.int .u64) 28 w' w.heap.size (fun k_ => some k_ ≠ (v12 : Value).ownBlock) v7 x7_2) ∧ Aside0 (Kd.R (Kd.int .u64) 28 w' w.heap.size (fun k_ => some k_ ≠ (v7 : Value).ownBlock) v12 x12_2) ∧ Aside0 (Below w.heap.size w w'))
        case atStart => exact ⟨(x7_1), (([] : List Int)), (0), (by first | rfl | (simp; done) | (simp [*]; done)), H', ⟨Nat.le_refl _⟩, ⟨by (with_reducible repeat (first | apply Kd.R_alloc | apply Kd.R_drewN | apply Kd.R_drew)); exact Kd.R_mono HO_7.out (fun _ hk => (by simp [Value.ownBlock]))⟩, ⟨by first | exact Kd.R_nil _ _ _ _ _ | exact Kd.N_nil _ _ _ _ _ | exact Kd.V_nil _ _ _ _ _ | exact Kd.Q_nil _ _ _ _ _ | exact Kd.S_nil _ _ _ _ _⟩, ⟨by repeat (first | (with_reducible first | exact HB.out | apply ba_ | apply bn_ | apply bd_) | exact HB.out)⟩⟩
        case round =>
         clear H'
         try clear c1
         try clear p1
         try clear q1
         try clear hx1
         try clear p2
         try clear q2
         try clear hx2
         try clear c4
         try clear c4b0
         try clear c4b1
         try clear c5
         try clear c5b0
         try clear c5b1
         try clear c6
         try clear c6b0
         try clear c6b1
         try clear p6
         try clear c9
         try clear c9b0
         try clear c10
         try clear c10b0
         try clear c11
         try clear c11b0
         try clear c13
         try clear c13b0
         try clear c13b1
         try clear c14
         try clear c14b0
         try clear p15
         try clear q15
         try clear hx15
         try clear hf15
         try clear hx15_0
         try clear hx267_0
         try clear p15
         try clear p2
         try clear p267
         try clear q15
         try clear q267
         obtain ⟨x7_2, x12_2, x46_2, rfl, HA, HK2, HO_7, HO_12, HB⟩ := hrel
         cases gk with
         | zero => exact absurd HA.out (by simp [steiner_tree.l1])
         | succ k2 =>
          have H := HA.out
          clear HA
          simp only [steiner_tree.l1] at H
          by_cases c18 : x46_2 < (wrap64 (a0 + 1))
          ·rw [if_pos c18] at H
           have c18b0 : decide (x46_2 < (wrap64 (a0 + 1))) = true := decide_eq_true c18
           clear c18
           by_cases c19 : ([] : List Int).length + x7_2.length < 17592186044416
           ·rw [if_pos c19] at H
            have LMc19 := ak_ c19
            clear c19
            obtain ⟨y271, hy271⟩ : ∃ y_ : List Int, y_ = (([] : List Int) ++ x7_2) := ⟨_, rfl⟩
            replace H : (if y271.length + x12_2.length < 17592186044416 then (steiner_tree.l2 k2 x7_2 (y271 ++ x12_2) (wrap64 (a0 + 1)) x46_2 (x7_2.length : Int) 0) else (none)) = some (r1, r2) := by first | (rw [hy271]; with_reducible exact H) | (have H2_ := (Option.bind_some _ _).symm.trans H; rw [hy271]; with_reducible exact H2_) | (have H2_ := (Option.bind_some _ _).symm.trans H; with_reducible exact H2_) | with_reducible exact H | (rw [hy271]; exact H) | exact H
            have Ny271 := ak_ hy271
            clear hy271
            by_cases c20 : y271.length + x12_2.length < 17592186044416
            ·rw [if_pos c20] at H
             have LMc20 := ak_ c20
             clear c20
             obtain ⟨y274, hy274⟩ : ∃ y_ : List Int, y_ = (y271 ++ x12_2) := ⟨_, rfl⟩
             replace H : (steiner_tree.l2 k2 x7_2 y274 (wrap64 (a0 + 1)) x46_2 (x7_2.length : Int) 0) = some (r1, r2) := by first | (rw [hy274]; with_reducible exact H) | (have H2_ := (Option.bind_some _ _).symm.trans H; rw [hy274]; with_reducible exact H2_) | (have H2_ := (Option.bind_some _ _).symm.trans H; with_reducible exact H2_) | with_reducible exact H | (rw [hy274]; exact H) | exact H
             have Ny274 := ak_ hy274
             clear hy274
             have H' := ak_ H
             clear H
             obtain ⟨Ao22, co22, eo22⟩ := Kd.R_slice HO_7.out
             subst eo22
             obtain ⟨Ao24, co24, eo24⟩ := Kd.R_slice HO_12.out
             subst eo24
             have HCC := ak_ (show slices_Concat_uint64_uint64.f 7 [x7_2, x12_2] = some y274 from by rw [concat_two _ _ (by have h1_ := LMc20.out; rw [Ny271.out] at h1_; simpa using h1_), Ny274.out, Ny271.out]; rfl)
             go_wp2_with (first | ((with_reducible refine gate_callee (f := 134) rfl ?_); refine goesL_ (some 51) rfl rfl Try.func134 (by kernel_rfl) rfl #[.slice (some ⟨_, 0, none⟩) 2 2] rfl (by (try simp only [map_toArray, map_cons, map_nil]); first | done | rfl) ?_; refine Calls.mono (slices_Concat_uint64_uint64.calls 7 _ 2 [x7_2, x12_2] y274 _ (Kd.C_two (Kd.int .u64) 28 22 (by repeat (first | exact (Kd.R_reads' HO_7.out).2.2 | (with_reducible refine Kd.C_alloc ?_ _) | (with_reducible refine Kd.C_drewN ?_ _) | (with_reducible refine Kd.C_drew ?_))) (Kd.R_reads' HO_7.out).2.1 (by repeat (first | exact (Kd.R_reads' HO_12.out).2.2 | (with_reducible refine Kd.C_alloc ?_ _) | (with_reducible refine Kd.C_drewN ?_ _) | (with_reducible refine Kd.C_drew ?_))) (Kd.R_reads' HO_12.out).2.1) (Nat.le_refl 2) HCC.out) ?_; rintro e w23 ⟨v275, rfl, ho, hb⟩; refine ⟨_, rfl, ?_⟩; have n0_ := ak_ (Kd.R_elder' (by (with_reducible repeat (first | apply Kd.R_alloc | apply Kd.R_drewN | apply Kd.R_drew)); exact HO_7.out) (Kd.R_base ho) hb); have n2_ := ak_ (below_step (by repeat (first | (with_reducible first | exact HB.out | apply ba_ | apply bn_ | apply bd_) | exact HB.out)) hb); have n3_ := ak_ (Kd.R_lower (Kd.R_mono (ok' := fun k_ => some k_ ≠ (.slice Ao22 x7_2.length co22 : Value).ownBlock ∧ True) (Kd.R_new' ho (Kd.R_lt (by (with_reducible repeat (first | apply Kd.R_alloc | apply Kd.R_drewN | apply Kd.R_drew)); exact HO_7.out))) (fun k_ hk => ⟨hk.2, trivial⟩)) (below_size (by repeat (first | (with_reducible first | exact HB.out | apply ba_ | apply bn_ | apply bd_) | exact HB.out)))); clear HO_7; clear HO_12; clear HB; have HO_7 := n0_; have HB := n2_; have HO276 := n3_; clear n0_ n2_ n3_; clear ho hb))
             go_loopg [54] k2 (fun kq v54 w' => ∃ (x7_3 : List Int) (x54_3 : Int), v54 = .int .i64 x54_3 ∧ Aside0 (steiner_tree.l2 kq x7_3 y274 (wrap64 (a0 + 1)) x46_2 (x7_2.length : Int) x54_3 = some (r1, r2)) ∧ Aside0 (kq ≤ k2) ∧ Aside0 (Kd.R (Kd.int .u64) 28 w' w.heap.size (fun k_ => some k_ ≠ (v275 : Value).ownBlock) (.slice Ao22 x7_2.length co22) x7_3) ∧ Aside0 (Kd.R (Kd.int .u64) 28 w' w.heap.size (fun k_ => some k_ ≠ ((.slice Ao22 x7_2.length co22) : Value).ownBlock) v275 y274) ∧ Aside0 (Below w.heap.size w w'))
             case atStart => exact ⟨(x7_2), (0), (by first | rfl | (simp; done) | (simp [*]; done)), H', ⟨Nat.le_refl _⟩, ⟨by (with_reducible repeat (first | apply Kd.R_alloc | apply Kd.R_drewN | apply Kd.R_drew)); exact Kd.R_mono HO_7.out (fun _ hk => hk.2)⟩, ⟨by (with_reducible repeat (first | apply Kd.R_alloc | apply Kd.R_drewN | apply Kd.R_drew)); exact Kd.R_mono HO276.out (fun _ hk => hk.1)⟩, ⟨by repeat (first | (with_reducible first | exact HB.out | apply ba_ | apply bn_ | apply bd_) | exact HB.out)⟩⟩
             case round =>
              clear H'
              try clear c1
              try clear p1
              try clear q1
              try clear hx1
              try clear c2
              try clear p2
              try clear q2
              try clear hx2
              try clear c4
              try clear c4b0
              try clear c4b1
              try clear c5
              try clear c5b0
              try clear c5b1
              try clear c6
              try clear c6b0
              try clear c6b1
              try clear p6
              try clear c9
              try clear c9b0
              try clear c10
              try clear c10b0
              try clear c11
              try clear c11b0
              try clear c13
              try clear c13b0
              try clear c13b1
              try clear c14
              try clear c14b0
              try clear p15
              try clear q15
              try clear hx15
              try clear hf15
              try clear c18
              try clear c18b0
              try clear c19
              try clear c20
              try clear hx15_0
              try clear hx267_0
              try clear p1
              try clear p15
              try clear p2
              try clear p267
              try clear p6
              try clear q1
              try clear q15
              try clear q2
              try clear q267
              obtain ⟨x7_3, x54_3, rfl, HA, HK3, HO_7, HO_12, HB⟩ := hrel
              have hl7_3 := (Kd.R_reads' HO_7.out).1
              rw [hl7_3] at HO_7
              (try simp only [hl7_3])
              (try simp only [hl7_3] at HO_12)
              cases gk with
              | zero => exact absurd HA.out (by simp [steiner_tree.l2])
              | succ k3 =>
               have H := HA.out
               clear HA
               simp only [steiner_tree.l2] at H
               by_cases c25 : x54_3 < (x7_2.length : Int)
               ·rw [if_pos c25] at H
                have c25b0 : decide (x54_3 < (x7_2.length : Int)) = true := decide_eq_true c25
                have c25b9 := c25b0
                rw [hl7_3] at c25b9
                clear c25
                by_cases c26 : 0 ≤ x54_3
                ·rw [if_pos c26] at H
                 have c26b0 : decide (0 ≤ x54_3) = true := decide_eq_true c26
                 clear c26
                 by_cases c27 : x54_3 < (x7_3.length : Int)
                 ·rw [if_pos c27] at H
                  have c27b0 : decide (x54_3 < (x7_3.length : Int)) = true := decide_eq_true c27
                  clear c27
                  obtain ⟨y278, hy278⟩ : ∃ y_ : List Int, y_ = (x7_3.set (x54_3 : Int).toNat ((rd x7_3 x54_3) / 2)) := ⟨_, rfl⟩
                  replace H : (steiner_tree.l2 k3 y278 y274 (wrap64 (a0 + 1)) x46_2 (x7_2.length : Int) (wrap64 (x54_3 + 1))) = some (r1, r2) := by first | (rw [hy278]; with_reducible exact H) | (have H2_ := (Option.bind_some _ _).symm.trans H; rw [hy278]; with_reducible exact H2_) | (have H2_ := (Option.bind_some _ _).symm.trans H; with_reducible exact H2_) | with_reducible exact H | (rw [hy278]; exact H) | exact H
                  have Ny278 := ak_ hy278
                  clear hy278
                  have H' := ak_ H
                  clear H
                  have p277 : 0 ≤ (x54_3 : Int) := of_decide_eq_true (by first | (with_reducible assumption) | assumption)
                  have q277 : x54_3 < (x7_3.length : Int) := of_decide_eq_true (by first | (with_reducible assumption) | assumption)
                  obtain ⟨ad277, e277, hx277_0⟩ := Kd.at_int (Kd.R_reads' HO_7.out).2.2 x54_3 p277 q277
                  cases e277
                  replace p277 := eq_true p277
                  replace q277 := eq_true q277
                  have p28 : 0 ≤ (x54_3 : Int) := of_decide_eq_true (by first | (with_reducible assumption) | assumption)
                  have q28 : (x54_3 : Int) < ((x7_3.length : Int) : Int) := of_decide_eq_true (by first | (with_reducible assumption) | assumption)
                  obtain ⟨go28, co28, eo28, gb28, gl28, cl28, HG28⟩ := Kd.R_form HO_7.out (by omega)
                  (first | cases eo28 | (injection eo28 with ea_ en_ ec_; (first | subst ea_ | (injection ea_ with ea_; subst ea_)); subst ec_; clear en_))
                  have GB28 := ak_ gb28
                  have GG28 := ak_ HG28
                  clear gb28 gl28 HG28
                  (first | simp only [add_plain] at hx277_0 | skip)
                  obtain ⟨hx28_0, hf28_0⟩ := Kd.R_celln 0 HO_7.out (x54_3 : Int) p28 q28
                  replace p28 := eq_true p28
                  replace q28 := eq_true q28
                  have HP29 := Kd.R_putg HO_7.out (x54_3 : Int) ((rd x7_3 x54_3) / 2)
                  go_wp2_with (first | ((with_reducible refine gate_store (t := 28) (p := 62) rfl ?_); refine store_event (t := 28) (p := 62) (v := ?vo_w30) (w1 := (wr.setCell ⟨go28, (x54_3 : Int).toNat, none⟩ (.int .u64 ((rd x7_3 x54_3) / 2)))) ?hg ?ho ?hn ?hr ?_; (case ho => rfl); (case hg => rfl); (case hn => rfl); (case hr => first | (go_simp; done) | (go_simp; rfl)); intro w30 hw; have hg : wr.grownBy w30 (some go28) := (by rw [hw]; exact HP29.2); have hp_ : Kd.R (Kd.int .u64) 28 w30 w.heap.size (fun k_ => some k_ ≠ (v275 : Value).ownBlock) (.slice (some ⟨go28, 0, none⟩) x7_3.length co22) y278 := (by rw [hw, Ny278.out]; exact HP29.1); clear HP29; have n0_ := ak_ (hp_); have n1_ := ak_ (Kd.R_after (v := (.slice (some ⟨go28, 0, none⟩) x7_3.length co22)) (v1 := (.slice (some ⟨go28, 0, none⟩) x7_3.length co22)) (ok := (fun _ => True)) (by (with_reducible repeat (first | apply Kd.R_alloc | apply Kd.R_drewN | apply Kd.R_drew)); exact Kd.R_mono HO_12.out (fun _ hk => ⟨trivial, hk⟩)) hg (.inl rfl)); have n2_ := ak_ ((by rw [hw]; exact below_set (HB.out) GB28.out : Below w.heap.size w w30)); clear HO_7; clear HO_12; clear HB; have HO_7 := n0_; have HO_12 := n1_; have HB := n2_; clear n0_ n1_ n2_; clear hg hw hp_))
                  (try simp only [← hl7_3])
                  go_roundg k3
                  case measure => have := HK1.out; have := HK2.out; have := HK3.out; omega
                  case rel => exact ⟨(y278), (wrap64 (x54_3 + 1)), (by first | rfl | (simp; done) | (simp [*]; done)), H', ⟨by have := HK1.out; have := HK2.out; have := HK3.out; omega⟩, ⟨by (try simp only [hl7_3]); (with_reducible repeat (first | apply Kd.R_alloc | apply Kd.R_drewN | apply Kd.R_drew)); exact HO_7.out⟩, ⟨by (try simp only [hl7_3]); (with_reducible repeat (first | apply Kd.R_alloc | apply Kd.R_drewN | apply Kd.R_drew)); exact Kd.R_mono HO_12.out (fun _ hk => hk.2)⟩, ⟨by repeat (first | (with_reducible first | exact HB.out | apply ba_ | apply bn_ | apply bd_) | exact HB.out)⟩⟩
                 ·rw [if_neg c27] at H
                  exact absurd H (by simp)
                ·rw [if_neg c26] at H
                 exact absurd H (by simp)
               ·rw [if_neg c25] at H
                have c25b0 : decide (x54_3 < (x7_2.length : Int)) = false := decide_eq_false c25
                have c25b9 := c25b0
                rw [hl7_3] at c25b9
                clear c25
                replace H := Option.bind_eq_some_iff.mp H
                obtain ⟨t279, A310, H⟩ := H
                replace H : (steiner_tree.l1 k3 t279 y274 (wrap64 (a0 + 1)) (wrap64 (x46_2 + 1))) = some (r1, r2) := H
                have A31 := ak_ A310
                clear A310
                have H' := ak_ H
                clear H
                go_wp2_with (first | ((with_reducible refine gate_callee (f := 135) rfl ?_); refine goesL_ (some 65) rfl rfl Try.func135 (by kernel_rfl) rfl #[.slice Ao22 x7_3.length co22] rfl (by (try simp only [map_toArray, map_cons, map_nil]); first | done | rfl | (simp only [length_drop, length_take]; rfl)) ?_; (with_reducible refine (slices_Compact_uint64_uint64.calls k3 (fun k_ => some k_ = (.slice Ao22 x7_3.length co22 : Value).ownBlock) (.slice Ao22 x7_3.length co22) x7_3 t279 w _ ?side1 ?side2 A31.out).mono ?_); (case side1 => repeat (first | (with_reducible first | exact HB.out | apply ba_ | apply bn_ | apply bd_) | exact HB.out)); (case side2 => exact Kd.R_tight rfl HO_7.out); rintro e w32 ⟨v280, rfl, ho0, hb, hkp⟩; refine ⟨_, rfl, ?_⟩; have n0_ := ak_ (Kd.R_mono (ok' := fun k_ => some k_ ≠ (v280 : Value).ownBlock) (Kd.R_keptB (HO_12.out) hkp (fun k_ hk_ hs_ => (hk_) hs_)) (fun k_ hk_ => fun e_ => Or.elim (ho0.1 k_ e_.symm) (fun hs_ => hk_.2.1 hs_) (fun hn_ => Nat.not_le.2 hk_.2.2 hn_))); have n1_ := ak_ (Kd.R_mono (ok' := fun k_ => some k_ ≠ (v275 : Value).ownBlock) ho0 (fun k_ hk_ => Or.elim hk_ (fun hs_ => fun e_ => (((HO_12.out).1 k_ e_.symm)) hs_) (fun hn_ => (Kd.fresh' (Kd.R_lt (by (with_reducible repeat (first | apply Kd.R_alloc | apply Kd.R_drewN | apply Kd.R_drew)); exact HO_12.out)) k_ hn_)))); have n2_ := ak_ (hb); clear HO_12; clear HB; clear HO_7; have HO_12 := n0_; have HO281 := n1_; have HB := n2_; clear n0_ n1_ n2_; (try clear hb); (try clear hkp); (try clear ho0)))
                (try simp only [← hl7_3])
                go_roundg k3
                case measure => have := HK1.out; have := HK2.out; have := HK3.out; omega
                case rel => exact ⟨(t279), (y274), (wrap64 (x46_2 + 1)), (by first | rfl | (simp; done) | (simp [*]; done)), H', ⟨by have := HK1.out; have := HK2.out; have := HK3.out; omega⟩, ⟨by (try simp only [hl7_3]); (with_reducible repeat (first | apply Kd.R_alloc | apply Kd.R_drewN | apply Kd.R_drew)); exact HO281.out⟩, ⟨by (try simp only [hl7_3]); (with_reducible repeat (first | apply Kd.R_alloc | apply Kd.R_drewN | apply Kd.R_drew)); exact HO_12.out⟩, ⟨by repeat (first | (with_reducible first | exact HB.out | apply ba_ | apply bn_ | apply bd_) | exact HB.out)⟩⟩
            ·rw [if_neg c20] at H
             exact absurd H (by simp)
           ·rw [if_neg c19] at H
            exact absurd H (by simp)
          ·rw [if_neg c18] at H
           have c18b0 : decide (x46_2 < (wrap64 (a0 + 1))) = false := decide_eq_false c18
           clear c18
           simp only [Option.some.injEq, Prod.mk.injEq] at H
           obtain ⟨rfl, rfl⟩ := H
           go_wp2
           go_ret2
           exact ⟨_, by first | rfl | (simp <;> rfl) | (simp [*] <;> rfl), by (with_reducible repeat (first | apply Kd.R_alloc | apply Kd.R_drewN | apply Kd.R_drew)); exact Kd.R_mono HO_12.out (fun _ hk => trivial), by repeat (first | (with_reducible first | exact HB.out | apply ba_ | apply bn_ | apply bd_) | exact HB.out)⟩
    ·rw [if_neg c6] at H
     exact absurd H (by simp)
   ·rw [if_neg c5] at H
    exact absurd H (by simp)
  ·rw [if_neg c4] at H
   have c4b0 : (t263 == 0) = false := beq_eq_false_iff_ne.mpr c4
   have c4b1 : (t263 != 0) = true := bne_iff_ne.mpr c4
   simp only [Option.some.injEq, Prod.mk.injEq] at H
   obtain ⟨rfl, rfl⟩ := H
   go_enter Try.func105, Try.ntmps105
   go_wp2_with (first | ((with_reducible refine gate_callee (f := 55) rfl ?_); refine goesL_ (some 16) rfl rfl Try.func55 (by kernel_rfl) rfl #[.int .i64 a0, .slice A1 l1.length c1] rfl (by (try simp only [map_toArray, map_cons, map_nil]); first | done | rfl | (simp only [length_drop, length_take]; rfl)) ?_; (with_reducible refine (leaf_Check.calls k a0 _ _ l1 t263 _ ?side1 ?side2 A3.out).mono ?_); (case side1 => repeat (first | exact HR1.out | (with_reducible refine Kd.C_alloc ?_ _) | (with_reducible refine Kd.C_drewN ?_ _) | (with_reducible refine Kd.C_drew ?_))); (case side2 => exact HC1.out); rintro e w' ⟨rfl, ⟨nd, rfl⟩⟩; refine ⟨_, rfl, ?_⟩))
   go_ret2
   exact ⟨_, by first | rfl | (simp <;> rfl) | (simp [*] <;> rfl), by first | exact Kd.R_nil _ _ _ _ _ | exact Kd.N_nil _ _ _ _ _ | exact Kd.V_nil _ _ _ _ _ | exact Kd.Q_nil _ _ _ _ _ | exact Kd.S_nil _ _ _ _ _, by repeat (first | (with_reducible first | exact HB.out | apply ba_ | apply bn_ | apply bd_) | exact HB.out)⟩

/-! ### steiner_children: function 58 -/
theorem box_grown {W w1 : World} {g : Nat} {o : Obj} {row : Option Nat} (h : W.heap[g]? = some o) (hg : W.grownBy w1 row) (hne : some g ≠ row) : w1.heap[g]? = some o := (hg.5 g (blk_lt h) (by first | exact hne | exact fun e => hne e.symm)).trans h
theorem box_drewN {W : World} {g : Nat} {o : Obj} (h : W.heap[g]? = some o) (n : Nat) : (W.drewN n).heap[g]? = some o := h
theorem box_drew {W : World} {g : Nat} {o : Obj} (h : W.heap[g]? = some o) : W.drew.heap[g]? = some o := h
theorem box_alloc {W : World} {g : Nat} {o : Obj} (h : W.heap[g]? = some o) (o' : Obj) : (W.alloc o').heap[g]? = some o := blk_below h (ba_ (Below.refl _ _) o')
theorem R_tell {e base b T : Nat} {ok : Nat → Prop} {W W1 : World} {u v v' : Value} {xs : List Int} {cs : Array Value} (h : Kd.R (Kd.int .u64) e W base ok u xs) (hx : W.heap[b]? = some (.cells cs T (0, 0))) (hT : e ≠ T) (hok : ∀ k_, ok k_ → some k_ ≠ v.ownBlock) (hkp : Kept W W1 (fun k_ => k_ = b ∨ some k_ = v.ownBlock))
   (hv' : ∀ k_, v'.ownBlock = some k_ → (some k_ = v.ownBlock ∨ W.heap.size ≤ k_)) : Kd.R (Kd.int .u64) e W1 base (fun k_ => some k_ ≠ v'.ownBlock) u xs := by
  refine Kd.R_mono (Kd.R_keptB (Kd.R_bound h) hkp ?_) ?_
  ·rintro k_ ⟨hk, _, _, q, hq, cells, hc⟩ (rfl | hs)
   ·rw [hx] at hc
    simp only [Option.some.injEq, Obj.cells.injEq] at hc
    simp [Kd.int, Kd.scalar] at hq
    exact hT (hq.symm.trans hc.2.1.symm)
   ·exact hok k_ hk hs
  ·rintro k_ ⟨⟨hk, _⟩, _, hlt⟩ e'
   rcases hv' k_ e'.symm with h1 | h1
   ·exact hok k_ hk h1
   ·omega
theorem R_told {e e' base base' : Nat} {ok : Nat → Prop} {W W1 : World} {u v v' : Value} {xs ys : List Int} (h : Kd.R (Kd.int .u64) e' W base' ok u ys) (hok : ∀ k_, ok k_ → some k_ ≠ v.ownBlock) (ho : Kd.R (Kd.int .u64) e W1 base (fun k_ => some k_ = v.ownBlock ∨ W.heap.size ≤ k_) v' xs) : Kd.R (Kd.int .u64) e W1 base (fun k_ => some k_ ≠ u.ownBlock) v' xs := by
  refine Kd.R_mono ho ?_
  rintro k_ hk e2
  have h1 := h.1 k_ e2.symm
  have h2 := Kd.R_lt h k_ e2.symm
  rcases hk with h3 | h3
  ·exact hok k_ h1 h3
  ·omega
theorem goesC_ {P : Program} {ops : Array Oper} {Q : Exit → Act → World → Prop} {rest : List Oper} {oi : Oper} {a : Act} {w : World} (N : Option Tmp) (hd : oi.dst = N) (hg : oi.guard = none) {f : FuncId} {caps : Array Value} {x : Operand} {fn : Func} {xs_ : Array Operand} {ts : Array TypeId} (hf : P.funcs[f]? = some fn) (hname : (fn.name == "runtime.NumGoroutine") = false) (hb : fn.body.isSome = true) (args : Array Value)
   (hop : oi.op = .call { callee := .value x, args := xs_, argTypes := ts }) (hx : a.eval x = .func (.func f) #[] caps) (hargs : xs_.map a.eval = args)
   (h : Calls P f (args ++ caps) w fun e w' => ∃ v, e = .returned v ∧ wpList P ops Q rest (a.put N v) w') : wpList P ops Q (oi :: rest) a w := by
  refine wpList_plain hg fun K hK => ?_
  have he := enters_ hf hname hb (args ++ caps) w
  have hrun : (execOp a.eval oi).run P w = .ok (.enter f (args ++ caps)) w := by
   unfold execOp
   simp [hop, resolve, Deferred.ofValue, invoke, hx, hargs, he]
  unfold Oper.wp
  rw [hrun, Oper.upon_enter]
  refine h.mono fun e w'' hh => ?_
  obtain ⟨v, rfl, hk⟩ := hh
  subst hd
  exact hK _ _ hk
theorem gate_closure {P : Program} {ops : Array Oper} {Q : Exit → Act → World → Prop} {rest : List Oper} {o : Oper} {a : Act} {W : World} {x : Operand} {xs_ : Array Operand} {ts : Array TypeId} (_ho : o.op = .call { callee := .value x, args := xs_, argTypes := ts }) (h : wpList P ops Q (o :: rest) a W) : wpList P ops Q (o :: rest) a W := h
mutual
def steiner_children.l0 (step : Nat → List Int → Int → List Int → Option (List Int)) : Nat → Int → List Int → Int → List Int → Option (List Int × Int)
  | 0, _, _, _, _ => none
  | k + 1, x0, x7, x28, x62 => if x28 < (x7.length : Int) then (if 0 ≤ x28 then (steiner_children.l1 step k x0 x7 (rd x7 x28) ([] : List Int) x28 0 x62) else none) else (some (x62, 0))
def steiner_children.l1 (step : Nat → List Int → Int → List Int → Option (List Int)) : Nat → Int → List Int → Int → List Int → Int → Int → List Int → Option (List Int × Int)
  | 0, _, _, _, _, _, _, _ => none
  | k + 1, x0, x7, x10, x11, x28, x32, x62 => if x32 < 2 then ((node_Child.f k x0 x10 x32).bind fun bt173 => (if bt173.2 = 0 then ((slices_BinarySearch_uint64_uint64.f k x7 bt173.1).bind fun bt175 => (if bt175.2 = true then (steiner_children.l1 step k x0 x7 x10 x11 x28 (wrap64 (x32 + 1)) x62) else (if x11.length < 17592186044416 then (steiner_children.l1 step k x0 x7 x10 (x11 ++ [bt173.1]) x28 (wrap64 (x32 + 1)) x62) else (none)))) else ((step k x62 x10 x11).bind fun y => steiner_children.l0 step k x0 x7 (wrap64 (x28 + 1)) y))) else ((step k x62 x10 x11).bind fun y => steiner_children.l0 step k x0 x7 (wrap64 (x28 + 1)) y)
end
def steiner_children.f (step : Nat → List Int → Int → List Int → Option (List Int)) (k : Nat) (a0 : Int) (l1 : List Int) : Option (List Int × Int) := (steiner_tree.f k a0 l1).bind fun bt165 => (if bt165.2 = 0 then (steiner_children.l0 step k a0 bt165.1 0 ([] : List Int)) else (some (([] : List Int), bt165.2)))
theorem steiner_children.mono_l (step : Nat → List Int → Int → List Int → Option (List Int)) (hs : ∀ a b c k, LeO (step k a b c) (step (k + 1) a b c)) : ∀ k, (∀ y0 y1 y2 y3, LeO (steiner_children.l0 step k y0 y1 y2 y3) (steiner_children.l0 step (k + 1) y0 y1 y2 y3)) ∧ (∀ y0 y1 y2 y3 y4 y5 y6, LeO (steiner_children.l1 step k y0 y1 y2 y3 y4 y5 y6) (steiner_children.l1 step (k + 1) y0 y1 y2 y3 y4 y5 y6))
  | 0 => ⟨fun _ _ _ _ r h => by simp [steiner_children.l0] at h, fun _ _ _ _ _ _ _ r h => by simp [steiner_children.l1] at h⟩
  | k + 1 => by
   obtain ⟨ih0, ih1⟩ := steiner_children.mono_l step hs k
   refine ⟨?_, ?_⟩
   ·intro y0 y1 y2 y3
    unfold steiner_children.l0
    repeat' first
    | (with_reducible exact ih0 _ _ _ _)
    | (with_reducible exact ih1 _ _ _ _ _ _ _)
    | (with_reducible exact LeO.refl _)
    | (with_reducible exact LeO.none _)
    | (with_reducible refine LeO.ite ?_ ?_)
    | (with_reducible refine LeO.bind ?_ (fun _ => ?_))
   ·intro y0 y1 y2 y3 y4 y5 y6
    unfold steiner_children.l1
    repeat' first
    | (with_reducible exact ih0 _ _ _ _)
    | (with_reducible exact ih1 _ _ _ _ _ _ _)
    | (with_reducible exact hs _ _ _ _)
    | (with_reducible exact node_Child.mono _ _ _ _)
    | (with_reducible exact slices_BinarySearch_uint64_uint64.mono _ _ _)
    | (with_reducible exact LeO.refl _)
    | (with_reducible exact LeO.none _)
    | (with_reducible refine LeO.ite ?_ ?_)
    | (with_reducible refine LeO.bind ?_ (fun _ => ?_))
theorem steiner_children.mono (step : Nat → List Int → Int → List Int → Option (List Int)) (hs : ∀ a b c k, LeO (step k a b c) (step (k + 1) a b c)) : ∀ a0 a1 k, LeO (steiner_children.f step k a0 a1) (steiner_children.f step (k + 1) a0 a1) := by
  intro a0 a1 k
  obtain ⟨ih0, ih1⟩ := steiner_children.mono_l step hs k
  unfold steiner_children.f
  repeat' first
    | (with_reducible exact ih0 _ _ _ _)
    | (with_reducible exact steiner_tree.mono _ _ _)
    | (with_reducible exact LeO.refl _)
    | (with_reducible exact LeO.none _)
    | (with_reducible refine LeO.ite ?_ ?_)
    | (with_reducible refine LeO.bind ?_ (fun _ => ?_))
set_option maxHeartbeats 8000000 in
set_option maxRecDepth 100000 in
theorem steiner_children.calls (step : Nat → List Int → Int → List Int → Option (List Int)) (k : Nat) (a0 : Int) (A1 : Option Addr) (c1 : Nat) (l1 : List Int) (r1 : List Int) (r2 : Int) (w : World) (hr1 : Kd.C (Kd.int .u64) w A1 l1.length l1) (hc1 : l1.length ≤ c1)
   (g : Nat) (fn : Func) (caps : Array Value) (b : Nat) (hf : Try.prog.funcs[g]? = some fn) (hname : (fn.name == "runtime.NumGoroutine") = false) (hbody : fn.body.isSome = true)
   (hx : w.heap[b]? = some (.cells #[.slice none 0 0] 22 (0, 0)))
   (hstep : ∀ (k : Nat) (W : World) (v : Value) (x : List Int) (n : Int) (A : Option Addr) (c : Nat) (y x' : List Int), Below b w W → W.heap[b]? = some (.cells #[v] 22 (0, 0)) → Kd.R (Kd.int .u64) 28 W b (fun _ => True) v x → Kd.C (Kd.int .u64) W A y.length y → y.length ≤ c → step k x n y = some x' →
    Calls Try.prog g (#[.int .u64 n, .slice A y.length c] ++ caps) W fun e W' => e = .returned (.tuple #[]) ∧ ∃ v' : Value, W'.heap[b]? = some (.cells #[v'] 22 (0, 0)) ∧ Kd.R (Kd.int .u64) 28 W' b (fun k_ => some k_ = v.ownBlock ∨ W.heap.size ≤ k_) v' x' ∧ Below b w W' ∧ Kept W W' (fun k_ => k_ = b ∨ some k_ = v.ownBlock))
   (h : steiner_children.f step k a0 l1 = some (r1, r2)) :
   Calls Try.prog 58 #[.int .i64 a0, .slice A1 l1.length c1, .func (.func g) #[] caps] w fun e w' => e = .returned (.int .i64 r2) ∧ ∃ v0_ : Value, w'.heap[b]? = some (.cells #[v0_] 22 (0, 0)) ∧ Kd.R (Kd.int .u64) 28 w' b (fun _ => True) v0_ r1 ∧ Below b w w' := by
  have HR1 := ak_ hr1
  have HC1 := ak_ hc1
  have HX := ak_ hx
  have HST := ak_ hstep
  have HF := ak_ hf
  have HN := ak_ hname
  have HBO := ak_ hbody
  clear hr1 hc1 hx hstep hf hname hbody
  have HB := ak_ (Below.refl b w)
  have H : ((steiner_tree.f k a0 l1).bind fun bt165 => (if bt165.2 = 0 then (steiner_children.l0 step k a0 bt165.1 0 ([] : List Int)) else (some (([] : List Int), bt165.2)))) = some (r1, r2) := h
  clear h
  replace H := Option.bind_eq_some_iff.mp H
  obtain ⟨⟨t, t166⟩, A30, H⟩ := H
  replace H : (if t166 = 0 then (steiner_children.l0 step k a0 t 0 ([] : List Int)) else (some (([] : List Int), t166))) = some (r1, r2) := H
  have A3 := ak_ A30
  clear A30
  by_cases c4 : t166 = 0
  ·rw [if_pos c4] at H
   have c4b0 : (t166 == 0) = true := beq_iff_eq.mpr c4
   have c4b1 : (t166 != 0) = false := bne_eq_false_iff_eq.mpr c4
   clear c4
   have H' := ak_ H
   clear H
   go_enter Try.func58, Try.ntmps58
   go_wp2_with (first | ((with_reducible refine gate_callee (f := 105) rfl ?_); refine goesL_ (some 20) rfl rfl Try.func105 (by kernel_rfl) rfl #[.int .i64 a0, .slice A1 l1.length c1] rfl (by (try simp only [map_toArray, map_cons, map_nil]); first | done | rfl) ?_; (with_reducible refine (steiner_tree.calls k a0 _ _ l1 t t166 _ HR1.out HC1.out A3.out).mono ?_); rintro e w5 ⟨v167, rfl, ho0, hb⟩; refine ⟨_, rfl, ?_⟩; have HX2 := ak_ (blk_below HX.out hb); have n0_ := ak_ (Kd.R_lower ho0 (Nat.le_of_lt (blk_lt HX.out))); have n1_ := ak_ (below_then HB.out (Nat.le_of_lt (blk_lt HX.out)) hb); clear HB HX; have HX := HX2; have HO168 := n0_; have HB := n1_; clear n0_ n1_ HX2; (try clear hb); (try clear ho0); obtain ⟨Ao6, co6, eo6⟩ := Kd.R_slice HO168.out; subst eo6))
   go_loopg [28] k (fun kq v28 w' => ∃ (x28_1 : Int) (x62_1 : List Int) (u62 : Value), v28 = .int .i64 x28_1 ∧ Aside0 (steiner_children.l0 step kq a0 t x28_1 x62_1 = some (r1, r2)) ∧ Aside0 (kq ≤ k) ∧ Aside0 (Kd.R (Kd.int .u64) 28 w' b (fun k_ => some k_ ≠ (u62 : Value).ownBlock) (.slice Ao6 t.length co6) t) ∧ Aside0 (Kd.R (Kd.int .u64) 28 w' b (fun k_ => some k_ ≠ ((.slice Ao6 t.length co6) : Value).ownBlock) u62 x62_1) ∧ Aside0 (w'.heap[b]? = some (.cells #[u62] 22 (0, 0))) ∧ Aside0 (Below b w w'))
   case atStart => exact ⟨(0), (([] : List Int)), .slice none 0 0, (by first | rfl | (simp; done) | (simp [*]; done)), H', ⟨Nat.le_refl _⟩, ⟨by (with_reducible repeat (first | apply Kd.R_alloc | apply Kd.R_drewN | apply Kd.R_drew)); exact Kd.R_mono HO168.out (fun _ hk => (by simp [Value.ownBlock]))⟩, ⟨Kd.R_nil _ _ _ _ _⟩, ⟨by first | exact HX.out | (with_reducible repeat (first | apply box_alloc | apply box_drewN | apply box_drew)); exact HX.out⟩, ⟨by repeat (first | (with_reducible first | exact HB.out | apply ba_ | apply bn_ | apply bd_) | exact HB.out)⟩⟩
   case round =>
    clear H' HX
    try clear c4b0
    try clear c4b1
    obtain ⟨x28_1, x62_1, u62, rfl, HA, HK1, HO_7, HO_62, HX, HB⟩ := hrel
    cases gk with
    | zero => exact absurd HA.out (by simp [steiner_children.l0])
    | succ k1 =>
     have H := HA.out
     clear HA
     simp only [steiner_children.l0] at H
     by_cases c7 : x28_1 < (t.length : Int)
     ·rw [if_pos c7] at H
      have c7b0 : decide (x28_1 < (t.length : Int)) = true := decide_eq_true c7
      clear c7
      by_cases c8 : 0 ≤ x28_1
      ·rw [if_pos c8] at H
       have c8b0 : decide (0 ≤ x28_1) = true := decide_eq_true c8
       clear c8
       have H' := ak_ H
       clear H
       have p169 : 0 ≤ (x28_1 : Int) := of_decide_eq_true (by first | (with_reducible assumption) | assumption)
       have q169 : x28_1 < (t.length : Int) := of_decide_eq_true (by first | (with_reducible assumption) | assumption)
       obtain ⟨ad, e169, hx169_0⟩ := Kd.at_int (Kd.R_reads' HO_7.out).2.2 x28_1 p169 q169
       cases e169
       replace p169 := eq_true p169
       replace q169 := eq_true q169
       go_wp2
       go_loopg [11, 32] k1 (fun kq v11 v32 w' => ∃ (x11_2 : List Int) (x32_2 : Int), v32 = .int .i64 x32_2 ∧ Aside0 (steiner_children.l1 step kq a0 t (rd t x28_1) x11_2 x28_1 x32_2 x62_1 = some (r1, r2)) ∧ Aside0 (kq ≤ k1) ∧ Aside0 (Kd.R (Kd.int .u64) 28 w' b (fun k_ => some k_ ≠ (v11 : Value).ownBlock ∧ some k_ ≠ (u62 : Value).ownBlock) (.slice (some ad) t.length co6) t) ∧ Aside0 (Kd.R (Kd.int .u64) 28 w' b (fun k_ => some k_ ≠ ((.slice (some ad) t.length co6) : Value).ownBlock ∧ some k_ ≠ (u62 : Value).ownBlock) v11 x11_2) ∧ Aside0 (Kd.R (Kd.int .u64) 28 w' b (fun k_ => some k_ ≠ ((.slice (some ad) t.length co6) : Value).ownBlock ∧ some k_ ≠ (v11 : Value).ownBlock) u62 x62_1) ∧ Aside0 (w'.heap[b]? = some (.cells #[u62] 22 (0, 0))) ∧ Aside0 (Below b w w'))
       case atStart => exact ⟨(([] : List Int)), (0), (by first | rfl | (simp; done) | (simp [*]; done)), H', ⟨Nat.le_refl _⟩, ⟨by (with_reducible repeat (first | apply Kd.R_alloc | apply Kd.R_drewN | apply Kd.R_drew)); exact Kd.R_mono HO_7.out (fun _ hk => ⟨(by simp [Value.ownBlock]), hk⟩)⟩, ⟨Kd.R_nil _ _ _ _ _⟩, ⟨by (with_reducible repeat (first | apply Kd.R_alloc | apply Kd.R_drewN | apply Kd.R_drew)); exact Kd.R_mono HO_62.out (fun _ hk => ⟨hk, (by simp [Value.ownBlock])⟩)⟩, ⟨by first | exact HX.out | (with_reducible repeat (first | apply box_alloc | apply box_drewN | apply box_drew)); exact HX.out⟩, ⟨by repeat (first | (with_reducible first | exact HB.out | apply ba_ | apply bn_ | apply bd_) | exact HB.out)⟩⟩
       case round =>
        clear H' HX
        try clear c7b0
        try clear c8b0
        try clear hx169_0
        try clear p169
        try clear q169
        obtain ⟨x11_2, x32_2, rfl, HA, HK2, HO_7, HO_11, HO_62, HX, HB⟩ := hrel
        cases gk with
        | zero => exact absurd HA.out (by simp [steiner_children.l1])
        | succ k2 =>
         have H := HA.out
         clear HA
         simp only [steiner_children.l1] at H
         by_cases c10 : x32_2 < 2
         ·rw [if_pos c10] at H
          have c10b0 : decide (x32_2 < 2) = true := decide_eq_true c10
          clear c10
          replace H := Option.bind_eq_some_iff.mp H
          obtain ⟨⟨t173, t174⟩, A110, H⟩ := H
          replace H : (if t174 = 0 then ((slices_BinarySearch_uint64_uint64.f k2 t t173).bind fun bt175 => (if bt175.2 = true then (steiner_children.l1 step k2 a0 t (rd t x28_1) x11_2 x28_1 (wrap64 (x32_2 + 1)) x62_1) else (if x11_2.length < 17592186044416 then (steiner_children.l1 step k2 a0 t (rd t x28_1) (x11_2 ++ [t173]) x28_1 (wrap64 (x32_2 + 1)) x62_1) else (none)))) else ((step k2 x62_1 (rd t x28_1) x11_2).bind fun y => steiner_children.l0 step k2 a0 t (wrap64 (x28_1 + 1)) y)) = some (r1, r2) := H
          have A11 := ak_ A110
          clear A110
          by_cases c12 : t174 = 0
          ·rw [if_pos c12] at H
           have c12b0 : (t174 == 0) = true := beq_iff_eq.mpr c12
           have c12b1 : (t174 != 0) = false := bne_eq_false_iff_eq.mpr c12
           clear c12
           replace H := Option.bind_eq_some_iff.mp H
           obtain ⟨⟨t175, t176⟩, A130, H⟩ := H
           replace H : (if t176 = true then (steiner_children.l1 step k2 a0 t (rd t x28_1) x11_2 x28_1 (wrap64 (x32_2 + 1)) x62_1) else (if x11_2.length < 17592186044416 then (steiner_children.l1 step k2 a0 t (rd t x28_1) (x11_2 ++ [t173]) x28_1 (wrap64 (x32_2 + 1)) x62_1) else (none))) = some (r1, r2) := H
           have A13 := ak_ A130
           clear A130
           by_cases c14 : t176 = true
           ·subst c14
            have H1 : (steiner_children.l1 step k2 a0 t (rd t x28_1) x11_2 x28_1 (wrap64 (x32_2 + 1)) x62_1) = some (r1, r2) := by rw [if_pos rfl] at H; exact H
            clear H
            have H' := ak_ H1
            clear H1
            go_wp2_with (first | ((with_reducible refine gate_callee (f := 90) rfl ?_); refine goesL_ (some 39) rfl rfl Try.func90 (by kernel_rfl) rfl #[.int .i64 a0, .int .u64 (rd t x28_1), .int .i64 x32_2] rfl (by (try simp only [map_toArray, map_cons, map_nil]); first | done | rfl) ?_; (with_reducible refine (node_Child.calls k2 a0 (rd t x28_1) x32_2 t173 t174 _ A11.out).mono ?_); rintro e w' ⟨rfl, ⟨nd, rfl⟩⟩; refine ⟨_, rfl, ?_⟩) | ((with_reducible refine gate_callee (f := 56) rfl ?_); refine goesL_ (some 47) rfl rfl Try.func56 (by kernel_rfl) rfl #[.slice (some ad) t.length co6, .int .u64 t173] rfl (by (try simp only [map_toArray, map_cons, map_nil]); first | done | rfl) ?_; (with_reducible refine (slices_BinarySearch_uint64_uint64.calls k2 _ _ t t173 t175 _ _ ?side1 ?side2 A13.out).mono ?_); (case side1 => repeat (first | exact (Kd.R_reads' HO_7.out).2.2 | (with_reducible refine Kd.C_alloc ?_ _) | (with_reducible refine Kd.C_drewN ?_ _) | (with_reducible refine Kd.C_drew ?_))); (case side2 => exact (Kd.R_reads' HO_7.out).2.1); rintro e w' ⟨rfl, ⟨nd, rfl⟩⟩; refine ⟨_, rfl, ?_⟩))
            go_roundg k2
            case measure => have := HK1.out; have := HK2.out; omega
            case rel => exact ⟨(x11_2), (wrap64 (x32_2 + 1)), (by first | rfl | (simp; done) | (simp [*]; done)), H', ⟨by have := HK1.out; have := HK2.out; omega⟩, ⟨(by (with_reducible repeat (first | apply Kd.R_alloc | apply Kd.R_drewN | apply Kd.R_drew)); exact HO_7.out)⟩, ⟨(by (with_reducible repeat (first | apply Kd.R_alloc | apply Kd.R_drewN | apply Kd.R_drew)); exact HO_11.out)⟩, ⟨(by (with_reducible repeat (first | apply Kd.R_alloc | apply Kd.R_drewN | apply Kd.R_drew)); exact HO_62.out)⟩, ⟨by first | exact HX.out | (with_reducible repeat (first | apply box_alloc | apply box_drewN | apply box_drew)); exact HX.out⟩, ⟨by repeat (first | (with_reducible first | exact HB.out | apply ba_ | apply bn_ | apply bd_) | exact HB.out)⟩⟩
           ·have c14b := Bool.eq_false_iff.2 c14
            rw [if_neg c14] at H
            subst c14b
            clear c14
            by_cases c15 : x11_2.length < 17592186044416
            ·rw [if_pos c15] at H
             have LMc15 := ak_ c15
             clear c15
             have H' := ak_ H
             clear H
             go_wp2_with (first | ((with_reducible refine gate_callee (f := 90) rfl ?_); refine goesL_ (some 39) rfl rfl Try.func90 (by kernel_rfl) rfl #[.int .i64 a0, .int .u64 (rd t x28_1), .int .i64 x32_2] rfl (by (try simp only [map_toArray, map_cons, map_nil]); first | done | rfl) ?_; (with_reducible refine (node_Child.calls k2 a0 (rd t x28_1) x32_2 t173 t174 _ A11.out).mono ?_); rintro e w' ⟨rfl, ⟨nd, rfl⟩⟩; refine ⟨_, rfl, ?_⟩) | ((with_reducible refine gate_callee (f := 56) rfl ?_); refine goesL_ (some 47) rfl rfl Try.func56 (by kernel_rfl) rfl #[.slice (some ad) t.length co6, .int .u64 t173] rfl (by (try simp only [map_toArray, map_cons, map_nil]); first | done | rfl) ?_; (with_reducible refine (slices_BinarySearch_uint64_uint64.calls k2 _ _ t t173 t175 _ _ ?side1 ?side2 A13.out).mono ?_); (case side1 => repeat (first | exact (Kd.R_reads' HO_7.out).2.2 | (with_reducible refine Kd.C_alloc ?_ _) | (with_reducible refine Kd.C_drewN ?_ _) | (with_reducible refine Kd.C_drew ?_))); (case side2 => exact (Kd.R_reads' HO_7.out).2.1); rintro e w' ⟨rfl, ⟨nd, rfl⟩⟩; refine ⟨_, rfl, ?_⟩) | ((with_reducible refine gate_builtin (b := .append) (xs := #[.tmp 52, .tmp 54]) rfl ?_); at_builtin; refine Kd.R_append (Kd.int .u64) (w0 := w) b rfl (.tmp 52) (.tmp 54) 22 28 (.int .u64 0) 8 rfl Try.underlying22 info28 rfl (by decide) (by omega) u11 x11_2 t173 [.int .u64 t173] (fun k_ => some k_ ≠ (.slice (some ad) t.length co6 : Value).ownBlock ∧ some k_ ≠ (u62 : Value).ownBlock) (fun _ => False) rfl rfl ?aP (fun _ hk => hk.elim) ?aF ?aO ?aB ?aS ?aL ?_; (case aP => exact rfl); (case aB => exact by repeat (first | (with_reducible first | exact HB.out | apply ba_ | apply bn_ | apply bd_) | exact HB.out)); (case aF => exact (fun k_ hk => ⟨Kd.fresh' (Kd.R_lt (by (with_reducible repeat (first | apply Kd.R_alloc | apply Kd.R_drewN | apply Kd.R_drew)); exact HO_7.out)) k_ hk, Kd.fresh' (Kd.R_lt (by (with_reducible repeat (first | apply Kd.R_alloc | apply Kd.R_drewN | apply Kd.R_drew)); exact HO_62.out)) k_ hk⟩)); (case aO => exact (by (with_reducible repeat (first | apply Kd.R_alloc | apply Kd.R_drewN | apply Kd.R_drew)); exact HO_11.out)); (case aS => exact (Nat.le_of_lt (blk_lt (by first | exact HX.out | (with_reducible repeat (first | apply box_alloc | apply box_drewN | apply box_drew)); exact HX.out)))); (case aL => have := LMc15.out; omega); intro v178 w16 ho hb hg hat; have n0_ := ak_ (Kd.R_after (ok := (fun k_ => some k_ ≠ (u62 : Value).ownBlock)) (by (with_reducible repeat (first | apply Kd.R_alloc | apply Kd.R_drewN | apply Kd.R_drew)); exact Kd.R_mono HO_7.out (fun _ hk => ⟨hk.2 , hk.1⟩)) hg hat); have n1_ := ak_ (Kd.R_after (ok := (fun k_ => some k_ ≠ (.slice (some ad) t.length co6 : Value).ownBlock)) (by (with_reducible repeat (first | apply Kd.R_alloc | apply Kd.R_drewN | apply Kd.R_drew)); exact HO_62.out) hg hat); have HX2 := ak_ (box_grown (by first | exact HX.out | (with_reducible repeat (first | apply box_alloc | apply box_drewN | apply box_drew)); exact HX.out) hg (Kd.R_ne HO_11.out HX.out (by decide))); clear HO_7; clear HO_62; clear HB; clear HX; have HO_7 := n0_; have HO_62 := n1_; have HX := HX2; have HB := ak_ hb; have HO179 := ak_ ho; clear n0_ n1_ HX2; clear ho hb hg hat))
             go_roundg k2
             case measure => have := HK1.out; have := HK2.out; omega
             case rel => exact ⟨(x11_2 ++ [t173]), (wrap64 (x32_2 + 1)), (by first | rfl | (simp; done) | (simp [*]; done)), H', ⟨by have := HK1.out; have := HK2.out; omega⟩, ⟨by (with_reducible repeat (first | apply Kd.R_alloc | apply Kd.R_drewN | apply Kd.R_drew)); exact Kd.R_mono HO_7.out (fun _ hk => ⟨hk.2, hk.1⟩)⟩, ⟨(by (with_reducible repeat (first | apply Kd.R_alloc | apply Kd.R_drewN | apply Kd.R_drew)); exact HO179.out)⟩, ⟨(by (with_reducible repeat (first | apply Kd.R_alloc | apply Kd.R_drewN | apply Kd.R_drew)); exact HO_62.out)⟩, ⟨by first | exact HX.out | (with_reducible repeat (first | apply box_alloc | apply box_drewN | apply box_drew)); exact HX.out⟩, ⟨by repeat (first | (with_reducible first | exact HB.out | apply ba_ | apply bn_ | apply bd_) | exact HB.out)⟩⟩
            ·rw [if_neg c15] at H
             exact absurd H (by simp)
          ·rw [if_neg c12] at H
           have c12b0 : (t174 == 0) = false := beq_eq_false_iff_ne.mpr c12
           have c12b1 : (t174 != 0) = true := bne_iff_ne.mpr c12
           clear c12
           obtain ⟨y, hy, H⟩ := Option.bind_eq_some_iff.mp H
           have HY := ak_ hy
           clear hy
           have H' := ak_ H
           clear H
           go_wp2_with (first | ((with_reducible refine gate_callee (f := 90) rfl ?_); refine goesL_ (some 39) rfl rfl Try.func90 (by kernel_rfl) rfl #[.int .i64 a0, .int .u64 (rd t x28_1), .int .i64 x32_2] rfl (by (try simp only [map_toArray, map_cons, map_nil]); first | done | rfl) ?_; (with_reducible refine (node_Child.calls k2 a0 (rd t x28_1) x32_2 t173 t174 _ A11.out).mono ?_); rintro e w' ⟨rfl, ⟨nd, rfl⟩⟩; refine ⟨_, rfl, ?_⟩; obtain ⟨Ao22, co22, eo22⟩ := Kd.R_slice HO_11.out; subst eo22) | ((with_reducible refine gate_closure (x := .tmp 57) (xs_ := #[.tmp 58, .tmp 59]) rfl ?_); refine goesC_ (some 60) rfl rfl HF.out HN.out HBO.out #[.int .u64 (rd t x28_1), .slice Ao22 x11_2.length co22] rfl rfl (by (try simp only [map_toArray, map_cons, map_nil]); first | done | rfl) ?_; refine (HST.out k2 _ u62 x62_1 (rd t x28_1) Ao22 co22 x11_2 y ?s1 ?s2 ?s3 ?side1 (Kd.R_reads' HO_11.out).2.1 HY.out).mono ?_; (case s1 => exact (by repeat (first | (with_reducible first | exact HB.out | apply ba_ | apply bn_ | apply bd_) | exact HB.out))); (case s2 => exact (by first | exact HX.out | (with_reducible repeat (first | apply box_alloc | apply box_drewN | apply box_drew)); exact HX.out)); (case s3 => exact (by (with_reducible repeat (first | apply Kd.R_alloc | apply Kd.R_drewN | apply Kd.R_drew)); exact Kd.R_mono HO_62.out (fun _ _ => trivial))); (case side1 => repeat (first | exact (Kd.R_reads' HO_11.out).2.2 | (with_reducible refine Kd.C_alloc ?_ _) | (with_reducible refine Kd.C_drewN ?_ _) | (with_reducible refine Kd.C_drew ?_))); rintro e w18 ⟨rfl, v181, hxn, ho0, hb, hkp⟩; refine ⟨_, rfl, ?_⟩; have n0_ := ak_ (R_tell HO_7.out HX.out (by decide) (fun k_ hk => hk.2) hkp ho0.1); have n1_ := ak_ (R_told HO_7.out (fun k_ hk => hk.2) ho0); clear HO_7 HO_62 HO_11 HB HX; have HO_7 := n0_; have HO182 := n1_; have HB := ak_ hb; have HX := ak_ hxn; clear n0_ n1_ hb hxn ho0 hkp))
           go_roundg k2
           case measure => have := HK1.out; have := HK2.out; omega
           case rel => exact ⟨(wrap64 (x28_1 + 1)), y, v181, (by first | rfl | (simp; done) | (simp [*]; done)), H', ⟨by have := HK1.out; have := HK2.out; omega⟩, ⟨(by (with_reducible repeat (first | apply Kd.R_alloc | apply Kd.R_drewN | apply Kd.R_drew)); exact HO_7.out)⟩, ⟨(by (with_reducible repeat (first | apply Kd.R_alloc | apply Kd.R_drewN | apply Kd.R_drew)); exact HO182.out)⟩, ⟨by first | exact HX.out | (with_reducible repeat (first | apply box_alloc | apply box_drewN | apply box_drew)); exact HX.out⟩, ⟨by repeat (first | (with_reducible first | exact HB.out | apply ba_ | apply bn_ | apply bd_) | exact HB.out)⟩⟩
         ·rw [if_neg c10] at H
          have c10b0 : decide (x32_2 < 2) = false := decide_eq_false c10
          clear c10
          obtain ⟨y, hy, H⟩ := Option.bind_eq_some_iff.mp H
          have HY := ak_ hy
          clear hy
          have H' := ak_ H
          clear H
          obtain ⟨Ao22, co22, eo22⟩ := Kd.R_slice HO_11.out
          subst eo22
          go_wp2_with (first | ((with_reducible refine gate_closure (x := .tmp 57) (xs_ := #[.tmp 58, .tmp 59]) rfl ?_); refine goesC_ (some 60) rfl rfl HF.out HN.out HBO.out #[.int .u64 (rd t x28_1), .slice Ao22 x11_2.length co22] rfl rfl (by (try simp only [map_toArray, map_cons, map_nil]); first | done | rfl) ?_; refine (HST.out k2 _ u62 x62_1 (rd t x28_1) Ao22 co22 x11_2 y ?s1 ?s2 ?s3 ?side1 (Kd.R_reads' HO_11.out).2.1 HY.out).mono ?_; (case s1 => exact (by repeat (first | (with_reducible first | exact HB.out | apply ba_ | apply bn_ | apply bd_) | exact HB.out))); (case s2 => exact (by first | exact HX.out | (with_reducible repeat (first | apply box_alloc | apply box_drewN | apply box_drew)); exact HX.out)); (case s3 => exact (by (with_reducible repeat (first | apply Kd.R_alloc | apply Kd.R_drewN | apply Kd.R_drew)); exact Kd.R_mono HO_62.out (fun _ _ => trivial))); (case side1 => repeat (first | exact (Kd.R_reads' HO_11.out).2.2 | (with_reducible refine Kd.C_alloc ?_ _) | (with_reducible refine Kd.C_drewN ?_ _) | (with_reducible refine Kd.C_drew ?_))); rintro e w18 ⟨rfl, v181, hxn, ho0, hb, hkp⟩; refine ⟨_, rfl, ?_⟩; have n0_ := ak_ (R_tell HO_7.out HX.out (by decide) (fun k_ hk => hk.2) hkp ho0.1); have n1_ := ak_ (R_told HO_7.out (fun k_ hk => hk.2) ho0); clear HO_7 HO_62 HO_11 HB HX; have HO_7 := n0_; have HO182 := n1_; have HB := ak_ hb; have HX := ak_ hxn; clear n0_ n1_ hb hxn ho0 hkp))
          go_roundg k2
          case measure => have := HK1.out; have := HK2.out; omega
          case rel => exact ⟨(wrap64 (x28_1 + 1)), y, v181, (by first | rfl | (simp; done) | (simp [*]; done)), H', ⟨by have := HK1.out; have := HK2.out; omega⟩, ⟨(by (with_reducible repeat (first | apply Kd.R_alloc | apply Kd.R_drewN | apply Kd.R_drew)); exact HO_7.out)⟩, ⟨(by (with_reducible repeat (first | apply Kd.R_alloc | apply Kd.R_drewN | apply Kd.R_drew)); exact HO182.out)⟩, ⟨by first | exact HX.out | (with_reducible repeat (first | apply box_alloc | apply box_drewN | apply box_drew)); exact HX.out⟩, ⟨by repeat (first | (with_reducible first | exact HB.out | apply ba_ | apply bn_ | apply bd_) | exact HB.out)⟩⟩
      ·rw [if_neg c8] at H
       exact absurd H (by simp)
     ·rw [if_neg c7] at H
      have c7b0 : decide (x28_1 < (t.length : Int)) = false := decide_eq_false c7
      clear c7
      simp only [Option.some.injEq, Prod.mk.injEq] at H
      obtain ⟨rfl, rfl⟩ := H
      go_wp2
      go_ret
      exact ⟨rfl, u62, by first | exact HX.out | (with_reducible repeat (first | apply box_alloc | apply box_drewN | apply box_drew)); exact HX.out, by (with_reducible repeat (first | apply Kd.R_alloc | apply Kd.R_drewN | apply Kd.R_drew)); exact Kd.R_mono HO_62.out (fun _ hk => trivial), by repeat (first | (with_reducible first | exact HB.out | apply ba_ | apply bn_ | apply bd_) | exact HB.out)⟩
  ·rw [if_neg c4] at H
   have c4b0 : (t166 == 0) = false := beq_eq_false_iff_ne.mpr c4
   have c4b1 : (t166 != 0) = true := bne_iff_ne.mpr c4
   clear c4
   simp only [Option.some.injEq, Prod.mk.injEq] at H
   obtain ⟨rfl, rfl⟩ := H
   go_enter Try.func58, Try.ntmps58
   go_wp2_with (first | ((with_reducible refine gate_callee (f := 105) rfl ?_); refine goesL_ (some 20) rfl rfl Try.func105 (by kernel_rfl) rfl #[.int .i64 a0, .slice A1 l1.length c1] rfl (by (try simp only [map_toArray, map_cons, map_nil]); first | done | rfl) ?_; (with_reducible refine (steiner_tree.calls k a0 _ _ l1 t t166 _ HR1.out HC1.out A3.out).mono ?_); rintro e w5 ⟨v167, rfl, ho0, hb⟩; refine ⟨_, rfl, ?_⟩; have HX2 := ak_ (blk_below HX.out hb); have n1_ := ak_ (below_then HB.out (Nat.le_of_lt (blk_lt HX.out)) hb); clear HB HX; have HX := HX2; have HB := n1_; clear n1_ HX2; (try clear hb); (try clear ho0)))
   go_ret
   exact ⟨rfl, .slice none 0 0, by first | exact HX.out | (with_reducible repeat (first | apply box_alloc | apply box_drewN | apply box_drew)); exact HX.out, Kd.R_nil _ _ _ _ _, by repeat (first | (with_reducible first | exact HB.out | apply ba_ | apply bn_ | apply bd_) | exact HB.out)⟩

/-! ### steiner_Hang: function 67 -/
def steiner_Hang1.f (_k : Nat) (x : List Int) (_n : Int) (y : List Int) : Option (List Int) := if x.length + y.length < 17592186044416 then some (x ++ y) else none
theorem results_cell_tmp {P : Program} {tmps : Array Value} {w : World} {fn : Func} {p u : Tmp} {ty : TypeId} {a : Addr} {v : Value} (h : fn.results = #[.cell p ty, .tmp u]) (hp : tmps.getD p undef = .pointer (some a)) (hv : (loadVar ty a).run P w = .ok v w) : (results fn tmps).run P w = .ok (.tuple #[v, tmps.getD u undef]) w := by
  unfold results
  rw [h]
  have hp2 : tmps[p]?.getD undef = .pointer (some a) := by simpa using hp
  simp [asAddr, hp2, hv]
theorem R_boxset {e base b T : Nat} {ok : Nat → Prop} {W : World} {v u : Value} {xs : List Int} {cs : Array Value} (h : Kd.R (Kd.int .u64) e W base ok v xs) (hx : W.heap[b]? = some (.cells cs T (0, 0))) (hT : e ≠ T) : Kd.R (Kd.int .u64) e (W.setCell ⟨b, 0, none⟩ u) base ok v xs := by
  refine Kd.R_mono (Kd.R_move (Kd.R_bound h) ?_) (fun k_ hk => hk.1)
  rintro k_ ⟨_, _, _, q, hq, cells, hc⟩
  refine Below.heap_setCell W _ u k_ ?_
  rintro rfl
  rw [hx] at hc
  simp only [Option.some.injEq, Obj.cells.injEq] at hc
  simp [Kd.int, Kd.scalar] at hq
  exact hT (hq.symm.trans hc.2.1.symm)
set_option maxHeartbeats 8000000 in
set_option maxRecDepth 100000 in
theorem steiner_Hang1.calls (b : Nat) (w W : World) (v : Value) (x : List Int) (n : Int) (A : Option Addr) (c : Nat) (y x' : List Int) (hB : Below b w W) (hx : W.heap[b]? = some (.cells #[v] 22 (0, 0))) (hv : Kd.R (Kd.int .u64) 28 W b (fun _ => True) v x) (hy : Kd.C (Kd.int .u64) W A y.length y) (hyc : y.length ≤ c) (h : steiner_Hang1.f 0 x n y = some x') :
   Calls Try.prog 110 #[.int .u64 n, .slice A y.length c, .pointer (some ⟨b, 0, none⟩)] W fun e W' => e = .returned (.tuple #[]) ∧ ∃ v' : Value, W'.heap[b]? = some (.cells #[v'] 22 (0, 0)) ∧ Kd.R (Kd.int .u64) 28 W' b (fun k_ => some k_ = v.ownBlock ∨ W.heap.size ≤ k_) v' x' ∧ Below b w W' ∧ Kept W W' (fun k_ => k_ = b ∨ some k_ = v.ownBlock) := by
  have hl : x.length + y.length < 17592186044416 := by
   by_cases c : x.length + y.length < 17592186044416
   ·exact c
   ·simp [steiner_Hang1.f, c] at h
  obtain rfl : x ++ y = x' := by simpa [steiner_Hang1.f, hl] using h
  clear h
  have HV := ak_ (Kd.R_mono (Kd.R_tight rfl hv) (ok' := fun k_ => some k_ = v.ownBlock ∨ W.heap.size ≤ k_) (fun _ hk => .inl hk))
  have HX := ak_ hx
  have HY := ak_ hy
  have HB := ak_ hB
  have HL := ak_ hl
  have hc0 := cell_of_one hx
  have HNE := ak_ (Kd.R_ne hv hx (by decide))
  have HBS := ak_ (Nat.le_of_lt (blk_lt hx))
  clear hv hx hy hB hl
  go_enter Try.func110, Try.ntmps110
  go_wp2_with (first | (at_builtin; refine Kd.R_append_rows (Kd.int .u64) (w0 := w) b rfl (.tmp 5) (.tmp 6) 22 28 (.int .u64 0) 8 rfl Try.underlying22 info28 rfl (by decide) (by omega) v x y _ _ _ (fun k_ => some k_ = v.ownBlock ∨ W.heap.size ≤ k_) (fun _ => False) rfl rfl HV.out HY.out (fun _ _ h => h) (fun _ h => h.elim) (fun _ hk => .inr hk) HB.out HBS.out (by have := HL.out; omega) ?_; intro v1 w1 ho hb hg hat; have hx1 := box_grown HX.out hg HNE.out; have hc1 := cell_of_one hx1; have hf1 := free_of_one hx1; have HO := ak_ ho; have HB1 := ak_ hb; have HG := ak_ hg; have HX1 := ak_ hx1; clear ho hb hg hat hx1 hc0; obtain ⟨A1, c1, e1⟩ := Kd.R_slice HO.out; subst e1))
  go_end0
  have HO2 := HO.out
  rw [List.length_append] at HO2
  exact ⟨rfl, _, one_setCell HX1.out, R_boxset HO2 HX1.out (by decide), HB1.out.setCell (Nat.le_refl b) _, Kept.setCell (Kept.of_grown HG.out (Kept.refl _ _) (fun k_ hk => .inl (.inr hk.symm))) (.inl (.inl rfl)) _⟩
theorem steiner_Hang1.mono : ∀ a b c k, LeO (steiner_Hang1.f k a b c) (steiner_Hang1.f (k + 1) a b c) := fun _ _ _ _ => LeO.refl _
def steiner_Hang.f (k : Nat) (a0 : Int) (l1 : List Int) : Option (List Int × Int) := (leaf_Check.f k a0 l1).bind fun t => if t = 0 then (if (l1.length : Int) = 0 then some ([1], 0) else steiner_children.f steiner_Hang1.f k a0 l1) else steiner_children.f steiner_Hang1.f k a0 l1
theorem steiner_Hang.mono : ∀ a0 a1 k, LeO (steiner_Hang.f k a0 a1) (steiner_Hang.f (k + 1) a0 a1) := by
  intro a0 a1 k
  unfold steiner_Hang.f
  repeat' first
    | (with_reducible exact leaf_Check.mono _ _ _)
    | (with_reducible exact steiner_children.mono _ steiner_Hang1.mono _ _ _)
    | (with_reducible exact LeO.refl _)
    | (with_reducible exact LeO.none _)
    | (with_reducible refine LeO.ite ?_ ?_)
    | (with_reducible refine LeO.bind ?_ (fun _ => ?_))
set_option maxHeartbeats 8000000 in
set_option maxRecDepth 100000 in
theorem steiner_Hang.calls (k : Nat) (a0 : Int) (A1 : Option Addr) (c1 : Nat) (l1 : List Int) (r1 : List Int) (r2 : Int) (w : World) (hr1 : Kd.C (Kd.int .u64) w A1 l1.length l1) (hc1 : l1.length ≤ c1) (h : steiner_Hang.f k a0 l1 = some (r1, r2)) :
   Calls Try.prog 67 #[.int .i64 a0, .slice A1 l1.length c1] w fun e w' => ∃ v0_ : Value, e = .returned (.tuple #[v0_, .int .i64 r2]) ∧ Kd.R (Kd.int .u64) 28 w' w.heap.size (fun _ => True) v0_ r1 ∧ Below w.heap.size w w' := by
  have HR1 := ak_ hr1
  have HC1 := ak_ hc1
  clear hr1 hc1
  have hmf : ∀ (fn : Fn) (first cap : Array Value) (w : World), (Instr.makeFunc fn first cap).run Try.prog w = .ok (.func fn first cap) w := fun _ _ _ _ => rfl
  have hx0 : (w.alloc (.cells #[.slice none 0 0] 22)).heap[w.heap.size]? = some (.cells #[.slice none 0 0] 22 (0, 0)) := blk_new _ _
  have HX := ak_ hx0
  have hc0 := cell_of_one hx0
  have hf0 := free_of_one hx0
  clear hx0
  obtain ⟨t, A30, H⟩ := Option.bind_eq_some_iff.mp h
  clear h
  replace H : (if t = 0 then (if (l1.length : Int) = 0 then some ([1], 0) else steiner_children.f steiner_Hang1.f k a0 l1) else steiner_children.f steiner_Hang1.f k a0 l1) = some (r1, r2) := H
  have A3 := ak_ A30
  clear A30
  have key : ∀ W : World, Kd.C (Kd.int .u64) W A1 l1.length l1 → W.heap[w.heap.size]? = some (.cells #[.slice none 0 0] 22 (0, 0)) → steiner_children.f steiner_Hang1.f k a0 l1 = some (r1, r2) → Calls Try.prog 58 #[.int .i64 a0, .slice A1 l1.length c1, .func (.func 110) #[] #[.pointer (some ⟨w.heap.size, 0, none⟩)]] W fun e w' => e = .returned (.int .i64 r2) ∧ ∃ v0_ : Value, w'.heap[w.heap.size]? = some (.cells #[v0_] 22 (0, 0)) ∧ Kd.R (Kd.int .u64) 28 w' w.heap.size (fun _ => True) v0_ r1 ∧ Below w.heap.size W w' := fun W hr hx hh =>
   steiner_children.calls steiner_Hang1.f k a0 A1 c1 l1 r1 r2 W hr HC1.out 110 _ _ w.heap.size Try.func110 (by kernel_rfl) rfl hx (fun k W2 v x n A c y x' h1 h2 h3 h4 h5 h6 => steiner_Hang1.calls w.heap.size W W2 v x n A c y x' h1 h2 h3 h4 h5 h6) hh
  have KEY := ak_ key
  clear key
  by_cases c4 : t = 0
  ·rw [if_pos c4] at H
   have c4b0 : (t == 0) = true := beq_iff_eq.mpr c4
   clear c4
   by_cases c5 : (l1.length : Int) = 0
   ·rw [if_pos c5] at H
    have c5b0 : ((l1.length : Int) == 0) = true := beq_iff_eq.mpr c5
    clear c5
    simp only [Option.some.injEq, Prod.mk.injEq] at H
    obtain ⟨rfl, rfl⟩ := H
    go_enter Try.func67, Try.ntmps67
    go_wp2_with (first | ((with_reducible refine gate_callee (f := 55) rfl ?_); refine goesL_ (some 9) rfl rfl Try.func55 (by kernel_rfl) rfl #[.int .i64 a0, .slice A1 l1.length c1] rfl (by (try simp only [map_toArray, map_cons, map_nil]); first | done | rfl) ?_; (with_reducible refine (leaf_Check.calls k a0 _ _ l1 t _ ?side1 ?side2 A3.out).mono ?_); (case side1 => repeat (first | exact HR1.out | (with_reducible refine Kd.C_alloc ?_ _) | (with_reducible refine Kd.C_drewN ?_ _) | (with_reducible refine Kd.C_drew ?_))); (case side2 => exact HC1.out); rintro e w' ⟨rfl, ⟨nd, rfl⟩⟩; refine ⟨_, rfl, ?_⟩))
    have hsz : (((w.alloc (.cells #[.slice none 0 0] 22)).drewN nd).setCell ⟨w.heap.size, 0, none⟩ (.slice (some ⟨w.heap.size + 1, 0, none⟩) 1 1)).heap.size = w.heap.size + 1 := by simp
    have hbA := one_setCell (u := .slice (some ⟨w.heap.size + 1, 0, none⟩) 1 1) (show ((w.alloc (.cells #[.slice none 0 0] 22)).drewN nd).heap[w.heap.size]? = some (.cells #[.slice none 0 0] 22 (0, 0)) from HX.out)
    have hcA := cell_of_one (box_alloc hbA (.cells #[.int .u64 1] 28))
    have hrA := World.ownsRow_lit (base := w.heap.size) (e := 28) (size := 1) (((w.alloc (.cells #[.slice none 0 0] 22)).drewN nd).setCell ⟨w.heap.size, 0, none⟩ (.slice (some ⟨w.heap.size + 1, 0, none⟩) 1 1)) #[.int .u64 1] 1 (by rw [hsz]; omega) (by simp only [maxLen]; omega) rfl
    rw [hsz] at hrA
    have HRA := ak_ hrA
    clear hrA hsz hbA
    refine bodyPost_ret (results_cell_tmp rfl rfl (v := .slice (some ⟨w.heap.size + 1, 0, none⟩) 1 1) (by go_simp)) rfl ?_
    exact ⟨_, rfl, Kd.R_of_own (enc := Value.int .u64) (h1 := fun _ => rfl) (xs := [1]) HRA.out (fun _ _ => trivial), ba_ ((bn_ (ba_ (Below.refl w.heap.size w) _) nd).setCell (Nat.le_refl _) _) _⟩
   ·rw [if_neg c5] at H
    have c5b0 : ((l1.length : Int) == 0) = false := beq_eq_false_iff_ne.mpr c5
    clear c5
    have H' := ak_ H
    clear H
    go_enter Try.func67, Try.ntmps67
    go_wp2_with (first | ((with_reducible refine gate_callee (f := 55) rfl ?_); refine goesL_ (some 9) rfl rfl Try.func55 (by kernel_rfl) rfl #[.int .i64 a0, .slice A1 l1.length c1] rfl (by (try simp only [map_toArray, map_cons, map_nil]); first | done | rfl) ?_; (with_reducible refine (leaf_Check.calls k a0 _ _ l1 t _ ?side1 ?side2 A3.out).mono ?_); (case side1 => repeat (first | exact HR1.out | (with_reducible refine Kd.C_alloc ?_ _) | (with_reducible refine Kd.C_drewN ?_ _) | (with_reducible refine Kd.C_drew ?_))); (case side2 => exact HC1.out); rintro e w' ⟨rfl, ⟨nd, rfl⟩⟩; refine ⟨_, rfl, ?_⟩) | ((with_reducible refine gate_callee (f := 58) rfl ?_); refine goesL_ (some 20) rfl rfl Try.func58 (by kernel_rfl) rfl #[.int .i64 a0, .slice A1 l1.length c1, .func (.func 110) #[] #[.pointer (some ⟨w.heap.size, 0, none⟩)]] rfl (by (try simp only [map_toArray, map_cons, map_nil]); first | done | rfl) ?_; refine (KEY.out _ ?s1 ?s2 H'.out).mono ?_; (case s1 => repeat (first | exact HR1.out | (with_reducible refine Kd.C_alloc ?_ _) | (with_reducible refine Kd.C_drewN ?_ _) | (with_reducible refine Kd.C_drew ?_))); (case s2 => exact HX.out); rintro e w5 ⟨rfl, v0, hx, ho, hb⟩; refine ⟨_, rfl, ?_⟩; have hc1 := cell_of_one hx; have hf1 := free_of_one hx; have HX2 := ak_ hx; have HO := ak_ ho; have HB := ak_ (Below.trans (bn_ (ba_ (Below.refl w.heap.size w) (.cells #[.slice none 0 0] 22)) nd) hb); clear hx ho hb; obtain ⟨Ao, co, eo⟩ := Kd.R_slice HO.out; subst eo))
    have hcB := cell_of_one (one_setCell (u := .slice Ao r1.length co) HX2.out)
    refine bodyPost_ret (results_cell_tmp rfl rfl (v := .slice Ao r1.length co) (by go_simp)) rfl ?_
    exact ⟨_, rfl, R_boxset HO.out HX2.out (by decide), HB.out.setCell (Nat.le_refl _) _⟩
  ·rw [if_neg c4] at H
   have c4b0 : (t == 0) = false := beq_eq_false_iff_ne.mpr c4
   clear c4
   have H' := ak_ H
   clear H
   go_enter Try.func67, Try.ntmps67
   go_wp2_with (first | ((with_reducible refine gate_callee (f := 55) rfl ?_); refine goesL_ (some 9) rfl rfl Try.func55 (by kernel_rfl) rfl #[.int .i64 a0, .slice A1 l1.length c1] rfl (by (try simp only [map_toArray, map_cons, map_nil]); first | done | rfl) ?_; (with_reducible refine (leaf_Check.calls k a0 _ _ l1 t _ ?side1 ?side2 A3.out).mono ?_); (case side1 => repeat (first | exact HR1.out | (with_reducible refine Kd.C_alloc ?_ _) | (with_reducible refine Kd.C_drewN ?_ _) | (with_reducible refine Kd.C_drew ?_))); (case side2 => exact HC1.out); rintro e w' ⟨rfl, ⟨nd, rfl⟩⟩; refine ⟨_, rfl, ?_⟩) | ((with_reducible refine gate_callee (f := 58) rfl ?_); refine goesL_ (some 20) rfl rfl Try.func58 (by kernel_rfl) rfl #[.int .i64 a0, .slice A1 l1.length c1, .func (.func 110) #[] #[.pointer (some ⟨w.heap.size, 0, none⟩)]] rfl (by (try simp only [map_toArray, map_cons, map_nil]); first | done | rfl) ?_; refine (KEY.out _ ?s1 ?s2 H'.out).mono ?_; (case s1 => repeat (first | exact HR1.out | (with_reducible refine Kd.C_alloc ?_ _) | (with_reducible refine Kd.C_drewN ?_ _) | (with_reducible refine Kd.C_drew ?_))); (case s2 => exact HX.out); rintro e w5 ⟨rfl, v0, hx, ho, hb⟩; refine ⟨_, rfl, ?_⟩; have hc1 := cell_of_one hx; have hf1 := free_of_one hx; have HX2 := ak_ hx; have HO := ak_ ho; have HB := ak_ (Below.trans (bn_ (ba_ (Below.refl w.heap.size w) (.cells #[.slice none 0 0] 22)) nd) hb); clear hx ho hb; obtain ⟨Ao, co, eo⟩ := Kd.R_slice HO.out; subst eo))
   have hcB := cell_of_one (one_setCell (u := .slice Ao r1.length co) HX2.out)
   refine bodyPost_ret (results_cell_tmp rfl rfl (v := .slice Ao r1.length co) (by go_simp)) rfl ?_
   exact ⟨_, rfl, R_boxset HO.out HX2.out (by decide), HB.out.setCell (Nat.le_refl _) _⟩

set_option maxHeartbeats 8000000 in
set_option maxRecDepth 100000 in
theorem whole_Cover1.calls (n : Int) (w : World) : Calls Try.prog 69 #[.int .u64 n] w fun e w' => e = .returned (.agg #[.int .u64 n, .int .u64 0]) ∧ Below w.heap.size w w' := by
  have hu := Try.underlying34
  have hb0 := blk_new w (.cells #[.int .u64 0, .int .u64 0] 34)
  have hz0 := blk_cell hb0 0
  have hz1 := blk_cell hb0 1
  have hy0 := blk_frozen hb0 0
  have hy1 := blk_frozen hb0 1
  simp at hz0 hz1 hy0 hy1
  go_enter Try.func69, Try.ntmps69
  go_wp2
  refine bodyPost_ret (v := .agg #[.int .u64 n, .int .u64 0]) (by simp [results, Try.f69, go_sem]) rfl ⟨rfl, ?_⟩
  exact ba_ (Below.refl _ _) _
/-! ### api_Subset_68: function 68 -/
def api_Subset_68.l0 : Nat → List (S34) → List Int → Int → Int → Option ((List (S34)))
  | 0, _, _, _, _ => none
  | k + 1, x5, x11, x12, x13 => if x13 < x12 then (if 0 ≤ x13 then (if x13 < (x11.length : Int) then (if x13 < (x5.length : Int) then (api_Subset_68.l0 k (x5.set (x13 : Int).toNat (⟨rd x11 x13, 0⟩ : S34)) x11 x12 (wrap64 (x13 + 1))) else (none)) else (none)) else (none)) else (some x5)
def api_Subset_68.f (k : Nat) (l0 : List Int) : Option ((List (S34))) := if 0 ≤ (l0.length : Int) then (if ((l0.length : Int) : Int).toNat ≤ 17592186044416 then (api_Subset_68.l0 k (List.replicate ((l0.length : Int) : Int).toNat z34) l0 (l0.length : Int) 0) else (none)) else (none)
theorem api_Subset_68.mono_l : ∀ k, (∀ y0 y1 y2 y3, LeO (api_Subset_68.l0 k y0 y1 y2 y3) (api_Subset_68.l0 (k + 1) y0 y1 y2 y3))
  | 0 => fun _ _ _ _ r h => by simp [api_Subset_68.l0] at h
  | k + 1 => by
   have ih0 := api_Subset_68.mono_l k
   ·intro y0 y1 y2 y3
    unfold api_Subset_68.l0
    repeat' first
    | (with_reducible exact ih0 _ _ _ _)
    | (with_reducible exact LeO.refl _)
    | (with_reducible exact LeO.none _)
    | (with_reducible refine LeO.ite ?_ ?_)
    | (with_reducible refine LeO.bind ?_ (fun _ => ?_))
    | exact ih0 _ _ _ _
    | exact LeO.none _
    | refine LeO.ite ?_ ?_
    | refine LeO.bind ?_ (fun _ => ?_)
theorem api_Subset_68.mono : ∀ a0 k, LeO (api_Subset_68.f k a0) (api_Subset_68.f (k + 1) a0) := by
  intro a0 k
  have ih0 := api_Subset_68.mono_l k
  unfold api_Subset_68.f
  repeat' first
    | (with_reducible exact ih0 _ _ _ _)
    | (with_reducible exact LeO.refl _)
    | (with_reducible exact LeO.none _)
    | (with_reducible refine LeO.ite ?_ ?_)
    | (with_reducible refine LeO.bind ?_ (fun _ => ?_))
    | exact ih0 _ _ _ _
    | exact LeO.none _
    | refine LeO.ite ?_ ?_
    | refine LeO.bind ?_ (fun _ => ?_)
set_option maxHeartbeats 8000000 in
set_option maxRecDepth 100000 in
theorem api_Subset_68.calls (k : Nat) (A0 : Option Addr) (c0 : Nat) (l0 : List Int) (r : List (S34)) (w : World) (hr0 : Kd.C (Kd.int .u64) w A0 l0.length l0) (hc0 : l0.length ≤ c0) (h : api_Subset_68.f k l0 = some r) :
   Calls Try.prog 68 #[.slice A0 l0.length c0, .func (.func 69) #[] #[]] w fun e w' => ∃ v0_ : Value, e = .returned (v0_) ∧ Kd.R k34 34 w' w.heap.size (fun _ => True) v0_ r ∧ Below w.heap.size w w' := by
  have hu34 := Try.underlying34
  have HR0 := ak_ hr0
  have HC0 := ak_ hc0
  clear hr0 hc0
  have HB := ak_ (Below.refl w.heap.size w)
  have H : (if 0 ≤ (l0.length : Int) then (if ((l0.length : Int) : Int).toNat ≤ 17592186044416 then (api_Subset_68.l0 k (List.replicate ((l0.length : Int) : Int).toNat z34) l0 (l0.length : Int) 0) else (none)) else (none)) = some r := h
  clear h
  by_cases c2 : 0 ≤ (l0.length : Int)
  ·rw [if_pos c2] at H
   have c2b0 := eq_true c2
   have c2b1 : decide (0 ≤ (l0.length : Int)) = true := decide_eq_true c2
   clear c2
   by_cases c3 : ((l0.length : Int) : Int).toNat ≤ 17592186044416
   ·rw [if_pos c3] at H
    have c3b0 := eq_true c3
    have c3b1 : decide (((l0.length : Int) : Int).toNat ≤ 17592186044416) = true := decide_eq_true c3
    clear c3
    obtain ⟨y282, hy282⟩ : ∃ y_ : List (S34), y_ = (List.replicate ((l0.length : Int) : Int).toNat z34) := ⟨_, rfl⟩
    replace H : (api_Subset_68.l0 k y282 l0 (l0.length : Int) 0) = some r := by first | (rw [hy282]; with_reducible exact H) | (have H2_ := (Option.bind_some _ _).symm.trans H; rw [hy282]; with_reducible exact H2_) | (have H2_ := (Option.bind_some _ _).symm.trans H; with_reducible exact H2_) | with_reducible exact H | (rw [hy282]; exact H) | exact H
    have Ny282 := ak_ hy282
    clear hy282
    have H' := ak_ H
    clear H
    go_enter Try.func68, Try.ntmps68
    go_wp2_with (first | ((with_reducible refine gate_dst (N := 10) rfl ?_); refine Kd.R_make k34 _ 34 rfl (N := 10) rfl 24 _ _ rfl (l0.length : Int) rfl rfl Try.underlying24 (.agg #[(.int .u64 0), (.int .u64 0)]) 16 info34 rfl (by decide) (by omega) z34 (ok := fun _ => True) (okp := fun _ => True) (k34_mkM _ _ _ z34 ) (fun _ hk => hk) trivial (of_decide_eq_true (by first | (with_reducible assumption) | assumption)) (Nat.le_trans (Nat.mul_le_mul_right _ (of_decide_eq_true (by first | (with_reducible assumption) | assumption) : (l0.length : Int).toNat ≤ 17592186044416)) (by omega)) (Below.refl _ _) (Nat.le_refl _) ?_; intro v283 w4 ho5 hb hg_ hnew_; clear hg_ hnew_; (first | rw [← Ny282.out] at ho5 | (simp only [Int.reduceToNat] at ho5; rw [← Ny282.out] at ho5)); have n0_ := ak_ (Kd.R_lower ho5 (below_size (by repeat (first | (with_reducible first | exact HB.out | apply ba_ | apply bn_ | apply bd_) | exact HB.out)))); have n1_ := ak_ (below_step (by repeat (first | (with_reducible first | exact HB.out | apply ba_ | apply bn_ | apply bd_) | exact HB.out)) hb); clear HB; have HO284 := n0_; have HB := n1_; clear n0_ n1_; clear hb ho5))
    go_loopg [13] k (fun kq v13 w' => ∃ (x5_1 : List (S34)) (x13_1 : Int), v13 = .int .i64 x13_1 ∧ Aside0 (api_Subset_68.l0 kq x5_1 l0 (l0.length : Int) x13_1 = some r) ∧ Aside0 (kq ≤ k) ∧ Aside0 (Kd.R k34 34 w' w.heap.size (fun _ => True) v283 x5_1) ∧ Aside0 (Below w.heap.size w w'))
    case atStart => exact ⟨(y282), (0), (by first | rfl | (simp; done) | (simp [*]; done)), H', ⟨Nat.le_refl _⟩, ⟨by (with_reducible repeat (first | apply Kd.R_alloc | apply Kd.R_drewN | apply Kd.R_drew)); exact HO284.out⟩, ⟨by repeat (first | (with_reducible first | exact HB.out | apply ba_ | apply bn_ | apply bd_) | exact HB.out)⟩⟩
    case round =>
     clear H'
     try clear c2
     try clear c2b0
     try clear c2b1
     try clear p2
     try clear c3
     try clear c3b0
     try clear c3b1
     obtain ⟨x5_1, x13_1, rfl, HA, HK1, HO_5, HB⟩ := hrel
     cases gk with
     | zero => exact absurd HA.out (by simp [api_Subset_68.l0])
     | succ k1 =>
      have H := HA.out
      clear HA
      simp only [api_Subset_68.l0] at H
      by_cases c6 : x13_1 < (l0.length : Int)
      ·rw [if_pos c6] at H
       have c6b0 : decide (x13_1 < (l0.length : Int)) = true := decide_eq_true c6
       clear c6
       by_cases c7 : 0 ≤ x13_1
       ·rw [if_pos c7] at H
        have c7b0 : decide (0 ≤ x13_1) = true := decide_eq_true c7
        clear c7
        by_cases c8 : x13_1 < (l0.length : Int)
        ·rw [if_pos c8] at H
         have c8b0 : decide (x13_1 < (l0.length : Int)) = true := decide_eq_true c8
         clear c8
         by_cases c9 : x13_1 < (x5_1.length : Int)
         ·rw [if_pos c9] at H
          have c9b0 : decide (x13_1 < (x5_1.length : Int)) = true := decide_eq_true c9
          clear c9
          obtain ⟨y286, hy286⟩ : ∃ y_ : List (S34), y_ = (x5_1.set (x13_1 : Int).toNat (⟨rd l0 x13_1, 0⟩ : S34)) := ⟨_, rfl⟩
          replace H : (api_Subset_68.l0 k1 y286 l0 (l0.length : Int) (wrap64 (x13_1 + 1))) = some r := by first | (rw [hy286]; with_reducible exact H) | (have H2_ := (Option.bind_some _ _).symm.trans H; rw [hy286]; with_reducible exact H2_) | (have H2_ := (Option.bind_some _ _).symm.trans H; with_reducible exact H2_) | with_reducible exact H | (rw [hy286]; exact H) | exact H
          have Ny286 := ak_ hy286
          clear hy286
          have H' := ak_ H
          clear H
          have p285 : 0 ≤ (x13_1 : Int) := of_decide_eq_true (by first | (with_reducible assumption) | assumption)
          have q285 : x13_1 < (l0.length : Int) := of_decide_eq_true (by first | (with_reducible assumption) | assumption)
          obtain ⟨ad285, e285, hx285_0⟩ := Kd.at_int HR0.out x13_1 p285 q285
          cases e285
          replace hx285_0 := (HB.out.cell (World.block_lt_of_cell? w _ hx285_0)).trans hx285_0
          replace p285 := eq_true p285
          replace q285 := eq_true q285
          have p10 : 0 ≤ (x13_1 : Int) := of_decide_eq_true (by first | (with_reducible assumption) | assumption)
          have q10 : (x13_1 : Int) < ((x5_1.length : Int) : Int) := of_decide_eq_true (by first | (with_reducible assumption) | assumption)
          obtain ⟨go10, co10, eo10, gb10, gl10, cl10, HG10⟩ := Kd.R_form HO_5.out (by omega)
          (first | cases eo10 | (injection eo10 with ea_ en_ ec_; (first | subst ea_ | (injection ea_ with ea_; subst ea_)); subst ec_; clear en_))
          have GB10 := ak_ gb10
          have GG10 := ak_ HG10
          clear gb10 gl10 HG10
          go_wp2_with (first | ((with_reducible refine gate_closure (x := .tmp 20) (xs_ := #[.tmp 21]) rfl ?_); refine goesC_ (some 22) rfl rfl Try.func69 (by kernel_rfl) rfl #[.int .u64 (rd l0 x13_1)] rfl rfl (by (try simp only [map_toArray, map_cons, map_nil]); first | done | rfl) ?_; refine Calls.mono (whole_Cover1.calls (rd l0 x13_1) _) ?_; rintro e w10 ⟨rfl, hb⟩; refine ⟨_, rfl, ?_⟩; have n0_ := ak_ (Kd.R_below HO_5.out hb); have n1_ := ak_ (below_step HB.out hb); clear HO_5 HB; have HO_5 := n0_; have HB := n1_; clear n0_ n1_ hb; obtain ⟨ce10, hcl10, hM10, hcc10, hfr10⟩ := Kd.R_elem HO_5.out z34 (x13_1 : Int) p10 q10; obtain rfl := k34_openM hM10; have hx10_0 : w10.cell? ⟨go10, (x13_1 : Int).toNat * 2, none⟩ = some (.int .u64 ((rd_T34 x5_1 x13_1).f0)) := hcc10 0 _ rfl; have hx10_1 : w10.cell? ⟨go10, (x13_1 : Int).toNat * 2 + 1, none⟩ = some (.int .u64 ((rd_T34 x5_1 x13_1).f1)) := hcc10 1 _ rfl; have hf10_0 : w10.frozen? ⟨go10, (x13_1 : Int).toNat * 2, none⟩ = false := hfr10 0; have hf10_1 : w10.frozen? ⟨go10, (x13_1 : Int).toNat * 2 + 1, none⟩ = false := hfr10 1; clear hcl10 hcc10 hfr10 hM10; replace p10 := eq_true p10; replace q10 := eq_true q10; have HX11 := ak_ (show Kd.R k34 34 w10 w.heap.size (fun _ => True) (.slice (some ⟨go10, 0, none⟩) x5_1.length co10) x5_1 from (by (with_reducible repeat (first | apply Kd.R_alloc | apply Kd.R_drewN | apply Kd.R_drew)); exact HO_5.out)); obtain ⟨ce11, hcl11, hM11, hcc11, hfr11⟩ := Kd.R_elem HX11.out z34 (x13_1 : Int) (of_decide_eq_true (by first | (with_reducible assumption) | assumption)) (by have h_ : (x13_1 : Int) < ((x5_1.length : Int) : Int) := of_decide_eq_true (by first | (with_reducible assumption) | assumption); first | exact h_ | (have e_ := (Kd.R_reads' HO_5.out).1; omega) | simpa using h_); obtain rfl := k34_openM hM11; have HP11 := Kd.R_seg HX11.out (x13_1 : Int) (of_decide_eq_true (by first | (with_reducible assumption) | assumption)) (by have h_ : (x13_1 : Int) < ((x5_1.length : Int) : Int) := of_decide_eq_true (by first | (with_reducible assumption) | assumption); first | exact h_ | (have e_ := (Kd.R_reads' HO_5.out).1; omega) | simpa using h_) (seg := [.int .u64 (rd l0 x13_1), .int .u64 0]) (j := 0) hcl11 hcc11 (show 2 ≤ 2 from by decide) (x' := (⟨rd l0 x13_1, 0⟩ : S34)) (k34_mkM _ _ _ (⟨rd l0 x13_1, 0⟩ : S34) ) (fun _ hk => hk); have hx11_0 := hcc11 0 _ rfl; (try simp only [show (k34).sz = 2 from rfl, Nat.mul_one, Nat.add_zero] at hx11_0); have hf11_0 := hfr11 0; (try simp only [show (k34).sz = 2 from rfl, Nat.mul_one, Nat.add_zero] at hf11_0); have hx11_1 := hcc11 1 _ rfl; (try simp only [show (k34).sz = 2 from rfl, Nat.mul_one, Nat.add_zero] at hx11_1); have hf11_1 := hfr11 1; (try simp only [show (k34).sz = 2 from rfl, Nat.mul_one, Nat.add_zero] at hf11_1); clear hcl11 hcc11 hfr11 hM11) | ((with_reducible refine gate_store (t := 34) (p := 23) rfl ?_); refine store_event (t := 34) (p := 23) (v := ?vo_w12) (w1 := ((w10.setCell ⟨go10, (x13_1 : Int).toNat * 2, none⟩ (.int .u64 (rd l0 x13_1))).setCell ⟨go10, (x13_1 : Int).toNat * 2 + 1, none⟩ (.int .u64 0))) ?hg ?ho ?hn ?hr ?_; (case ho => rfl); (case hg => rfl); (case hn => rfl); (case hr => first | (go_simp; done) | (go_simp; rfl)); intro w12 hw; have hg : w10.grownBy w12 (some go10) := (by rw [hw]; exact HP11.2); have hp_ : Kd.R k34 34 w12 w.heap.size (fun _ => True) (.slice (some ⟨go10, 0, none⟩) x5_1.length co10) y286 := (by rw [hw, Ny286.out]; exact HP11.1); clear HP11; have n0_ := ak_ (hp_); have n1_ := ak_ ((by rw [hw]; exact below_set (below_set (HB.out) GB10.out) GB10.out : Below w.heap.size w w12)); clear HO_5; clear HB; have HO_5 := n0_; have HB := n1_; clear n0_ n1_; clear hg hw hp_))
          go_roundg k1
          case measure => have := HK1.out; omega
          case rel => exact ⟨(y286), (wrap64 (x13_1 + 1)), (by first | rfl | (simp; done) | (simp [*]; done)), H', ⟨by have := HK1.out; omega⟩, ⟨by (with_reducible repeat (first | apply Kd.R_alloc | apply Kd.R_drewN | apply Kd.R_drew)); exact HO_5.out⟩, ⟨by repeat (first | (with_reducible first | exact HB.out | apply ba_ | apply bn_ | apply bd_) | exact HB.out)⟩⟩
         ·rw [if_neg c9] at H
          exact absurd H (by simp)
        ·rw [if_neg c8] at H
         exact absurd H (by simp)
       ·rw [if_neg c7] at H
        exact absurd H (by simp)
      ·rw [if_neg c6] at H
       have c6b0 : decide (x13_1 < (l0.length : Int)) = false := decide_eq_false c6
       clear c6
       obtain rfl := Option.some.inj H
       go_wp2
       go_ret
       exact ⟨_, by first | rfl | (simp <;> rfl) | (simp [*] <;> rfl), by (with_reducible repeat (first | apply Kd.R_alloc | apply Kd.R_drewN | apply Kd.R_drew)); exact HO_5.out, by repeat (first | (with_reducible first | exact HB.out | apply ba_ | apply bn_ | apply bd_) | exact HB.out)⟩
   ·rw [if_neg c3] at H
    exact absurd H (by simp)
  ·rw [if_neg c2] at H
   exact absurd H (by simp)

/-! ### whole_Cover: function 29 -/
def whole_Cover.f (k : Nat) (a0 : Int) (l1 : List Int) : Option ((List (S34)) × Int) := (steiner_Hang.f k a0 l1).bind fun bt287 => ((api_Subset_68.f k bt287.1).bind fun t291 => (some (t291, bt287.2)))
theorem whole_Cover.mono : ∀ a0 a1 k, LeO (whole_Cover.f k a0 a1) (whole_Cover.f (k + 1) a0 a1) := by
  intro a0 a1 k
  unfold whole_Cover.f
  repeat' first
    | (with_reducible exact api_Subset_68.mono _ _)
    | (with_reducible exact steiner_Hang.mono _ _ _)
    | (with_reducible exact LeO.refl _)
    | (with_reducible exact LeO.none _)
    | (with_reducible refine LeO.ite ?_ ?_)
    | (with_reducible refine LeO.bind ?_ (fun _ => ?_))
    | exact api_Subset_68.mono _ _
    | exact steiner_Hang.mono _ _ _
    | exact LeO.none _
    | refine LeO.ite ?_ ?_
    | refine LeO.bind ?_ (fun _ => ?_)
set_option maxHeartbeats 8000000 in
set_option maxRecDepth 100000 in
theorem whole_Cover.calls (k : Nat) (a0 : Int) (A1 : Option Addr) (c1 : Nat) (l1 : List Int) (r1 : List (S34)) (r2 : Int) (w : World) (hr1 : Kd.C (Kd.int .u64) w A1 l1.length l1) (hc1 : l1.length ≤ c1) (h : whole_Cover.f k a0 l1 = some (r1, r2)) :
   Calls Try.prog 29 #[.int .i64 a0, .slice A1 l1.length c1] w fun e w' => ∃ v0_ : Value, e = .returned (.tuple #[v0_, .int .i64 r2]) ∧ Kd.R k34 34 w' w.heap.size (fun _ => True) v0_ r1 ∧ Below w.heap.size w w' := by
  have HR1 := ak_ hr1
  have HC1 := ak_ hc1
  clear hr1 hc1
  have HB := ak_ (Below.refl w.heap.size w)
  have H : ((steiner_Hang.f k a0 l1).bind fun bt287 => ((api_Subset_68.f k bt287.1).bind fun t291 => (some (t291, bt287.2)))) = some (r1, r2) := h
  clear h
  replace H := Option.bind_eq_some_iff.mp H
  obtain ⟨⟨t287, t288⟩, A30, H⟩ := H
  replace H : ((api_Subset_68.f k t287).bind fun t291 => (some (t291, t288))) = some (r1, r2) := H
  have A3 := ak_ A30
  clear A30
  replace H := Option.bind_eq_some_iff.mp H
  obtain ⟨t291, A40, H⟩ := H
  replace H : (some (t291, t288)) = some (r1, r2) := H
  have A4 := ak_ A40
  clear A40
  simp only [Option.some.injEq, Prod.mk.injEq] at H
  obtain ⟨rfl, rfl⟩ := H
  go_enter Try.func29, Try.ntmps29
  go_wp2_with (first | ((with_reducible refine gate_callee (f := 67) rfl ?_); refine goesL_ (some 11) rfl rfl Try.func67 (by kernel_rfl) rfl #[.int .i64 a0, .slice A1 l1.length c1] rfl (by (try simp only [map_toArray, map_cons, map_nil]); first | done | rfl | (simp only [length_drop, length_take]; rfl)) ?_; (with_reducible refine (steiner_Hang.calls k a0 _ _ l1 t287 t288 _ ?side1 ?side2 A3.out).mono ?_); (case side1 => repeat (first | exact HR1.out | (with_reducible refine Kd.C_alloc ?_ _) | (with_reducible refine Kd.C_drewN ?_ _) | (with_reducible refine Kd.C_drew ?_))); (case side2 => exact HC1.out); rintro e w5 ⟨v289, rfl, ho0, hb⟩; refine ⟨_, rfl, ?_⟩; have n0_ := ak_ (Kd.R_lower ho0 (below_size (by repeat (first | (with_reducible first | exact HB.out | apply ba_ | apply bn_ | apply bd_) | exact HB.out)))); have n1_ := ak_ (below_step (by repeat (first | (with_reducible first | exact HB.out | apply ba_ | apply bn_ | apply bd_) | exact HB.out)) hb); clear HB; have HO290 := n0_; have HB := n1_; clear n0_ n1_; (try clear hb); (try clear hb2); (try clear hk); (try clear hi); (try clear ho0); obtain ⟨Ao6, co6, eo6⟩ := Kd.R_slice HO290.out; subst eo6) | ((with_reducible refine gate_callee (f := 68) rfl ?_); refine goesL_ (some 15) rfl rfl Try.func68 (by kernel_rfl) rfl #[.slice Ao6 t287.length co6, .func (.func 69) #[] #[]] rfl (by (try simp only [map_toArray, map_cons, map_nil]); first | done | rfl | (simp only [length_drop, length_take]; rfl)) ?_; (with_reducible refine (api_Subset_68.calls k _ _ t287 t291 _ ?side1 ?side2 A4.out).mono ?_); (case side1 => repeat (first | exact (Kd.R_reads' HO290.out).2.2 | (with_reducible refine Kd.C_alloc ?_ _) | (with_reducible refine Kd.C_drewN ?_ _) | (with_reducible refine Kd.C_drew ?_))); (case side2 => exact (Kd.R_reads' HO290.out).2.1); rintro e w7 ⟨v292, rfl, ho0, hb⟩; refine ⟨_, rfl, ?_⟩; have n0_ := ak_ (Kd.R_below (by (with_reducible repeat (first | apply Kd.R_alloc | apply Kd.R_drewN | apply Kd.R_drew)); exact HO290.out) hb); have n1_ := ak_ (Kd.R_lower ho0 (below_size (by repeat (first | (with_reducible first | exact HB.out | apply ba_ | apply bn_ | apply bd_) | exact HB.out)))); have n2_ := ak_ (below_step (by repeat (first | (with_reducible first | exact HB.out | apply ba_ | apply bn_ | apply bd_) | exact HB.out)) hb); clear HO290; clear HB; have HO290 := n0_; have HO293 := n1_; have HB := n2_; clear n0_ n1_ n2_; (try clear hb); (try clear hb2); (try clear hk); (try clear hi); (try clear ho0)))
  go_ret2
  exact ⟨_, by first | rfl | (simp <;> rfl) | (simp [*] <;> rfl), by (with_reducible repeat (first | apply Kd.R_alloc | apply Kd.R_drewN | apply Kd.R_drew)); exact HO293.out, by repeat (first | (with_reducible first | exact HB.out | apply ba_ | apply bn_ | apply bd_) | exact HB.out)⟩

/-! ### layer_Order: function 31 -/
set_option maxHeartbeats 8000000 in
set_option maxRecDepth 100000 in
theorem layer_ord.grew (x y : S34) (W : World) : Calls Try.prog 72 #[.agg #[.int .u64 x.f0, .int .u64 x.f1], .agg #[.int .u64 y.f0, .int .u64 y.f1]] W fun e w' => e = .returned (.int .i64 (ordf x y)) ∧ Grew W w' := by
  have hu34 := Try.underlying34
  obtain ⟨c0, h0⟩ : ∃ c, c = (if x.f0 < y.f0 then -1 else if x.f0 > y.f0 then 1 else (0 : Int)) := ⟨_, rfl⟩
  obtain ⟨c1, h1⟩ : ∃ c, c = (if x.f1 < y.f1 then -1 else if x.f1 > y.f1 then 1 else (0 : Int)) := ⟨_, rfl⟩
  have e : ordf x y = if c0 = 0 then c1 else c0 := by
   subst h0 h1
   unfold ordf
   by_cases a : x.f0 < y.f0
   ·simp [a]
   ·by_cases b : x.f0 > y.f0
    ·simp [a, b]
    ·simp [a, b]
  have A1 := ak_ (show cmp_Compare_uint64.f x.f0 y.f0 = some c0 by rw [cmp_eq, h0])
  have A2 := ak_ (show cmp_Compare_uint64.f x.f1 y.f1 = some c1 by rw [cmp_eq, h1])
  have A3 := ak_ (show cmp_Or_int.f 10 [c0, c1] = some (ordf x y) by rw [or_eq, e])
  clear h0 h1 e
  generalize ordf x y = r at A3 ⊢
  obtain ⟨W2, hW2⟩ : ∃ W2, W2 = (W.alloc (.cells #[.int .u64 x.f0, .int .u64 x.f1] 34)).alloc (.cells #[.int .u64 y.f0, .int .u64 y.f1] 34) := ⟨_, rfl⟩
  have HG := ak_ (show Grew W W2 by rw [hW2]; exact ((Grew.refl W).alloc _).alloc _)
  have b1 : W2.heap[W.heap.size]? = some (.cells #[.int .u64 x.f0, .int .u64 x.f1] 34 (0, 0)) := by
   rw [hW2]; exact blk_below (blk_new W _) (ba_ (Below.refl _ _) _)
  have b2 : W2.heap[W.heap.size + 1]? = some (.cells #[.int .u64 y.f0, .int .u64 y.f1] 34 (0, 0)) := by
   have h : (W.alloc (.cells #[.int .u64 x.f0, .int .u64 x.f1] 34)).heap.size = W.heap.size + 1 := Array.size_push ..
   rw [hW2, ← h]; exact blk_new _ _
  have y0 : W2.cell? ⟨W.heap.size, 0, none⟩ = some (.int .u64 x.f0) := by simp [World.cell?, b1]
  have y1 : W2.cell? ⟨W.heap.size, 1, none⟩ = some (.int .u64 x.f1) := by simp [World.cell?, b1]
  have y2 : W2.cell? ⟨W.heap.size + 1, 0, none⟩ = some (.int .u64 y.f0) := by simp [World.cell?, b2]
  have y3 : W2.cell? ⟨W.heap.size + 1, 1, none⟩ = some (.int .u64 y.f1) := by simp [World.cell?, b2]
  have OR : ∀ W', Kd.C (Kd.int .i64) W' (some ⟨W2.heap.size, 0, none⟩) 2 [c0, c1] → Calls Try.prog 62 #[.slice (some ⟨W2.heap.size, 0, none⟩) 2 2] W' fun e w' => e = .returned (.int .i64 r) ∧ Drawn0 W' w' := fun W' h => cmp_Or_int.calls 10 _ 2 [c0, c1] r W' h (by simp) A3.out
  go_enter Try.func72, Try.ntmps72
  go_wp2
  rw [← hW2]
  clear hW2 b1 b2
  go_region_held3 (fun w' => w'.cell? ⟨W.heap.size, 0, none⟩ = some (.int .u64 x.f0) ∧ w'.cell? ⟨W.heap.size, 1, none⟩ = some (.int .u64 x.f1) ∧ w'.cell? ⟨W.heap.size + 1, 0, none⟩ = some (.int .u64 y.f0) ∧ w'.cell? ⟨W.heap.size + 1, 1, none⟩ = some (.int .u64 y.f1)) (first | exact ⟨y0, y1, y2, y3⟩ | exact ⟨cu_al y0, cu_al y1, cu_al y2, cu_al y3⟩)
   (first | (go_at_call 63; with_reducible refine (cmp_Compare_uint64.calls x.f0 y.f0 c0 _ A1.out).mono ?_; rintro e w' ⟨rfl, ⟨nd, rfl⟩⟩) | (go_at_call 63; with_reducible refine (cmp_Compare_uint64.calls x.f1 y.f1 c1 _ A2.out).mono ?_; rintro e w' ⟨rfl, ⟨nd2, rfl⟩⟩) | (go_at_call 62; with_reducible refine (OR _ ?s1).mono ?_; (case s1 => have h_ := C_two (W2.drewN (1 + nd + nd2)) c0 c1; rw [show (W2.drewN (1 + nd + nd2)).heap.size = W2.heap.size from by simp [World.drewN]] at h_; exact h_); rintro e w' ⟨rfl, ⟨nd3, rfl⟩⟩))
  all_goals
   go_wp2
   go_ret
   exact ⟨rfl, by repeat (first | exact HG.out | apply Grew.alloc | apply Grew.drewN | apply Grew.drew)⟩
section
open Go.Shelf
attribute [local go_sem] Oper.semAt_some
theorem cells_sub {W : World} {b : Nat} {T : TypeId} {x y : Value} (h : W.heap[b]? = some (.cells #[x, y] T (0, 0))) : W.cell? ⟨b, 0, none⟩ = some x ∧ W.cell? ⟨b, 1, none⟩ = some y := by
  simp [World.cell?, h]
set_option maxRecDepth 100000 in
set_option maxHeartbeats 2000000 in
theorem sl_values1_in (n : Nat) (hn : 1 ≤ n) (l Bs : Nat) (w : World) (A : Option Addr) (c : Nat) (zs : List S34) (hR : Kd.C k34 w A zs.length zs) (hlen : zs.length ≤ 1000000) (J Jx : List S34 → World → Prop)
   (W : World) (hJa : AbidesFrom W.heap.size J)
   (hY : ∀ pre x W, J pre W → pre.length < zs.length → YieldAt Fence.wide (n - 1) Try.prog l #[.agg #[.int .u64 x.f0, .int .u64 x.f1]] W fun e W' =>
    (e = .returned (.bool true) ∧ J (pre ++ [x]) W' ∧ Below w.heap.size W W') ∨ (e = .returned (.bool false) ∧ Jx (pre ++ [x]) W'))
   (hB : Below w.heap.size w W) (hBs : W.cell? ⟨Bs, 0, none⟩ = some (.slice A zs.length c)) (h0 : J [] W) :
   CallsIn Fence.wide n Try.prog 112 #[.func (.yield l) #[] #[], .pointer (some ⟨Bs, 0, none⟩)] W fun e W' => (∃ v, e = .returned v) ∧ ((∃ ys, ys = zs ∧ J ys W') ∨ (∃ pre, True ∧ Jx pre W')) := by
  refine callsIn_of_wp Try.func112 rfl trivial ?_ rfl
  simp only [Try.ntmps112, List.size_toArray, List.length_cons, List.length_nil, Nat.reduceAdd, Nat.reduceSub, Array.replicate_succ, Array.replicate_zero, List.push_toArray, List.append_toArray, List.nil_append, List.cons_append]
  gi_wp2
  gi_loopw [4, 7] (fun v4 i wr => ∃ (k : Nat), k ≤ zs.length ∧ i = .int .i64 k ∧ J (zs.take k) wr ∧ Below w.heap.size w wr)
   (fun _ i _ => zs.length - (intOf i).toNat)
  case atStart => exact ⟨0, Nat.zero_le _, rfl, h0, hB⟩
  case round =>
   obtain ⟨k, hk, rfl, hJ, hBr⟩ := hrel
   have HR := ak_ (Kd.C_below hR hBr)
   have HBr := ak_ hBr
   by_cases hlt : k < zs.length
   ·obtain ⟨ad, e1, hx0, hx1⟩ := at_T34 HR.out (k : Int) (by omega) (by omega)
    cases e1
    rw [Int.toNat_natCast] at hx0 hx1
    have hg : rd_T34 zs (k : Int) = zs[k] := by
     first | (unfold rd_T34; simp [hlt]; done) | (simp [rd_T34, rdOf, hlt]; done)
    rw [hg] at hx0 hx1
    have tk : zs.take (k + 1) = zs.take k ++ [zs[k]] := List.take_succ_eq_append_getElem hlt
    have HT := ak_ tk
    clear tk hg
    generalize zs[k] = x at *
    have hkd : decide ((k : Int) < (zs.length : Int)) = true := decide_eq_true (by omega)
    have hJ2 : J (zs.take k) (wr.alloc (.cells #[.int .u64 x.f0, .int .u64 x.f1] 34)) := hJa _ wr _ none hJ (World.grownBy_alloc wr _ none) (fun r e => by cases e)
    obtain ⟨fn, tmps, assign, body, hy, hRn⟩ := hY (zs.take k) x _ hJ2 (by rw [List.length_take]; omega)
    (try dsimp only at hy)
    gi_wp2
    refine hRn.mono ?_
    rintro e W3 (⟨rfl, hJ3, hk3⟩ | ⟨rfl, hJx3⟩)
    ·gi_wp2
     go_roundw
     case rel => exact ⟨k + 1, by omega, by go_num, by rw [HT.out]; exact hJ3, (ba_ HBr.out _).trans hk3⟩
     case measure => simp [intOf]; omega
    ·gi_wp2
     refine bodyPost_ret (results_none rfl _ _ _) rfl ?_
     exact ⟨⟨_, rfl⟩, .inr ⟨_, trivial, hJx3⟩⟩
   ·obtain rfl : k = zs.length := by omega
    have hkd : decide ((zs.length : Int) < (zs.length : Int)) = false := decide_eq_false (by omega)
    rw [List.take_length] at hJ
    gi_wp2
    go_end0
    exact ⟨⟨_, rfl⟩, .inl ⟨_, rfl, hJ⟩⟩
theorem sl_Values.calls (A : Option Addr) (n c : Nat) (w : World) : Calls Try.prog 71 #[.slice A n c] w fun e w' => e = .returned (.func (.func 112) #[] #[.pointer (some ⟨w.heap.size, 0, none⟩)]) ∧ w' = w.alloc (.cells #[.slice A n c] 24) := by
  have hmf : ∀ (fn : Fn) (first cap : Array Value) (w : World), (Instr.makeFunc fn first cap).run Try.prog w = .ok (.func fn first cap) w := fun _ _ _ _ => rfl
  go_enter Try.func71, Try.ntmps71
  go_wp2
  go_ret
  exact ⟨by simp, rfl⟩
def cs_sub (x : S34) : List Value := [.int .u64 x.f0, .int .u64 x.f1]
theorem reps_sub {R : S34 → List Value → Prop} (hR : ∀ x, R x (cs_sub x)) : ∀ xs : List S34, Reps R 2 xs (xs.flatMap cs_sub)
  | [] => Reps.none _ _
  | x :: xs => Reps.c2 (hR x) (reps_sub hR xs)
theorem R_sub {e : Nat} {w : World} {base : Nat} {v : Value} {xs : List S34} (h : w.ownsRow base e 2 v xs.length (xs.flatMap cs_sub)) : Kd.R k34 e w base (fun _ => True) v xs :=
  ⟨fun _ _ => trivial, _, h, reps_sub (fun x => k34_mkM _ _ _ x) xs⟩
def AppI (w : World) (B : Nat) (pre : List S34) (W : World) : Prop := (∃ v, Boxed W B 24 v ∧ W.ownsRow w.heap.size 34 2 v pre.length (pre.flatMap cs_sub) ∧ True) ∧ Below w.heap.size w W
theorem appI_own (w : World) (B : Nat) (B0 : Nat) (h : w.heap.size ≤ B0) : OwnFrom B0 (AppI w B) :=
  OwnFrom.and (Own.from (fun s X Y row hs hg hr => holdsRow_own w.heap.size B 24 34 2 (fun pre : List S34 => pre.length) (fun pre => pre.flatMap cs_sub) (fun _ _ => True) s X Y row hs hg hr) _) (ownFrom_below (Nat.le_refl _) h)
theorem sub_two_new (W : World) (a b : Value) (ty : TypeId) : ∀ j u, [a, b][j]? = some u → (W.alloc (.cells #[a, b] ty)).cell? ((⟨W.heap.size, 0, none⟩ : Addr).add j) = some u := by
  intro j u hj
  rw [add_plain]
  match j with
  | 0 => simp at hj; subst hj; simp
  | 1 => simp at hj; subst hj; simp
  | j + 2 => simp at hj
set_option maxHeartbeats 8000000 in
set_option maxRecDepth 100000 in
theorem sl_AppendSeq.calls (A1 : Option Addr) (c1 : Nat) (l1 : List S34) (Bs : Nat) (w : World) (hr1 : Kd.C k34 w A1 l1.length l1) (hl : l1.length ≤ 1000000) (hBs : w.cell? ⟨Bs, 0, none⟩ = some (.slice A1 l1.length c1)) :
   Calls Try.prog 136 #[.slice none 0 0, .func (.func 112) #[] #[.pointer (some ⟨Bs, 0, none⟩)]] w fun e w' => ∃ v0_ : Value, e = .returned v0_ ∧ Kd.R k34 34 w' w.heap.size (fun _ => True) v0_ l1 ∧ Below w.heap.size w w' := by
  have HR1 := ak_ hr1
  have HL := ak_ hl
  have HBS := ak_ hBs
  clear hr1 hl hBs
  have hu34 := Try.underlying34
  refine (callsIn_wide (n := 5)).1 ?_
  refine callsIn_of_wp_marks Try.func136 rfl trivial ?_ rfl
  simp only [Try.ntmps136, List.size_toArray, List.length_cons, List.length_nil, Nat.reduceAdd, Nat.reduceSub, Array.replicate_succ, Array.replicate_zero, List.push_toArray, List.append_toArray, List.nil_append, List.cons_append]
  have bO := Boxed.new w 24 (.slice none 0 0)
  have hb2 : Below w.heap.size w (w.alloc (.cells #[.slice none 0 0] 24)) := ba_ (Below.refl _ _) _
  obtain ⟨W0, hW0⟩ : ∃ W0, w.alloc (.cells #[.slice none 0 0] 24) = W0 := ⟨_, rfl⟩
  have hz0 : W0.heap.size = w.heap.size + 1 := by rw [← hW0]; simp
  gi_wp2
  rw [hW0] at bO hb2
  have HB3 := ak_ hb2
  have HK0 := ak_ (show Below w.heap.size w W0 ∧ W0.cell? ⟨Bs, 0, none⟩ = some (.slice A1 l1.length c1) from ⟨HB3.out, (HB3.out.cell (p := ⟨Bs, 0, none⟩) (World.block_lt_of_cell? w _ HBS.out)).trans HBS.out⟩)
  clear hb2
  have hlt : Bs < w.heap.size := World.block_lt_of_cell? w _ HBS.out
  refine wpIn_rangeFunc_ownH (α := S34) (encs := fun x => #[.agg #[.int .u64 x.f0, .int .u64 x.f1]]) (Kp := fun X Y => Below w.heap.size X Y)
   (S := fun ys => ys = l1) (Sp := fun _ => True) (N := l1.length) (w0 := W0) rfl (by omega) (gf := 112) (lb := #[.pointer (some ⟨Bs, 0, none⟩)]) rfl trivial (enters_of Try.func112 (by kernel_rfl) rfl)
   (fun l J Jx W hW hJa _ hY h0 => sl_values1_in (5 - 1) (by omega) l Bs w A1 c1 l1 HR1.out HL.out J Jx W hJa hY (HB3.out.trans (hW.mono (by omega))) ((hW.cell (p := ⟨Bs, 0, none⟩) (by show Bs < _; omega)).trans HK0.out.2) h0)
   (fun h1 h2 => h1.trans h2)
   (fun W l o o' h1 h2 h3 h4 => belowK_b (w := W0) (by omega) W l o o' h1 h2 h3 h4)
   (Below.refl _ _) (fun _ => rfl)
   (AppI w w.heap.size)
   (fun _ _ _ => False)
   (appI_own w _ _ (by omega))
   (fun _ _ _ _ _ hs _ _ => hs)
   ⟨⟨_, bO, World.ownsRow_nil _ _ _ _, trivial⟩, HB3.out⟩
   (fun x a' W => ∃ Bx, W.heap[Bx]? = some (.cells #[.int .u64 x.f0, .int .u64 x.f1] 34 (0, 0)) ∧ a' = { tmps := #[.slice none 0 0, .func (.func 112) #[] #[.pointer (some ⟨Bs, 0, none⟩)], .pointer (some ⟨w.heap.size, 0, none⟩), undef, .slice none 0 0, .pointer (some ⟨Bx, 0, none⟩), .func (.func 112) #[] #[.pointer (some ⟨Bs, 0, none⟩)], .agg #[.int .u64 x.f0, .int .u64 x.f1], undef, undef, undef, undef, undef], defers := [] })
   ?hAx ?assign ?body ?done ?stop
  case hAx =>
   rintro x a' _ X Y row ⟨Bx, hx, rfl⟩ hg hr
   refine ⟨Bx, (hg.block Bx (Array.getElem?_eq_some_iff.1 hx).1 (fun e => ?_)).trans hx, rfl⟩
   obtain ⟨_, o, ho, hc⟩ := hr Bx e.symm
   rw [hx] at ho; cases ho; cases hc
  case assign =>
   intro l pre x W K hI hK
   have hsz : w.heap.size ≤ W.heap.size := hI.2.size
   gi_wp2
   exact hK _ _ ((KeepsOthers.alloc _ _).from _) ((Below.refl _ W).alloc hsz _) ((appI_own w _ _ (Nat.le_refl _)).alloc _ hI) ⟨W.heap.size, blk_new _ _, rfl⟩
  case body =>
   rintro l pre x a' W hl ⟨r, hr⟩ ⟨⟨v, hbo, hrow, _⟩, hB⟩ ⟨Bx, hx, rfl⟩ hltN
   obtain ⟨i0, hi0, hz0_, hz1_, hz2_⟩ := info_parts info34
   have hlen := HL.out
   have hx0 := blk_cell hx 0
   have hx1 := blk_cell hx 1
   have hbc := hbo.cell
   simp at hx0 hx1
   have HBO := ak_ hbo
   have HROW := ak_ hrow
   have HB := ak_ hB
   clear hbo hB
   gi_wp2_with (gi_at_builtin; refine wpListIn_append_own _ rfl _ _ 24 rfl w.heap.size 34 i0 (.agg #[.int .u64 0, .int .u64 0]) 2 16 Try.underlying24 hi0 hz0_ hz1_ hz2_ rfl (by decide) _ _ _ rfl (hrow.alloc _) ⟨W.heap.size, 0, none⟩ 1 1 (cs_sub x) rfl rfl (sub_two_new _ _ _ _) (by simp [cs_sub, Value.oneCell']) (by unfold maxLen; omega) (by omega) (by have := HB.out.size; simp; omega) ?_; intro v' w1' hown' hgrow _; obtain ⟨g', cap', rfl⟩ := ownsRow_succ hown'; obtain ⟨hv1, hv2, hr2, hk2, hb2⟩ := HBO.out.appended (by decide) HROW.out HB.out.size (by omega) hown' hgrow; have hc1 := hv1.cell; have hf1 := hv1.frozen)
   exact ⟨hk2.from _, hb2, ⟨_, hv2, by simpa [List.flatMap_append] using hr2, trivial⟩, HB.out.trans hb2⟩
  case done =>
   rintro D ys W hD rfl ⟨⟨v, hbo, hrow, _⟩, hB⟩ hK
   have hbc := hbo.cell
   gi_wp2
   refine ⟨by simp, .inl ⟨_, _, rfl, run_takeDeferred hK, ?_⟩⟩
   exact ⟨_, results_tmp rfl _ _ _, v, rfl, R_sub (ownsRow_putObj hrow _ hK rfl), hB.trans (belowK_b (w := W0) (by omega) W D _ _ hD hK rfl rfl)⟩
  case stop =>
   rintro D c pre W hD _ h _
   exact h.elim
end
theorem eg72 : ∀ args w, (callFunc 72 args).run Try.prog w = .ok (.enter 72 args) w := enters_of Try.func72 (by kernel_rfl) rfl
set_option maxHeartbeats 4000000 in
set_option maxRecDepth 100000 in
theorem sl_Collect.calls (A1 : Option Addr) (c1 : Nat) (l1 : List S34) (Bs : Nat) (w : World) (hr1 : Kd.C k34 w A1 l1.length l1) (hl : l1.length ≤ 1000000) (hBs : w.cell? ⟨Bs, 0, none⟩ = some (.slice A1 l1.length c1)) :
   Calls Try.prog 111 #[.func (.func 112) #[] #[.pointer (some ⟨Bs, 0, none⟩)]] w fun e w' => ∃ v0_ : Value, e = .returned v0_ ∧ Kd.R k34 34 w' w.heap.size (fun _ => True) v0_ l1 ∧ Below w.heap.size w w' := by
  have HR1 := ak_ hr1
  have HL := ak_ hl
  have HBS := ak_ hBs
  clear hr1 hl hBs
  go_enter Try.func111, Try.ntmps111
  go_wp2_with (go_at_call 136; refine (sl_AppendSeq.calls A1 c1 l1 Bs _ HR1.out HL.out HBS.out).mono ?_; rintro e w' ⟨v0, rfl, ho, hb⟩; have HO := ak_ ho; have HB := ak_ hb; clear ho hb)
  go_ret
  exact ⟨_, rfl, HO.out, HB.out⟩
set_option maxHeartbeats 4000000 in
set_option maxRecDepth 100000 in
theorem sl_SortedFunc.calls (A1 : Option Addr) (c1 : Nat) (l1 : List S34) (Bs : Nat) (w : World) (hr1 : Kd.C k34 w A1 l1.length l1) (hl : l1.length ≤ 1000000) (hBs : w.cell? ⟨Bs, 0, none⟩ = some (.slice A1 l1.length c1)) :
   Calls Try.prog 70 #[.func (.func 112) #[] #[.pointer (some ⟨Bs, 0, none⟩)], .func (.func 72) #[] #[]] w fun e w' => ∃ v0_ : Value, e = .returned v0_ ∧ Kd.R k34 34 w' w.heap.size (fun _ => True) v0_ (sortS l1) ∧ Below w.heap.size w w' := by
  have HR1 := ak_ hr1
  have HL := ak_ hl
  have HBS := ak_ hBs
  clear hr1 hl hBs
  go_enter Try.func70, Try.ntmps70
  go_wp2_with (first
   | (go_at_call 111; refine (sl_Collect.calls A1 c1 l1 Bs _ HR1.out HL.out HBS.out).mono ?_; rintro e w' ⟨v0, rfl, ho, hb⟩; have HO := ak_ ho; have HB := ak_ hb; clear ho hb)
   | (go_at_call 45; refine (sort_any 72 eg72 layer_ord.grew l1 w _ w.heap.size _ HB.out (Nat.le_refl _) HO.out (by have := HL.out; omega)).mono ?_; rintro e w' ⟨rfl, ho, hb, _⟩; have HO2 := ak_ ho; have HB2 := ak_ hb; clear ho hb))
  go_ret
  exact ⟨_, rfl, HO2.out, HB2.out⟩
def layer_Order.f (k : Nat) (l1 : List S34) : Option (List S34) := if l1.length ≤ 1000000 then some (sortS l1) else none
theorem layer_Order.mono : ∀ a0 k, LeO (layer_Order.f k a0) (layer_Order.f (k + 1) a0) := fun _ _ => LeO.refl _
set_option maxHeartbeats 4000000 in
set_option maxRecDepth 100000 in
theorem layer_Order.calls (k : Nat) (A0 : Option Addr) (c0 : Nat) (l0 : List S34) (r : List S34) (w : World) (hr0 : Kd.C k34 w A0 l0.length l0) (hc0 : l0.length ≤ c0) (h : layer_Order.f k l0 = some r) :
   Calls Try.prog 31 #[.slice A0 l0.length c0] w fun e w' => ∃ v0_ : Value, e = .returned (v0_) ∧ Kd.R k34 34 w' w.heap.size (fun _ => True) v0_ r ∧ Below w.heap.size w w' := by
  unfold layer_Order.f at h
  by_cases hl : l0.length ≤ 1000000
  ·rw [if_pos hl] at h
   obtain rfl := Option.some.inj h
   have HR1 := ak_ hr0
   have HL := ak_ hl
   clear hr0 hl h
   go_enter Try.func31, Try.ntmps31
   go_wp2_with (first
    | (go_at_call 71; refine (sl_Values.calls A0 l0.length c0 _).mono ?_; rintro e w' ⟨rfl, rfl⟩)
    | (go_at_call 70; refine (sl_SortedFunc.calls A0 c0 l0 w.heap.size _ (Kd.C_alloc HR1.out _) HL.out (blk_cell (blk_new w _) 0)).mono ?_; rintro e w' ⟨v0, rfl, ho, hb⟩; have HO := ak_ ho; have HB := ak_ hb; clear ho hb))
   go_ret
   have h1 : Below w.heap.size w (w.alloc (.cells #[.slice A0 l0.length c0] 24)) := ba_ (Below.refl _ _) _
   exact ⟨_, rfl, Kd.R_lower HO.out h1.size, below_step h1 HB.out⟩
  ·rw [if_neg hl] at h
   cases h

/-! ### layer_check: function 73 -/
def layer_check.f (k : Nat) (a0 : Int) (a1 : Int) : Option (Int) := if a1 < 1 then (some 1) else (if a1 > 3 then (some 1) else ((node_Check.f k a0 1).bind fun t294 => (some t294)))
theorem layer_check.mono : ∀ a0 a1 k, LeO (layer_check.f k a0 a1) (layer_check.f (k + 1) a0 a1) := by
  intro a0 a1 k
  unfold layer_check.f
  repeat' first
    | (with_reducible exact node_Check.mono _ _ _)
    | (with_reducible exact LeO.refl _)
    | (with_reducible exact LeO.none _)
    | (with_reducible refine LeO.ite ?_ ?_)
    | (with_reducible refine LeO.bind ?_ (fun _ => ?_))
    | exact node_Check.mono _ _ _
    | exact LeO.none _
    | refine LeO.ite ?_ ?_
    | refine LeO.bind ?_ (fun _ => ?_)
set_option maxHeartbeats 8000000 in
set_option maxRecDepth 100000 in
theorem layer_check.calls (k : Nat) (a0 : Int) (a1 : Int) (r : Int) (w : World) (h : layer_check.f k a0 a1 = some r) :
   Calls Try.prog 73 #[.int .i64 a0, .int .i64 a1] w fun e w' => e = .returned (.int .i64 r) ∧ Drawn0 w w' := by
  have H : (if a1 < 1 then (some 1) else (if a1 > 3 then (some 1) else ((node_Check.f k a0 1).bind fun t294 => (some t294)))) = some r := h
  clear h
  by_cases c3 : a1 < 1
  ·rw [if_pos c3] at H
   have c3b0 : decide (a1 < 1) = true := decide_eq_true c3
   clear c3
   obtain rfl := Option.some.inj H
   go_enter Try.func73, Try.ntmps73
   go_wp2
   go_ret
   exact ⟨by first | rfl | (simp; done) | (simp [*]; done), by repeat (first | exact Drawn0.refl _ | apply Drawn0.step)⟩
  ·rw [if_neg c3] at H
   have c3b0 : decide (a1 < 1) = false := decide_eq_false c3
   clear c3
   by_cases c4 : a1 > 3
   ·rw [if_pos c4] at H
    have c4b0 : decide (3 < a1) = true := decide_eq_true c4
    clear c4
    obtain rfl := Option.some.inj H
    go_enter Try.func73, Try.ntmps73
    go_wp2
    go_ret
    exact ⟨by first | rfl | (simp; done) | (simp [*]; done), by repeat (first | exact Drawn0.refl _ | apply Drawn0.step)⟩
   ·rw [if_neg c4] at H
    have c4b0 : decide (3 < a1) = false := decide_eq_false c4
    clear c4
    replace H := Option.bind_eq_some_iff.mp H
    obtain ⟨t294, A50, H⟩ := H
    replace H : (some t294) = some r := H
    have A5 := ak_ A50
    clear A50
    obtain rfl := Option.some.inj H
    go_enter Try.func73, Try.ntmps73
    go_wp2_with (first | ((with_reducible refine gate_callee (f := 64) rfl ?_); refine goesL_ (some 12) rfl rfl Try.func64 (by kernel_rfl) rfl #[.int .i64 a0, .int .u64 1] rfl (by (try simp only [map_toArray, map_cons, map_nil]); first | done | rfl | (simp only [length_drop, length_take]; rfl)) ?_; (with_reducible refine (node_Check.calls k a0 1 t294 _ A5.out).mono ?_); rintro e w' ⟨rfl, ⟨nd, rfl⟩⟩; refine ⟨_, rfl, ?_⟩))
    go_ret
    exact ⟨by first | rfl | (simp; done) | (simp [*]; done), by repeat (first | exact Drawn0.refl _ | apply Drawn0.step)⟩

/-! ### sub_Step: function 33 -/
def sub_Step.l0 : Nat → Int → Int → Option (Int × Int)
  | 0, _, _ => none
  | k + 1, x0, x5 => if (wrap64 (x5 * x5)) < x0 then (sub_Step.l0 k x0 (wrap64 (x5 + 1))) else (some (x5, 0))
def sub_Step.f (k : Nat) (a0 : Int) : Option (Int × Int) := (node_Check.f k a0 1).bind fun t295 => (if t295 = 0 then (sub_Step.l0 k a0 1) else (some (0, t295)))
theorem sub_Step.mono_l : ∀ k, (∀ y0 y1, LeO (sub_Step.l0 k y0 y1) (sub_Step.l0 (k + 1) y0 y1))
  | 0 => fun _ _ r h => by simp [sub_Step.l0] at h
  | k + 1 => by
   have ih0 := sub_Step.mono_l k
   ·intro y0 y1
    unfold sub_Step.l0
    repeat' first
    | (with_reducible exact ih0 _ _)
    | (with_reducible exact node_Check.mono _ _ _)
    | (with_reducible exact LeO.refl _)
    | (with_reducible exact LeO.none _)
    | (with_reducible refine LeO.ite ?_ ?_)
    | (with_reducible refine LeO.bind ?_ (fun _ => ?_))
    | exact ih0 _ _
    | exact node_Check.mono _ _ _
    | exact LeO.none _
    | refine LeO.ite ?_ ?_
    | refine LeO.bind ?_ (fun _ => ?_)
theorem sub_Step.mono : ∀ a0 k, LeO (sub_Step.f k a0) (sub_Step.f (k + 1) a0) := by
  intro a0 k
  have ih0 := sub_Step.mono_l k
  unfold sub_Step.f
  repeat' first
    | (with_reducible exact ih0 _ _)
    | (with_reducible exact node_Check.mono _ _ _)
    | (with_reducible exact LeO.refl _)
    | (with_reducible exact LeO.none _)
    | (with_reducible refine LeO.ite ?_ ?_)
    | (with_reducible refine LeO.bind ?_ (fun _ => ?_))
    | exact ih0 _ _
    | exact node_Check.mono _ _ _
    | exact LeO.none _
    | refine LeO.ite ?_ ?_
    | refine LeO.bind ?_ (fun _ => ?_)
set_option maxHeartbeats 8000000 in
set_option maxRecDepth 100000 in
theorem sub_Step.calls (k : Nat) (a0 : Int) (r1 : Int) (r2 : Int) (w : World) (h : sub_Step.f k a0 = some (r1, r2)) :
   Calls Try.prog 33 #[.int .i64 a0] w fun e w' => e = .returned (.tuple #[.int .i64 r1, .int .i64 r2]) ∧ Drawn0 w w' := by
  have H : ((node_Check.f k a0 1).bind fun t295 => (if t295 = 0 then (sub_Step.l0 k a0 1) else (some (0, t295)))) = some (r1, r2) := h
  clear h
  replace H := Option.bind_eq_some_iff.mp H
  obtain ⟨t295, A20, H⟩ := H
  replace H : (if t295 = 0 then (sub_Step.l0 k a0 1) else (some (0, t295))) = some (r1, r2) := H
  have A2 := ak_ A20
  clear A20
  by_cases c3 : t295 = 0
  ·rw [if_pos c3] at H
   have c3b0 : (t295 == 0) = true := beq_iff_eq.mpr c3
   have c3b1 : (t295 != 0) = false := bne_eq_false_iff_eq.mpr c3
   clear c3
   have H' := ak_ H
   clear H
   go_enter Try.func33, Try.ntmps33
   go_wp2_with (first | ((with_reducible refine gate_callee (f := 64) rfl ?_); refine goesL_ (some 7) rfl rfl Try.func64 (by kernel_rfl) rfl #[.int .i64 a0, .int .u64 1] rfl (by (try simp only [map_toArray, map_cons, map_nil]); first | done | rfl | (simp only [length_drop, length_take]; rfl)) ?_; (with_reducible refine (node_Check.calls k a0 1 t295 _ A2.out).mono ?_); rintro e w' ⟨rfl, ⟨nd, rfl⟩⟩; refine ⟨_, rfl, ?_⟩))
   go_loopg [5] k (fun kq v5 w' => ∃ (x5_1 : Int), v5 = .int .i64 x5_1 ∧ Aside0 (sub_Step.l0 kq a0 x5_1 = some (r1, r2)) ∧ Aside0 (kq ≤ k) ∧ Drawn0 w w')
   case atStart => exact ⟨(1), (by first | rfl | (simp; done) | (simp [*]; done)), H', ⟨Nat.le_refl _⟩, by repeat (first | exact Drawn0.refl _ | apply Drawn0.step)⟩
   case round =>
    clear H'
    try clear p2
    try clear c3
    try clear c3b0
    try clear c3b1
    obtain ⟨x5_1, rfl, HA, HK1, ⟨m1, rfl⟩⟩ := hrel
    cases gk with
    | zero => exact absurd HA.out (by simp [sub_Step.l0])
    | succ k1 =>
     have H := HA.out
     clear HA
     simp only [sub_Step.l0] at H
     by_cases c4 : (wrap64 (x5_1 * x5_1)) < a0
     ·rw [if_pos c4] at H
      have c4b0 : decide ((wrap64 (x5_1 * x5_1)) < a0) = true := decide_eq_true c4
      clear c4
      have H' := ak_ H
      clear H
      go_wp2
      go_roundg k1
      case measure => have := HK1.out; omega
      case rel => exact ⟨(wrap64 (x5_1 + 1)), (by first | rfl | (simp; done) | (simp [*]; done)), H', ⟨by have := HK1.out; omega⟩, by repeat (first | exact Drawn0.refl _ | apply Drawn0.step)⟩
     ·rw [if_neg c4] at H
      have c4b0 : decide ((wrap64 (x5_1 * x5_1)) < a0) = false := decide_eq_false c4
      clear c4
      simp only [Option.some.injEq, Prod.mk.injEq] at H
      obtain ⟨rfl, rfl⟩ := H
      go_wp2
      go_ret2
      exact ⟨by first | rfl | (simp; done) | (simp [*]; done), by repeat (first | exact Drawn0.refl _ | apply Drawn0.step)⟩
  ·rw [if_neg c3] at H
   have c3b0 : (t295 == 0) = false := beq_eq_false_iff_ne.mpr c3
   have c3b1 : (t295 != 0) = true := bne_iff_ne.mpr c3
   simp only [Option.some.injEq, Prod.mk.injEq] at H
   obtain ⟨rfl, rfl⟩ := H
   go_enter Try.func33, Try.ntmps33
   go_wp2_with (first | ((with_reducible refine gate_callee (f := 64) rfl ?_); refine goesL_ (some 7) rfl rfl Try.func64 (by kernel_rfl) rfl #[.int .i64 a0, .int .u64 1] rfl (by (try simp only [map_toArray, map_cons, map_nil]); first | done | rfl | (simp only [length_drop, length_take]; rfl)) ?_; (with_reducible refine (node_Check.calls k a0 1 t295 _ A2.out).mono ?_); rintro e w' ⟨rfl, ⟨nd, rfl⟩⟩; refine ⟨_, rfl, ?_⟩))
   go_ret2
   exact ⟨by first | rfl | (simp; done) | (simp [*]; done), by repeat (first | exact Drawn0.refl _ | apply Drawn0.step)⟩

/-! ### node_Depth: function 60 -/
def node_Depth.f (k : Nat) (a0 : Int) (a1 : Int) : Option (Int × Int) := (node_Check.f k a0 a1).bind fun t296 => (if t296 = 0 then ((node_depth.f k a1).bind fun t297 => (some (t297, 0))) else (some (0, t296)))
theorem node_Depth.mono : ∀ a0 a1 k, LeO (node_Depth.f k a0 a1) (node_Depth.f (k + 1) a0 a1) := by
  intro a0 a1 k
  unfold node_Depth.f
  repeat' first
    | (with_reducible exact node_Check.mono _ _ _)
    | (with_reducible exact node_depth.mono _ _)
    | (with_reducible exact LeO.refl _)
    | (with_reducible exact LeO.none _)
    | (with_reducible refine LeO.ite ?_ ?_)
    | (with_reducible refine LeO.bind ?_ (fun _ => ?_))
    | exact node_Check.mono _ _ _
    | exact node_depth.mono _ _
    | exact LeO.none _
    | refine LeO.ite ?_ ?_
    | refine LeO.bind ?_ (fun _ => ?_)
set_option maxHeartbeats 8000000 in
set_option maxRecDepth 100000 in
theorem node_Depth.calls (k : Nat) (a0 : Int) (a1 : Int) (r1 : Int) (r2 : Int) (w : World) (h : node_Depth.f k a0 a1 = some (r1, r2)) :
   Calls Try.prog 60 #[.int .i64 a0, .int .u64 a1] w fun e w' => e = .returned (.tuple #[.int .i64 r1, .int .i64 r2]) ∧ Drawn0 w w' := by
  have H : ((node_Check.f k a0 a1).bind fun t296 => (if t296 = 0 then ((node_depth.f k a1).bind fun t297 => (some (t297, 0))) else (some (0, t296)))) = some (r1, r2) := h
  clear h
  replace H := Option.bind_eq_some_iff.mp H
  obtain ⟨t296, A30, H⟩ := H
  replace H : (if t296 = 0 then ((node_depth.f k a1).bind fun t297 => (some (t297, 0))) else (some (0, t296))) = some (r1, r2) := H
  have A3 := ak_ A30
  clear A30
  by_cases c4 : t296 = 0
  ·rw [if_pos c4] at H
   have c4b0 : (t296 == 0) = true := beq_iff_eq.mpr c4
   have c4b1 : (t296 != 0) = false := bne_eq_false_iff_eq.mpr c4
   clear c4
   replace H := Option.bind_eq_some_iff.mp H
   obtain ⟨t297, A50, H⟩ := H
   replace H : (some (t297, 0)) = some (r1, r2) := H
   have A5 := ak_ A50
   clear A50
   simp only [Option.some.injEq, Prod.mk.injEq] at H
   obtain ⟨rfl, rfl⟩ := H
   go_enter Try.func60, Try.ntmps60
   go_wp2_with (first | ((with_reducible refine gate_callee (f := 64) rfl ?_); refine goesL_ (some 9) rfl rfl Try.func64 (by kernel_rfl) rfl #[.int .i64 a0, .int .u64 a1] rfl (by (try simp only [map_toArray, map_cons, map_nil]); first | done | rfl | (simp only [length_drop, length_take]; rfl)) ?_; (with_reducible refine (node_Check.calls k a0 a1 t296 _ A3.out).mono ?_); rintro e w' ⟨rfl, ⟨nd, rfl⟩⟩; refine ⟨_, rfl, ?_⟩) | ((with_reducible refine gate_callee (f := 102) rfl ?_); refine goesL_ (some 14) rfl rfl Try.func102 (by kernel_rfl) rfl #[.int .u64 a1] rfl (by (try simp only [map_toArray, map_cons, map_nil]); first | done | rfl | (simp only [length_drop, length_take]; rfl)) ?_; (with_reducible refine (node_depth.calls k a1 t297 _ A5.out).mono ?_); rintro e w' ⟨rfl, ⟨nd, rfl⟩⟩; refine ⟨_, rfl, ?_⟩))
   go_ret2
   exact ⟨by first | rfl | (simp; done) | (simp [*]; done), by repeat (first | exact Drawn0.refl _ | apply Drawn0.step)⟩
  ·rw [if_neg c4] at H
   have c4b0 : (t296 == 0) = false := beq_eq_false_iff_ne.mpr c4
   have c4b1 : (t296 != 0) = true := bne_iff_ne.mpr c4
   simp only [Option.some.injEq, Prod.mk.injEq] at H
   obtain ⟨rfl, rfl⟩ := H
   go_enter Try.func60, Try.ntmps60
   go_wp2_with (first | ((with_reducible refine gate_callee (f := 64) rfl ?_); refine goesL_ (some 9) rfl rfl Try.func64 (by kernel_rfl) rfl #[.int .i64 a0, .int .u64 a1] rfl (by (try simp only [map_toArray, map_cons, map_nil]); first | done | rfl | (simp only [length_drop, length_take]; rfl)) ?_; (with_reducible refine (node_Check.calls k a0 a1 t296 _ A3.out).mono ?_); rintro e w' ⟨rfl, ⟨nd, rfl⟩⟩; refine ⟨_, rfl, ?_⟩))
   go_ret2
   exact ⟨by first | rfl | (simp; done) | (simp [*]; done), by repeat (first | exact Drawn0.refl _ | apply Drawn0.step)⟩

/-! ### sub_depths: function 76 -/
def sub_depths.f (k : Nat) (a0 : Int) (a1_0 : Int) (a1_1 : Int) : Option (Int × Int × Int × Bool × Int) := (sub_Step.f k a0).bind fun bt299 => (if bt299.2 = 0 then ((node_Depth.f k a0 a1_0).bind fun bt301 => (if bt301.2 = 0 then (if a1_1 = 0 then (if bt299.1 = 0 then (none) else (if (Int.tmod bt301.1 bt299.1) = 0 then (some (bt301.1, 0, mn (wrap64 ((wrap64 ((wrap64 (Int.tdiv bt301.1 bt299.1)) + 1)) * bt299.1)) a0, true, bt301.2)) else (some (bt301.1, 0, mn (wrap64 ((wrap64 ((wrap64 (Int.tdiv bt301.1 bt299.1)) + 1)) * bt299.1)) a0, (bt301.1 == a0), bt301.2)))) else ((node_Depth.f k a0 a1_1).bind fun bt303 => (if bt299.1 = 0 then (none) else (if (Int.tmod bt301.1 bt299.1) = 0 then (some (bt301.1, bt303.1, mn (wrap64 ((wrap64 ((wrap64 (Int.tdiv bt301.1 bt299.1)) + 1)) * bt299.1)) a0, true, bt303.2)) else (some (bt301.1, bt303.1, mn (wrap64 ((wrap64 ((wrap64 (Int.tdiv bt301.1 bt299.1)) + 1)) * bt299.1)) a0, (bt301.1 == a0), bt303.2)))))) else (if bt299.1 = 0 then (none) else (if (Int.tmod bt301.1 bt299.1) = 0 then (some (bt301.1, 0, mn (wrap64 ((wrap64 ((wrap64 (Int.tdiv bt301.1 bt299.1)) + 1)) * bt299.1)) a0, true, bt301.2)) else (some (bt301.1, 0, mn (wrap64 ((wrap64 ((wrap64 (Int.tdiv bt301.1 bt299.1)) + 1)) * bt299.1)) a0, (bt301.1 == a0), bt301.2)))))) else (some (0, 0, 0, false, bt299.2)))
theorem sub_depths.mono : ∀ a0 a1 a2 k, LeO (sub_depths.f k a0 a1 a2) (sub_depths.f (k + 1) a0 a1 a2) := by
  intro a0 a1 a2 k
  unfold sub_depths.f
  repeat' first
    | (with_reducible exact node_Depth.mono _ _ _)
    | (with_reducible exact sub_Step.mono _ _)
    | (with_reducible exact LeO.refl _)
    | (with_reducible exact LeO.none _)
    | (with_reducible refine LeO.ite ?_ ?_)
    | (with_reducible refine LeO.bind ?_ (fun _ => ?_))
    | exact node_Depth.mono _ _ _
    | exact sub_Step.mono _ _
    | exact LeO.none _
    | refine LeO.ite ?_ ?_
    | refine LeO.bind ?_ (fun _ => ?_)
set_option maxHeartbeats 8000000 in
set_option maxRecDepth 100000 in
theorem sub_depths.calls (k : Nat) (a0 : Int) (a1_0 : Int) (a1_1 : Int) (r1 : Int) (r2 : Int) (r3 : Int) (r4 : Bool) (r5 : Int) (w : World) (h : sub_depths.f k a0 a1_0 a1_1 = some (r1, r2, r3, r4, r5)) :
   Calls Try.prog 76 #[.int .i64 a0, .agg #[.int .u64 a1_0, .int .u64 a1_1]] w fun e w' => e = .returned (.tuple #[.int .i64 r1, .int .i64 r2, .int .i64 r3, .bool r4, .int .i64 r5]) ∧ Below w.heap.size w w' := by
  have hu34 := Try.underlying34
  have HB := ak_ (Below.refl w.heap.size w)
  have H : ((sub_Step.f k a0).bind fun bt299 => (if bt299.2 = 0 then ((node_Depth.f k a0 a1_0).bind fun bt301 => (if bt301.2 = 0 then (if a1_1 = 0 then (if bt299.1 = 0 then (none) else (if (Int.tmod bt301.1 bt299.1) = 0 then (some (bt301.1, 0, mn (wrap64 ((wrap64 ((wrap64 (Int.tdiv bt301.1 bt299.1)) + 1)) * bt299.1)) a0, true, bt301.2)) else (some (bt301.1, 0, mn (wrap64 ((wrap64 ((wrap64 (Int.tdiv bt301.1 bt299.1)) + 1)) * bt299.1)) a0, (bt301.1 == a0), bt301.2)))) else ((node_Depth.f k a0 a1_1).bind fun bt303 => (if bt299.1 = 0 then (none) else (if (Int.tmod bt301.1 bt299.1) = 0 then (some (bt301.1, bt303.1, mn (wrap64 ((wrap64 ((wrap64 (Int.tdiv bt301.1 bt299.1)) + 1)) * bt299.1)) a0, true, bt303.2)) else (some (bt301.1, bt303.1, mn (wrap64 ((wrap64 ((wrap64 (Int.tdiv bt301.1 bt299.1)) + 1)) * bt299.1)) a0, (bt301.1 == a0), bt303.2)))))) else (if bt299.1 = 0 then (none) else (if (Int.tmod bt301.1 bt299.1) = 0 then (some (bt301.1, 0, mn (wrap64 ((wrap64 ((wrap64 (Int.tdiv bt301.1 bt299.1)) + 1)) * bt299.1)) a0, true, bt301.2)) else (some (bt301.1, 0, mn (wrap64 ((wrap64 ((wrap64 (Int.tdiv bt301.1 bt299.1)) + 1)) * bt299.1)) a0, (bt301.1 == a0), bt301.2)))))) else (some (0, 0, 0, false, bt299.2)))) = some (r1, r2, r3, r4, r5) := h
  clear h
  replace H := Option.bind_eq_some_iff.mp H
  obtain ⟨⟨t299, t300⟩, A30, H⟩ := H
  replace H : (if t300 = 0 then ((node_Depth.f k a0 a1_0).bind fun bt301 => (if bt301.2 = 0 then (if a1_1 = 0 then (if t299 = 0 then (none) else (if (Int.tmod bt301.1 t299) = 0 then (some (bt301.1, 0, mn (wrap64 ((wrap64 ((wrap64 (Int.tdiv bt301.1 t299)) + 1)) * t299)) a0, true, bt301.2)) else (some (bt301.1, 0, mn (wrap64 ((wrap64 ((wrap64 (Int.tdiv bt301.1 t299)) + 1)) * t299)) a0, (bt301.1 == a0), bt301.2)))) else ((node_Depth.f k a0 a1_1).bind fun bt303 => (if t299 = 0 then (none) else (if (Int.tmod bt301.1 t299) = 0 then (some (bt301.1, bt303.1, mn (wrap64 ((wrap64 ((wrap64 (Int.tdiv bt301.1 t299)) + 1)) * t299)) a0, true, bt303.2)) else (some (bt301.1, bt303.1, mn (wrap64 ((wrap64 ((wrap64 (Int.tdiv bt301.1 t299)) + 1)) * t299)) a0, (bt301.1 == a0), bt303.2)))))) else (if t299 = 0 then (none) else (if (Int.tmod bt301.1 t299) = 0 then (some (bt301.1, 0, mn (wrap64 ((wrap64 ((wrap64 (Int.tdiv bt301.1 t299)) + 1)) * t299)) a0, true, bt301.2)) else (some (bt301.1, 0, mn (wrap64 ((wrap64 ((wrap64 (Int.tdiv bt301.1 t299)) + 1)) * t299)) a0, (bt301.1 == a0), bt301.2)))))) else (some (0, 0, 0, false, t300))) = some (r1, r2, r3, r4, r5) := H
  have A3 := ak_ A30
  clear A30
  by_cases c4 : t300 = 0
  ·rw [if_pos c4] at H
   have c4b0 : (t300 == 0) = true := beq_iff_eq.mpr c4
   have c4b1 : (t300 != 0) = false := bne_eq_false_iff_eq.mpr c4
   clear c4
   replace H := Option.bind_eq_some_iff.mp H
   obtain ⟨⟨t301, t302⟩, A50, H⟩ := H
   replace H : (if t302 = 0 then (if a1_1 = 0 then (if t299 = 0 then (none) else (if (Int.tmod t301 t299) = 0 then (some (t301, 0, mn (wrap64 ((wrap64 ((wrap64 (Int.tdiv t301 t299)) + 1)) * t299)) a0, true, t302)) else (some (t301, 0, mn (wrap64 ((wrap64 ((wrap64 (Int.tdiv t301 t299)) + 1)) * t299)) a0, (t301 == a0), t302)))) else ((node_Depth.f k a0 a1_1).bind fun bt303 => (if t299 = 0 then (none) else (if (Int.tmod t301 t299) = 0 then (some (t301, bt303.1, mn (wrap64 ((wrap64 ((wrap64 (Int.tdiv t301 t299)) + 1)) * t299)) a0, true, bt303.2)) else (some (t301, bt303.1, mn (wrap64 ((wrap64 ((wrap64 (Int.tdiv t301 t299)) + 1)) * t299)) a0, (t301 == a0), bt303.2)))))) else (if t299 = 0 then (none) else (if (Int.tmod t301 t299) = 0 then (some (t301, 0, mn (wrap64 ((wrap64 ((wrap64 (Int.tdiv t301 t299)) + 1)) * t299)) a0, true, t302)) else (some (t301, 0, mn (wrap64 ((wrap64 ((wrap64 (Int.tdiv t301 t299)) + 1)) * t299)) a0, (t301 == a0), t302))))) = some (r1, r2, r3, r4, r5) := H
   have A5 := ak_ A50
   clear A50
   by_cases c6 : t302 = 0
   ·rw [if_pos c6] at H
    have c6b0 : (t302 == 0) = true := beq_iff_eq.mpr c6
    have c6b1 : (t302 != 0) = false := bne_eq_false_iff_eq.mpr c6
    clear c6
    by_cases c7 : a1_1 = 0
    ·rw [if_pos c7] at H
     have c7b0 : (a1_1 == 0) = true := beq_iff_eq.mpr c7
     have c7b1 : (a1_1 != 0) = false := bne_eq_false_iff_eq.mpr c7
     clear c7
     by_cases c8 : t299 = 0
     ·rw [if_pos c8] at H
      exact absurd H (by simp)
     ·rw [if_neg c8] at H
      have c8b0 : (t299 == 0) = false := beq_eq_false_iff_ne.mpr c8
      have c8b1 : (t299 != 0) = true := bne_iff_ne.mpr c8
      obtain ⟨ji9, hji9⟩ : ∃ j_ : Int, (mn (wrap64 ((wrap64 ((wrap64 (Int.tdiv t301 t299)) + 1)) * t299)) a0) = j_ := ⟨_, rfl⟩
      replace H : (if (Int.tmod t301 t299) = 0 then (some (t301, 0, ji9, true, t302)) else (some (t301, 0, ji9, (t301 == a0), t302))) = some (r1, r2, r3, r4, r5) := by first | (rw [hji9] at H; exact H) | (simp only [hji9] at H ⊢; exact H)
      (try rw [hji9] at A3)
      (try rw [hji9] at A5)
      have hji9_ : (if a0 < (wrap64 ((wrap64 ((wrap64 (Int.tdiv t301 t299)) + 1)) * t299)) then a0 else (wrap64 ((wrap64 ((wrap64 (Int.tdiv t301 t299)) + 1)) * t299))) = ji9 := hji9
      by_cases c10 : (Int.tmod t301 t299) = 0
      ·rw [if_pos c10] at H
       have c10b0 : ((Int.tmod t301 t299) == 0) = true := beq_iff_eq.mpr c10
       have c10b1 : ((Int.tmod t301 t299) != 0) = false := bne_eq_false_iff_eq.mpr c10
       clear c10
       simp only [Option.some.injEq, Prod.mk.injEq] at H
       obtain ⟨rfl, rfl, rfl, rfl, rfl⟩ := H
       go_enter Try.func76, Try.ntmps76
       go_wp2_with (first | ((with_reducible refine gate_dst (N := 3) rfl ?_); refine box_event ?hg (N := 3) ?hd (cs := #[.int .u64 a1_0, .int .u64 a1_1]) (t := 34) ?hr ?_; (case hd => rfl); (case hg => rfl); (case hr => first | (go_simp; done) | (go_simp; rfl)); intro gb298 hg w11 hbox hb; have n0_ := ak_ (below_step (by repeat (first | (with_reducible first | exact HB.out | apply ba_ | apply bn_ | apply bd_) | exact HB.out)) hb); have n1_ := ak_ (hbox); have n2_ := ak_ ((by rw [hg]; exact (below_size (by repeat (first | (with_reducible first | exact HB.out | apply ba_ | apply bn_ | apply bd_) | exact HB.out))) : w.heap.size ≤ gb298)); have n3_ := ak_ ((by rw [hg]; exact (below_size (by repeat (first | (with_reducible first | exact HB.out | apply ba_ | apply bn_ | apply bd_) | exact HB.out))) : w.heap.size ≤ gb298)); clear HB; have HB := n0_; have BK298 := n1_; have GW298 := n2_; have GE298 := n3_; clear n0_ n1_ n2_ n3_; clear hb hbox hg) | (go_at_call 33; (with_reducible refine (sub_Step.calls k a0 t299 t300 _ A3.out).mono ?_); rintro e w' ⟨rfl, ⟨nd, rfl⟩⟩; (try first | exact ⟨rfl, _, World.drewN_drewN _ _ _⟩ | exact ⟨rfl, _, Eq.trans (World.drewN_drewN _ _ _) (congrArg (World.drewN _) (Nat.add_assoc _ _ _))⟩); have hcz12_0 : w11.cell? ⟨gb298, 0, none⟩ = some (.int .u64 a1_0) := (blk_cell BK298.out 0).trans rfl; have hcz12_1 : w11.cell? ⟨gb298, 1, none⟩ = some (.int .u64 a1_1) := (blk_cell BK298.out 1).trans rfl; have hfz12_0 := blk_frozen BK298.out 0; have hfz12_1 := blk_frozen BK298.out 1) | (go_at_call 60; (with_reducible refine (node_Depth.calls k a0 a1_0 t301 t302 _ A5.out).mono ?_); rintro e w' ⟨rfl, ⟨nd, rfl⟩⟩; (try first | exact ⟨rfl, _, World.drewN_drewN _ _ _⟩ | exact ⟨rfl, _, Eq.trans (World.drewN_drewN _ _ _) (congrArg (World.drewN _) (Nat.add_assoc _ _ _))⟩)))
       repeat (go_quiet (first | ((with_reducible refine gate_dst (N := 3) rfl ?_); refine box_event ?hg (N := 3) ?hd (cs := #[.int .u64 a1_0, .int .u64 a1_1]) (t := 34) ?hr ?_; (case hd => rfl); (case hg => rfl); (case hr => first | (go_simp; done) | (go_simp; rfl)); intro gb298 hg w11 hbox hb; have n0_ := ak_ (below_step (by repeat (first | (with_reducible first | exact HB.out | apply ba_ | apply bn_ | apply bd_) | exact HB.out)) hb); have n1_ := ak_ (hbox); have n2_ := ak_ ((by rw [hg]; exact (below_size (by repeat (first | (with_reducible first | exact HB.out | apply ba_ | apply bn_ | apply bd_) | exact HB.out))) : w.heap.size ≤ gb298)); have n3_ := ak_ ((by rw [hg]; exact (below_size (by repeat (first | (with_reducible first | exact HB.out | apply ba_ | apply bn_ | apply bd_) | exact HB.out))) : w.heap.size ≤ gb298)); clear HB; have HB := n0_; have BK298 := n1_; have GW298 := n2_; have GE298 := n3_; clear n0_ n1_ n2_ n3_; clear hb hbox hg) | (go_at_call 33; (with_reducible refine (sub_Step.calls k a0 t299 t300 _ A3.out).mono ?_); rintro e w' ⟨rfl, ⟨nd, rfl⟩⟩; (try first | exact ⟨rfl, _, World.drewN_drewN _ _ _⟩ | exact ⟨rfl, _, Eq.trans (World.drewN_drewN _ _ _) (congrArg (World.drewN _) (Nat.add_assoc _ _ _))⟩); have hcz12_0 : w11.cell? ⟨gb298, 0, none⟩ = some (.int .u64 a1_0) := (blk_cell BK298.out 0).trans rfl; have hcz12_1 : w11.cell? ⟨gb298, 1, none⟩ = some (.int .u64 a1_1) := (blk_cell BK298.out 1).trans rfl; have hfz12_0 := blk_frozen BK298.out 0; have hfz12_1 := blk_frozen BK298.out 1) | (go_at_call 60; (with_reducible refine (node_Depth.calls k a0 a1_0 t301 t302 _ A5.out).mono ?_); rintro e w' ⟨rfl, ⟨nd, rfl⟩⟩; (try first | exact ⟨rfl, _, World.drewN_drewN _ _ _⟩ | exact ⟨rfl, _, Eq.trans (World.drewN_drewN _ _ _) (congrArg (World.drewN _) (Nat.add_assoc _ _ _))⟩))); try go_wp2_with (first | ((with_reducible refine gate_dst (N := 3) rfl ?_); refine box_event ?hg (N := 3) ?hd (cs := #[.int .u64 a1_0, .int .u64 a1_1]) (t := 34) ?hr ?_; (case hd => rfl); (case hg => rfl); (case hr => first | (go_simp; done) | (go_simp; rfl)); intro gb298 hg w11 hbox hb; have n0_ := ak_ (below_step (by repeat (first | (with_reducible first | exact HB.out | apply ba_ | apply bn_ | apply bd_) | exact HB.out)) hb); have n1_ := ak_ (hbox); have n2_ := ak_ ((by rw [hg]; exact (below_size (by repeat (first | (with_reducible first | exact HB.out | apply ba_ | apply bn_ | apply bd_) | exact HB.out))) : w.heap.size ≤ gb298)); have n3_ := ak_ ((by rw [hg]; exact (below_size (by repeat (first | (with_reducible first | exact HB.out | apply ba_ | apply bn_ | apply bd_) | exact HB.out))) : w.heap.size ≤ gb298)); clear HB; have HB := n0_; have BK298 := n1_; have GW298 := n2_; have GE298 := n3_; clear n0_ n1_ n2_ n3_; clear hb hbox hg) | (go_at_call 33; (with_reducible refine (sub_Step.calls k a0 t299 t300 _ A3.out).mono ?_); rintro e w' ⟨rfl, ⟨nd, rfl⟩⟩; (try first | exact ⟨rfl, _, World.drewN_drewN _ _ _⟩ | exact ⟨rfl, _, Eq.trans (World.drewN_drewN _ _ _) (congrArg (World.drewN _) (Nat.add_assoc _ _ _))⟩); have hcz12_0 : w11.cell? ⟨gb298, 0, none⟩ = some (.int .u64 a1_0) := (blk_cell BK298.out 0).trans rfl; have hcz12_1 : w11.cell? ⟨gb298, 1, none⟩ = some (.int .u64 a1_1) := (blk_cell BK298.out 1).trans rfl; have hfz12_0 := blk_frozen BK298.out 0; have hfz12_1 := blk_frozen BK298.out 1) | (go_at_call 60; (with_reducible refine (node_Depth.calls k a0 a1_0 t301 t302 _ A5.out).mono ?_); rintro e w' ⟨rfl, ⟨nd, rfl⟩⟩; (try first | exact ⟨rfl, _, World.drewN_drewN _ _ _⟩ | exact ⟨rfl, _, Eq.trans (World.drewN_drewN _ _ _) (congrArg (World.drewN _) (Nat.add_assoc _ _ _))⟩))))
       refine bodyPost_ret (results_list (rs := [.tmp 4, .tmp 5, .tmp 6, .tmp 7, .tmp 8]) rfl (by simp) (.tmp (.tmp (.tmp (.tmp (.tmp .nil)))))) rfl ?_
       exact ⟨by first | rfl | (simp <;> rfl) | (simp only [← hji9]; first | rfl | (simp <;> rfl)) | (simp [*] <;> rfl), by repeat (first | (with_reducible first | exact HB.out | apply ba_ | apply bn_ | apply bd_ | refine below_set ?_ GE298.out) | exact HB.out)⟩
      ·rw [if_neg c10] at H
       have c10b0 : ((Int.tmod t301 t299) == 0) = false := beq_eq_false_iff_ne.mpr c10
       have c10b1 : ((Int.tmod t301 t299) != 0) = true := bne_iff_ne.mpr c10
       simp only [Option.some.injEq, Prod.mk.injEq] at H
       obtain ⟨rfl, rfl, rfl, rfl, rfl⟩ := H
       go_enter Try.func76, Try.ntmps76
       go_wp2_with (first | ((with_reducible refine gate_dst (N := 3) rfl ?_); refine box_event ?hg (N := 3) ?hd (cs := #[.int .u64 a1_0, .int .u64 a1_1]) (t := 34) ?hr ?_; (case hd => rfl); (case hg => rfl); (case hr => first | (go_simp; done) | (go_simp; rfl)); intro gb298 hg w13 hbox hb; have n0_ := ak_ (below_step (by repeat (first | (with_reducible first | exact HB.out | apply ba_ | apply bn_ | apply bd_) | exact HB.out)) hb); have n1_ := ak_ (hbox); have n2_ := ak_ ((by rw [hg]; exact (below_size (by repeat (first | (with_reducible first | exact HB.out | apply ba_ | apply bn_ | apply bd_) | exact HB.out))) : w.heap.size ≤ gb298)); have n3_ := ak_ ((by rw [hg]; exact (below_size (by repeat (first | (with_reducible first | exact HB.out | apply ba_ | apply bn_ | apply bd_) | exact HB.out))) : w.heap.size ≤ gb298)); clear HB; have HB := n0_; have BK298 := n1_; have GW298 := n2_; have GE298 := n3_; clear n0_ n1_ n2_ n3_; clear hb hbox hg) | (go_at_call 33; (with_reducible refine (sub_Step.calls k a0 t299 t300 _ A3.out).mono ?_); rintro e w' ⟨rfl, ⟨nd, rfl⟩⟩; (try first | exact ⟨rfl, _, World.drewN_drewN _ _ _⟩ | exact ⟨rfl, _, Eq.trans (World.drewN_drewN _ _ _) (congrArg (World.drewN _) (Nat.add_assoc _ _ _))⟩); have hcz14_0 : w13.cell? ⟨gb298, 0, none⟩ = some (.int .u64 a1_0) := (blk_cell BK298.out 0).trans rfl; have hcz14_1 : w13.cell? ⟨gb298, 1, none⟩ = some (.int .u64 a1_1) := (blk_cell BK298.out 1).trans rfl; have hfz14_0 := blk_frozen BK298.out 0; have hfz14_1 := blk_frozen BK298.out 1) | (go_at_call 60; (with_reducible refine (node_Depth.calls k a0 a1_0 t301 t302 _ A5.out).mono ?_); rintro e w' ⟨rfl, ⟨nd, rfl⟩⟩; (try first | exact ⟨rfl, _, World.drewN_drewN _ _ _⟩ | exact ⟨rfl, _, Eq.trans (World.drewN_drewN _ _ _) (congrArg (World.drewN _) (Nat.add_assoc _ _ _))⟩)))
       repeat (go_quiet (first | ((with_reducible refine gate_dst (N := 3) rfl ?_); refine box_event ?hg (N := 3) ?hd (cs := #[.int .u64 a1_0, .int .u64 a1_1]) (t := 34) ?hr ?_; (case hd => rfl); (case hg => rfl); (case hr => first | (go_simp; done) | (go_simp; rfl)); intro gb298 hg w13 hbox hb; have n0_ := ak_ (below_step (by repeat (first | (with_reducible first | exact HB.out | apply ba_ | apply bn_ | apply bd_) | exact HB.out)) hb); have n1_ := ak_ (hbox); have n2_ := ak_ ((by rw [hg]; exact (below_size (by repeat (first | (with_reducible first | exact HB.out | apply ba_ | apply bn_ | apply bd_) | exact HB.out))) : w.heap.size ≤ gb298)); have n3_ := ak_ ((by rw [hg]; exact (below_size (by repeat (first | (with_reducible first | exact HB.out | apply ba_ | apply bn_ | apply bd_) | exact HB.out))) : w.heap.size ≤ gb298)); clear HB; have HB := n0_; have BK298 := n1_; have GW298 := n2_; have GE298 := n3_; clear n0_ n1_ n2_ n3_; clear hb hbox hg) | (go_at_call 33; (with_reducible refine (sub_Step.calls k a0 t299 t300 _ A3.out).mono ?_); rintro e w' ⟨rfl, ⟨nd, rfl⟩⟩; (try first | exact ⟨rfl, _, World.drewN_drewN _ _ _⟩ | exact ⟨rfl, _, Eq.trans (World.drewN_drewN _ _ _) (congrArg (World.drewN _) (Nat.add_assoc _ _ _))⟩); have hcz14_0 : w13.cell? ⟨gb298, 0, none⟩ = some (.int .u64 a1_0) := (blk_cell BK298.out 0).trans rfl; have hcz14_1 : w13.cell? ⟨gb298, 1, none⟩ = some (.int .u64 a1_1) := (blk_cell BK298.out 1).trans rfl; have hfz14_0 := blk_frozen BK298.out 0; have hfz14_1 := blk_frozen BK298.out 1) | (go_at_call 60; (with_reducible refine (node_Depth.calls k a0 a1_0 t301 t302 _ A5.out).mono ?_); rintro e w' ⟨rfl, ⟨nd, rfl⟩⟩; (try first | exact ⟨rfl, _, World.drewN_drewN _ _ _⟩ | exact ⟨rfl, _, Eq.trans (World.drewN_drewN _ _ _) (congrArg (World.drewN _) (Nat.add_assoc _ _ _))⟩))); try go_wp2_with (first | ((with_reducible refine gate_dst (N := 3) rfl ?_); refine box_event ?hg (N := 3) ?hd (cs := #[.int .u64 a1_0, .int .u64 a1_1]) (t := 34) ?hr ?_; (case hd => rfl); (case hg => rfl); (case hr => first | (go_simp; done) | (go_simp; rfl)); intro gb298 hg w13 hbox hb; have n0_ := ak_ (below_step (by repeat (first | (with_reducible first | exact HB.out | apply ba_ | apply bn_ | apply bd_) | exact HB.out)) hb); have n1_ := ak_ (hbox); have n2_ := ak_ ((by rw [hg]; exact (below_size (by repeat (first | (with_reducible first | exact HB.out | apply ba_ | apply bn_ | apply bd_) | exact HB.out))) : w.heap.size ≤ gb298)); have n3_ := ak_ ((by rw [hg]; exact (below_size (by repeat (first | (with_reducible first | exact HB.out | apply ba_ | apply bn_ | apply bd_) | exact HB.out))) : w.heap.size ≤ gb298)); clear HB; have HB := n0_; have BK298 := n1_; have GW298 := n2_; have GE298 := n3_; clear n0_ n1_ n2_ n3_; clear hb hbox hg) | (go_at_call 33; (with_reducible refine (sub_Step.calls k a0 t299 t300 _ A3.out).mono ?_); rintro e w' ⟨rfl, ⟨nd, rfl⟩⟩; (try first | exact ⟨rfl, _, World.drewN_drewN _ _ _⟩ | exact ⟨rfl, _, Eq.trans (World.drewN_drewN _ _ _) (congrArg (World.drewN _) (Nat.add_assoc _ _ _))⟩); have hcz14_0 : w13.cell? ⟨gb298, 0, none⟩ = some (.int .u64 a1_0) := (blk_cell BK298.out 0).trans rfl; have hcz14_1 : w13.cell? ⟨gb298, 1, none⟩ = some (.int .u64 a1_1) := (blk_cell BK298.out 1).trans rfl; have hfz14_0 := blk_frozen BK298.out 0; have hfz14_1 := blk_frozen BK298.out 1) | (go_at_call 60; (with_reducible refine (node_Depth.calls k a0 a1_0 t301 t302 _ A5.out).mono ?_); rintro e w' ⟨rfl, ⟨nd, rfl⟩⟩; (try first | exact ⟨rfl, _, World.drewN_drewN _ _ _⟩ | exact ⟨rfl, _, Eq.trans (World.drewN_drewN _ _ _) (congrArg (World.drewN _) (Nat.add_assoc _ _ _))⟩))))
       refine bodyPost_ret (results_list (rs := [.tmp 4, .tmp 5, .tmp 6, .tmp 7, .tmp 8]) rfl (by simp) (.tmp (.tmp (.tmp (.tmp (.tmp .nil)))))) rfl ?_
       exact ⟨by first | rfl | (simp <;> rfl) | (simp only [← hji9]; first | rfl | (simp <;> rfl)) | (simp [*] <;> rfl), by repeat (first | (with_reducible first | exact HB.out | apply ba_ | apply bn_ | apply bd_ | refine below_set ?_ GE298.out) | exact HB.out)⟩
    ·rw [if_neg c7] at H
     have c7b0 : (a1_1 == 0) = false := beq_eq_false_iff_ne.mpr c7
     have c7b1 : (a1_1 != 0) = true := bne_iff_ne.mpr c7
     replace H := Option.bind_eq_some_iff.mp H
     obtain ⟨⟨t303, t304⟩, A150, H⟩ := H
     replace H : (if t299 = 0 then (none) else (if (Int.tmod t301 t299) = 0 then (some (t301, t303, mn (wrap64 ((wrap64 ((wrap64 (Int.tdiv t301 t299)) + 1)) * t299)) a0, true, t304)) else (some (t301, t303, mn (wrap64 ((wrap64 ((wrap64 (Int.tdiv t301 t299)) + 1)) * t299)) a0, (t301 == a0), t304)))) = some (r1, r2, r3, r4, r5) := H
     have A15 := ak_ A150
     clear A150
     by_cases c16 : t299 = 0
     ·rw [if_pos c16] at H
      exact absurd H (by simp)
     ·rw [if_neg c16] at H
      have c16b0 : (t299 == 0) = false := beq_eq_false_iff_ne.mpr c16
      have c16b1 : (t299 != 0) = true := bne_iff_ne.mpr c16
      obtain ⟨ji17, hji17⟩ : ∃ j_ : Int, (mn (wrap64 ((wrap64 ((wrap64 (Int.tdiv t301 t299)) + 1)) * t299)) a0) = j_ := ⟨_, rfl⟩
      replace H : (if (Int.tmod t301 t299) = 0 then (some (t301, t303, ji17, true, t304)) else (some (t301, t303, ji17, (t301 == a0), t304))) = some (r1, r2, r3, r4, r5) := by first | (rw [hji17] at H; exact H) | (simp only [hji17] at H ⊢; exact H)
      (try rw [hji17] at A3)
      (try rw [hji17] at A5)
      (try rw [hji17] at A15)
      have hji17_ : (if a0 < (wrap64 ((wrap64 ((wrap64 (Int.tdiv t301 t299)) + 1)) * t299)) then a0 else (wrap64 ((wrap64 ((wrap64 (Int.tdiv t301 t299)) + 1)) * t299))) = ji17 := hji17
      by_cases c18 : (Int.tmod t301 t299) = 0
      ·rw [if_pos c18] at H
       have c18b0 : ((Int.tmod t301 t299) == 0) = true := beq_iff_eq.mpr c18
       have c18b1 : ((Int.tmod t301 t299) != 0) = false := bne_eq_false_iff_eq.mpr c18
       clear c18
       simp only [Option.some.injEq, Prod.mk.injEq] at H
       obtain ⟨rfl, rfl, rfl, rfl, rfl⟩ := H
       go_enter Try.func76, Try.ntmps76
       go_wp2_with (first | ((with_reducible refine gate_dst (N := 3) rfl ?_); refine box_event ?hg (N := 3) ?hd (cs := #[.int .u64 a1_0, .int .u64 a1_1]) (t := 34) ?hr ?_; (case hd => rfl); (case hg => rfl); (case hr => first | (go_simp; done) | (go_simp; rfl)); intro gb298 hg w19 hbox hb; have n0_ := ak_ (below_step (by repeat (first | (with_reducible first | exact HB.out | apply ba_ | apply bn_ | apply bd_) | exact HB.out)) hb); have n1_ := ak_ (hbox); have n2_ := ak_ ((by rw [hg]; exact (below_size (by repeat (first | (with_reducible first | exact HB.out | apply ba_ | apply bn_ | apply bd_) | exact HB.out))) : w.heap.size ≤ gb298)); have n3_ := ak_ ((by rw [hg]; exact (below_size (by repeat (first | (with_reducible first | exact HB.out | apply ba_ | apply bn_ | apply bd_) | exact HB.out))) : w.heap.size ≤ gb298)); clear HB; have HB := n0_; have BK298 := n1_; have GW298 := n2_; have GE298 := n3_; clear n0_ n1_ n2_ n3_; clear hb hbox hg) | (go_at_call 33; (with_reducible refine (sub_Step.calls k a0 t299 t300 _ A3.out).mono ?_); rintro e w' ⟨rfl, ⟨nd, rfl⟩⟩; (try first | exact ⟨rfl, _, World.drewN_drewN _ _ _⟩ | exact ⟨rfl, _, Eq.trans (World.drewN_drewN _ _ _) (congrArg (World.drewN _) (Nat.add_assoc _ _ _))⟩); have hcz20_0 : w19.cell? ⟨gb298, 0, none⟩ = some (.int .u64 a1_0) := (blk_cell BK298.out 0).trans rfl; have hcz20_1 : w19.cell? ⟨gb298, 1, none⟩ = some (.int .u64 a1_1) := (blk_cell BK298.out 1).trans rfl; have hfz20_0 := blk_frozen BK298.out 0; have hfz20_1 := blk_frozen BK298.out 1) | (go_at_call 60; (with_reducible refine (node_Depth.calls k a0 a1_0 t301 t302 _ A5.out).mono ?_); rintro e w' ⟨rfl, ⟨nd, rfl⟩⟩; (try first | exact ⟨rfl, _, World.drewN_drewN _ _ _⟩ | exact ⟨rfl, _, Eq.trans (World.drewN_drewN _ _ _) (congrArg (World.drewN _) (Nat.add_assoc _ _ _))⟩)) | (go_at_call 60; (with_reducible refine (node_Depth.calls k a0 a1_1 t303 t304 _ A15.out).mono ?_); rintro e w' ⟨rfl, ⟨nd, rfl⟩⟩; (try first | exact ⟨rfl, _, World.drewN_drewN _ _ _⟩ | exact ⟨rfl, _, Eq.trans (World.drewN_drewN _ _ _) (congrArg (World.drewN _) (Nat.add_assoc _ _ _))⟩)))
       repeat (go_quiet (first | ((with_reducible refine gate_dst (N := 3) rfl ?_); refine box_event ?hg (N := 3) ?hd (cs := #[.int .u64 a1_0, .int .u64 a1_1]) (t := 34) ?hr ?_; (case hd => rfl); (case hg => rfl); (case hr => first | (go_simp; done) | (go_simp; rfl)); intro gb298 hg w19 hbox hb; have n0_ := ak_ (below_step (by repeat (first | (with_reducible first | exact HB.out | apply ba_ | apply bn_ | apply bd_) | exact HB.out)) hb); have n1_ := ak_ (hbox); have n2_ := ak_ ((by rw [hg]; exact (below_size (by repeat (first | (with_reducible first | exact HB.out | apply ba_ | apply bn_ | apply bd_) | exact HB.out))) : w.heap.size ≤ gb298)); have n3_ := ak_ ((by rw [hg]; exact (below_size (by repeat (first | (with_reducible first | exact HB.out | apply ba_ | apply bn_ | apply bd_) | exact HB.out))) : w.heap.size ≤ gb298)); clear HB; have HB := n0_; have BK298 := n1_; have GW298 := n2_; have GE298 := n3_; clear n0_ n1_ n2_ n3_; clear hb hbox hg) | (go_at_call 33; (with_reducible refine (sub_Step.calls k a0 t299 t300 _ A3.out).mono ?_); rintro e w' ⟨rfl, ⟨nd, rfl⟩⟩; (try first | exact ⟨rfl, _, World.drewN_drewN _ _ _⟩ | exact ⟨rfl, _, Eq.trans (World.drewN_drewN _ _ _) (congrArg (World.drewN _) (Nat.add_assoc _ _ _))⟩); have hcz20_0 : w19.cell? ⟨gb298, 0, none⟩ = some (.int .u64 a1_0) := (blk_cell BK298.out 0).trans rfl; have hcz20_1 : w19.cell? ⟨gb298, 1, none⟩ = some (.int .u64 a1_1) := (blk_cell BK298.out 1).trans rfl; have hfz20_0 := blk_frozen BK298.out 0; have hfz20_1 := blk_frozen BK298.out 1) | (go_at_call 60; (with_reducible refine (node_Depth.calls k a0 a1_0 t301 t302 _ A5.out).mono ?_); rintro e w' ⟨rfl, ⟨nd, rfl⟩⟩; (try first | exact ⟨rfl, _, World.drewN_drewN _ _ _⟩ | exact ⟨rfl, _, Eq.trans (World.drewN_drewN _ _ _) (congrArg (World.drewN _) (Nat.add_assoc _ _ _))⟩)) | (go_at_call 60; (with_reducible refine (node_Depth.calls k a0 a1_1 t303 t304 _ A15.out).mono ?_); rintro e w' ⟨rfl, ⟨nd, rfl⟩⟩; (try first | exact ⟨rfl, _, World.drewN_drewN _ _ _⟩ | exact ⟨rfl, _, Eq.trans (World.drewN_drewN _ _ _) (congrArg (World.drewN _) (Nat.add_assoc _ _ _))⟩))); try go_wp2_with (first | ((with_reducible refine gate_dst (N := 3) rfl ?_); refine box_event ?hg (N := 3) ?hd (cs := #[.int .u64 a1_0, .int .u64 a1_1]) (t := 34) ?hr ?_; (case hd => rfl); (case hg => rfl); (case hr => first | (go_simp; done) | (go_simp; rfl)); intro gb298 hg w19 hbox hb; have n0_ := ak_ (below_step (by repeat (first | (with_reducible first | exact HB.out | apply ba_ | apply bn_ | apply bd_) | exact HB.out)) hb); have n1_ := ak_ (hbox); have n2_ := ak_ ((by rw [hg]; exact (below_size (by repeat (first | (with_reducible first | exact HB.out | apply ba_ | apply bn_ | apply bd_) | exact HB.out))) : w.heap.size ≤ gb298)); have n3_ := ak_ ((by rw [hg]; exact (below_size (by repeat (first | (with_reducible first | exact HB.out | apply ba_ | apply bn_ | apply bd_) | exact HB.out))) : w.heap.size ≤ gb298)); clear HB; have HB := n0_; have BK298 := n1_; have GW298 := n2_; have GE298 := n3_; clear n0_ n1_ n2_ n3_; clear hb hbox hg) | (go_at_call 33; (with_reducible refine (sub_Step.calls k a0 t299 t300 _ A3.out).mono ?_); rintro e w' ⟨rfl, ⟨nd, rfl⟩⟩; (try first | exact ⟨rfl, _, World.drewN_drewN _ _ _⟩ | exact ⟨rfl, _, Eq.trans (World.drewN_drewN _ _ _) (congrArg (World.drewN _) (Nat.add_assoc _ _ _))⟩); have hcz20_0 : w19.cell? ⟨gb298, 0, none⟩ = some (.int .u64 a1_0) := (blk_cell BK298.out 0).trans rfl; have hcz20_1 : w19.cell? ⟨gb298, 1, none⟩ = some (.int .u64 a1_1) := (blk_cell BK298.out 1).trans rfl; have hfz20_0 := blk_frozen BK298.out 0; have hfz20_1 := blk_frozen BK298.out 1) | (go_at_call 60; (with_reducible refine (node_Depth.calls k a0 a1_0 t301 t302 _ A5.out).mono ?_); rintro e w' ⟨rfl, ⟨nd, rfl⟩⟩; (try first | exact ⟨rfl, _, World.drewN_drewN _ _ _⟩ | exact ⟨rfl, _, Eq.trans (World.drewN_drewN _ _ _) (congrArg (World.drewN _) (Nat.add_assoc _ _ _))⟩)) | (go_at_call 60; (with_reducible refine (node_Depth.calls k a0 a1_1 t303 t304 _ A15.out).mono ?_); rintro e w' ⟨rfl, ⟨nd, rfl⟩⟩; (try first | exact ⟨rfl, _, World.drewN_drewN _ _ _⟩ | exact ⟨rfl, _, Eq.trans (World.drewN_drewN _ _ _) (congrArg (World.drewN _) (Nat.add_assoc _ _ _))⟩))))
       refine bodyPost_ret (results_list (rs := [.tmp 4, .tmp 5, .tmp 6, .tmp 7, .tmp 8]) rfl (by simp) (.tmp (.tmp (.tmp (.tmp (.tmp .nil)))))) rfl ?_
       exact ⟨by first | rfl | (simp <;> rfl) | (simp only [← hji17]; first | rfl | (simp <;> rfl)) | (simp [*] <;> rfl), by repeat (first | (with_reducible first | exact HB.out | apply ba_ | apply bn_ | apply bd_ | refine below_set ?_ GE298.out) | exact HB.out)⟩
      ·rw [if_neg c18] at H
       have c18b0 : ((Int.tmod t301 t299) == 0) = false := beq_eq_false_iff_ne.mpr c18
       have c18b1 : ((Int.tmod t301 t299) != 0) = true := bne_iff_ne.mpr c18
       simp only [Option.some.injEq, Prod.mk.injEq] at H
       obtain ⟨rfl, rfl, rfl, rfl, rfl⟩ := H
       go_enter Try.func76, Try.ntmps76
       go_wp2_with (first | ((with_reducible refine gate_dst (N := 3) rfl ?_); refine box_event ?hg (N := 3) ?hd (cs := #[.int .u64 a1_0, .int .u64 a1_1]) (t := 34) ?hr ?_; (case hd => rfl); (case hg => rfl); (case hr => first | (go_simp; done) | (go_simp; rfl)); intro gb298 hg w21 hbox hb; have n0_ := ak_ (below_step (by repeat (first | (with_reducible first | exact HB.out | apply ba_ | apply bn_ | apply bd_) | exact HB.out)) hb); have n1_ := ak_ (hbox); have n2_ := ak_ ((by rw [hg]; exact (below_size (by repeat (first | (with_reducible first | exact HB.out | apply ba_ | apply bn_ | apply bd_) | exact HB.out))) : w.heap.size ≤ gb298)); have n3_ := ak_ ((by rw [hg]; exact (below_size (by repeat (first | (with_reducible first | exact HB.out | apply ba_ | apply bn_ | apply bd_) | exact HB.out))) : w.heap.size ≤ gb298)); clear HB; have HB := n0_; have BK298 := n1_; have GW298 := n2_; have GE298 := n3_; clear n0_ n1_ n2_ n3_; clear hb hbox hg) | (go_at_call 33; (with_reducible refine (sub_Step.calls k a0 t299 t300 _ A3.out).mono ?_); rintro e w' ⟨rfl, ⟨nd, rfl⟩⟩; (try first | exact ⟨rfl, _, World.drewN_drewN _ _ _⟩ | exact ⟨rfl, _, Eq.trans (World.drewN_drewN _ _ _) (congrArg (World.drewN _) (Nat.add_assoc _ _ _))⟩); have hcz22_0 : w21.cell? ⟨gb298, 0, none⟩ = some (.int .u64 a1_0) := (blk_cell BK298.out 0).trans rfl; have hcz22_1 : w21.cell? ⟨gb298, 1, none⟩ = some (.int .u64 a1_1) := (blk_cell BK298.out 1).trans rfl; have hfz22_0 := blk_frozen BK298.out 0; have hfz22_1 := blk_frozen BK298.out 1) | (go_at_call 60; (with_reducible refine (node_Depth.calls k a0 a1_0 t301 t302 _ A5.out).mono ?_); rintro e w' ⟨rfl, ⟨nd, rfl⟩⟩; (try first | exact ⟨rfl, _, World.drewN_drewN _ _ _⟩ | exact ⟨rfl, _, Eq.trans (World.drewN_drewN _ _ _) (congrArg (World.drewN _) (Nat.add_assoc _ _ _))⟩)) | (go_at_call 60; (with_reducible refine (node_Depth.calls k a0 a1_1 t303 t304 _ A15.out).mono ?_); rintro e w' ⟨rfl, ⟨nd, rfl⟩⟩; (try first | exact ⟨rfl, _, World.drewN_drewN _ _ _⟩ | exact ⟨rfl, _, Eq.trans (World.drewN_drewN _ _ _) (congrArg (World.drewN _) (Nat.add_assoc _ _ _))⟩)))
       repeat (go_quiet (first | ((with_reducible refine gate_dst (N := 3) rfl ?_); refine box_event ?hg (N := 3) ?hd (cs := #[.int .u64 a1_0, .int .u64 a1_1]) (t := 34) ?hr ?_; (case hd => rfl); (case hg => rfl); (case hr => first | (go_simp; done) | (go_simp; rfl)); intro gb298 hg w21 hbox hb; have n0_ := ak_ (below_step (by repeat (first | (with_reducible first | exact HB.out | apply ba_ | apply bn_ | apply bd_) | exact HB.out)) hb); have n1_ := ak_ (hbox); have n2_ := ak_ ((by rw [hg]; exact (below_size (by repeat (first | (with_reducible first | exact HB.out | apply ba_ | apply bn_ | apply bd_) | exact HB.out))) : w.heap.size ≤ gb298)); have n3_ := ak_ ((by rw [hg]; exact (below_size (by repeat (first | (with_reducible first | exact HB.out | apply ba_ | apply bn_ | apply bd_) | exact HB.out))) : w.heap.size ≤ gb298)); clear HB; have HB := n0_; have BK298 := n1_; have GW298 := n2_; have GE298 := n3_; clear n0_ n1_ n2_ n3_; clear hb hbox hg) | (go_at_call 33; (with_reducible refine (sub_Step.calls k a0 t299 t300 _ A3.out).mono ?_); rintro e w' ⟨rfl, ⟨nd, rfl⟩⟩; (try first | exact ⟨rfl, _, World.drewN_drewN _ _ _⟩ | exact ⟨rfl, _, Eq.trans (World.drewN_drewN _ _ _) (congrArg (World.drewN _) (Nat.add_assoc _ _ _))⟩); have hcz22_0 : w21.cell? ⟨gb298, 0, none⟩ = some (.int .u64 a1_0) := (blk_cell BK298.out 0).trans rfl; have hcz22_1 : w21.cell? ⟨gb298, 1, none⟩ = some (.int .u64 a1_1) := (blk_cell BK298.out 1).trans rfl; have hfz22_0 := blk_frozen BK298.out 0; have hfz22_1 := blk_frozen BK298.out 1) | (go_at_call 60; (with_reducible refine (node_Depth.calls k a0 a1_0 t301 t302 _ A5.out).mono ?_); rintro e w' ⟨rfl, ⟨nd, rfl⟩⟩; (try first | exact ⟨rfl, _, World.drewN_drewN _ _ _⟩ | exact ⟨rfl, _, Eq.trans (World.drewN_drewN _ _ _) (congrArg (World.drewN _) (Nat.add_assoc _ _ _))⟩)) | (go_at_call 60; (with_reducible refine (node_Depth.calls k a0 a1_1 t303 t304 _ A15.out).mono ?_); rintro e w' ⟨rfl, ⟨nd, rfl⟩⟩; (try first | exact ⟨rfl, _, World.drewN_drewN _ _ _⟩ | exact ⟨rfl, _, Eq.trans (World.drewN_drewN _ _ _) (congrArg (World.drewN _) (Nat.add_assoc _ _ _))⟩))); try go_wp2_with (first | ((with_reducible refine gate_dst (N := 3) rfl ?_); refine box_event ?hg (N := 3) ?hd (cs := #[.int .u64 a1_0, .int .u64 a1_1]) (t := 34) ?hr ?_; (case hd => rfl); (case hg => rfl); (case hr => first | (go_simp; done) | (go_simp; rfl)); intro gb298 hg w21 hbox hb; have n0_ := ak_ (below_step (by repeat (first | (with_reducible first | exact HB.out | apply ba_ | apply bn_ | apply bd_) | exact HB.out)) hb); have n1_ := ak_ (hbox); have n2_ := ak_ ((by rw [hg]; exact (below_size (by repeat (first | (with_reducible first | exact HB.out | apply ba_ | apply bn_ | apply bd_) | exact HB.out))) : w.heap.size ≤ gb298)); have n3_ := ak_ ((by rw [hg]; exact (below_size (by repeat (first | (with_reducible first | exact HB.out | apply ba_ | apply bn_ | apply bd_) | exact HB.out))) : w.heap.size ≤ gb298)); clear HB; have HB := n0_; have BK298 := n1_; have GW298 := n2_; have GE298 := n3_; clear n0_ n1_ n2_ n3_; clear hb hbox hg) | (go_at_call 33; (with_reducible refine (sub_Step.calls k a0 t299 t300 _ A3.out).mono ?_); rintro e w' ⟨rfl, ⟨nd, rfl⟩⟩; (try first | exact ⟨rfl, _, World.drewN_drewN _ _ _⟩ | exact ⟨rfl, _, Eq.trans (World.drewN_drewN _ _ _) (congrArg (World.drewN _) (Nat.add_assoc _ _ _))⟩); have hcz22_0 : w21.cell? ⟨gb298, 0, none⟩ = some (.int .u64 a1_0) := (blk_cell BK298.out 0).trans rfl; have hcz22_1 : w21.cell? ⟨gb298, 1, none⟩ = some (.int .u64 a1_1) := (blk_cell BK298.out 1).trans rfl; have hfz22_0 := blk_frozen BK298.out 0; have hfz22_1 := blk_frozen BK298.out 1) | (go_at_call 60; (with_reducible refine (node_Depth.calls k a0 a1_0 t301 t302 _ A5.out).mono ?_); rintro e w' ⟨rfl, ⟨nd, rfl⟩⟩; (try first | exact ⟨rfl, _, World.drewN_drewN _ _ _⟩ | exact ⟨rfl, _, Eq.trans (World.drewN_drewN _ _ _) (congrArg (World.drewN _) (Nat.add_assoc _ _ _))⟩)) | (go_at_call 60; (with_reducible refine (node_Depth.calls k a0 a1_1 t303 t304 _ A15.out).mono ?_); rintro e w' ⟨rfl, ⟨nd, rfl⟩⟩; (try first | exact ⟨rfl, _, World.drewN_drewN _ _ _⟩ | exact ⟨rfl, _, Eq.trans (World.drewN_drewN _ _ _) (congrArg (World.drewN _) (Nat.add_assoc _ _ _))⟩))))
       refine bodyPost_ret (results_list (rs := [.tmp 4, .tmp 5, .tmp 6, .tmp 7, .tmp 8]) rfl (by simp) (.tmp (.tmp (.tmp (.tmp (.tmp .nil)))))) rfl ?_
       exact ⟨by first | rfl | (simp <;> rfl) | (simp only [← hji17]; first | rfl | (simp <;> rfl)) | (simp [*] <;> rfl), by repeat (first | (with_reducible first | exact HB.out | apply ba_ | apply bn_ | apply bd_ | refine below_set ?_ GE298.out) | exact HB.out)⟩
   ·rw [if_neg c6] at H
    have c6b0 : (t302 == 0) = false := beq_eq_false_iff_ne.mpr c6
    have c6b1 : (t302 != 0) = true := bne_iff_ne.mpr c6
    by_cases c23 : t299 = 0
    ·rw [if_pos c23] at H
     exact absurd H (by simp)
    ·rw [if_neg c23] at H
     have c23b0 : (t299 == 0) = false := beq_eq_false_iff_ne.mpr c23
     have c23b1 : (t299 != 0) = true := bne_iff_ne.mpr c23
     obtain ⟨ji24, hji24⟩ : ∃ j_ : Int, (mn (wrap64 ((wrap64 ((wrap64 (Int.tdiv t301 t299)) + 1)) * t299)) a0) = j_ := ⟨_, rfl⟩
     replace H : (if (Int.tmod t301 t299) = 0 then (some (t301, 0, ji24, true, t302)) else (some (t301, 0, ji24, (t301 == a0), t302))) = some (r1, r2, r3, r4, r5) := by first | (rw [hji24] at H; exact H) | (simp only [hji24] at H ⊢; exact H)
     (try rw [hji24] at A3)
     (try rw [hji24] at A5)
     have hji24_ : (if a0 < (wrap64 ((wrap64 ((wrap64 (Int.tdiv t301 t299)) + 1)) * t299)) then a0 else (wrap64 ((wrap64 ((wrap64 (Int.tdiv t301 t299)) + 1)) * t299))) = ji24 := hji24
     by_cases c25 : (Int.tmod t301 t299) = 0
     ·rw [if_pos c25] at H
      have c25b0 : ((Int.tmod t301 t299) == 0) = true := beq_iff_eq.mpr c25
      have c25b1 : ((Int.tmod t301 t299) != 0) = false := bne_eq_false_iff_eq.mpr c25
      clear c25
      simp only [Option.some.injEq, Prod.mk.injEq] at H
      obtain ⟨rfl, rfl, rfl, rfl, rfl⟩ := H
      go_enter Try.func76, Try.ntmps76
      go_wp2_with (first | ((with_reducible refine gate_dst (N := 3) rfl ?_); refine box_event ?hg (N := 3) ?hd (cs := #[.int .u64 a1_0, .int .u64 a1_1]) (t := 34) ?hr ?_; (case hd => rfl); (case hg => rfl); (case hr => first | (go_simp; done) | (go_simp; rfl)); intro gb298 hg w26 hbox hb; have n0_ := ak_ (below_step (by repeat (first | (with_reducible first | exact HB.out | apply ba_ | apply bn_ | apply bd_) | exact HB.out)) hb); have n1_ := ak_ (hbox); have n2_ := ak_ ((by rw [hg]; exact (below_size (by repeat (first | (with_reducible first | exact HB.out | apply ba_ | apply bn_ | apply bd_) | exact HB.out))) : w.heap.size ≤ gb298)); have n3_ := ak_ ((by rw [hg]; exact (below_size (by repeat (first | (with_reducible first | exact HB.out | apply ba_ | apply bn_ | apply bd_) | exact HB.out))) : w.heap.size ≤ gb298)); clear HB; have HB := n0_; have BK298 := n1_; have GW298 := n2_; have GE298 := n3_; clear n0_ n1_ n2_ n3_; clear hb hbox hg) | (go_at_call 33; (with_reducible refine (sub_Step.calls k a0 t299 t300 _ A3.out).mono ?_); rintro e w' ⟨rfl, ⟨nd, rfl⟩⟩; (try first | exact ⟨rfl, _, World.drewN_drewN _ _ _⟩ | exact ⟨rfl, _, Eq.trans (World.drewN_drewN _ _ _) (congrArg (World.drewN _) (Nat.add_assoc _ _ _))⟩); have hcz27_0 : w26.cell? ⟨gb298, 0, none⟩ = some (.int .u64 a1_0) := (blk_cell BK298.out 0).trans rfl; have hcz27_1 : w26.cell? ⟨gb298, 1, none⟩ = some (.int .u64 a1_1) := (blk_cell BK298.out 1).trans rfl; have hfz27_0 := blk_frozen BK298.out 0; have hfz27_1 := blk_frozen BK298.out 1) | (go_at_call 60; (with_reducible refine (node_Depth.calls k a0 a1_0 t301 t302 _ A5.out).mono ?_); rintro e w' ⟨rfl, ⟨nd, rfl⟩⟩; (try first | exact ⟨rfl, _, World.drewN_drewN _ _ _⟩ | exact ⟨rfl, _, Eq.trans (World.drewN_drewN _ _ _) (congrArg (World.drewN _) (Nat.add_assoc _ _ _))⟩)))
      repeat (go_quiet (first | ((with_reducible refine gate_dst (N := 3) rfl ?_); refine box_event ?hg (N := 3) ?hd (cs := #[.int .u64 a1_0, .int .u64 a1_1]) (t := 34) ?hr ?_; (case hd => rfl); (case hg => rfl); (case hr => first | (go_simp; done) | (go_simp; rfl)); intro gb298 hg w26 hbox hb; have n0_ := ak_ (below_step (by repeat (first | (with_reducible first | exact HB.out | apply ba_ | apply bn_ | apply bd_) | exact HB.out)) hb); have n1_ := ak_ (hbox); have n2_ := ak_ ((by rw [hg]; exact (below_size (by repeat (first | (with_reducible first | exact HB.out | apply ba_ | apply bn_ | apply bd_) | exact HB.out))) : w.heap.size ≤ gb298)); have n3_ := ak_ ((by rw [hg]; exact (below_size (by repeat (first | (with_reducible first | exact HB.out | apply ba_ | apply bn_ | apply bd_) | exact HB.out))) : w.heap.size ≤ gb298)); clear HB; have HB := n0_; have BK298 := n1_; have GW298 := n2_; have GE298 := n3_; clear n0_ n1_ n2_ n3_; clear hb hbox hg) | (go_at_call 33; (with_reducible refine (sub_Step.calls k a0 t299 t300 _ A3.out).mono ?_); rintro e w' ⟨rfl, ⟨nd, rfl⟩⟩; (try first | exact ⟨rfl, _, World.drewN_drewN _ _ _⟩ | exact ⟨rfl, _, Eq.trans (World.drewN_drewN _ _ _) (congrArg (World.drewN _) (Nat.add_assoc _ _ _))⟩); have hcz27_0 : w26.cell? ⟨gb298, 0, none⟩ = some (.int .u64 a1_0) := (blk_cell BK298.out 0).trans rfl; have hcz27_1 : w26.cell? ⟨gb298, 1, none⟩ = some (.int .u64 a1_1) := (blk_cell BK298.out 1).trans rfl; have hfz27_0 := blk_frozen BK298.out 0; have hfz27_1 := blk_frozen BK298.out 1) | (go_at_call 60; (with_reducible refine (node_Depth.calls k a0 a1_0 t301 t302 _ A5.out).mono ?_); rintro e w' ⟨rfl, ⟨nd, rfl⟩⟩; (try first | exact ⟨rfl, _, World.drewN_drewN _ _ _⟩ | exact ⟨rfl, _, Eq.trans (World.drewN_drewN _ _ _) (congrArg (World.drewN _) (Nat.add_assoc _ _ _))⟩))); try go_wp2_with (first | ((with_reducible refine gate_dst (N := 3) rfl ?_); refine box_event ?hg (N := 3) ?hd (cs := #[.int .u64 a1_0, .int .u64 a1_1]) (t := 34) ?hr ?_; (case hd => rfl); (case hg => rfl); (case hr => first | (go_simp; done) | (go_simp; rfl)); intro gb298 hg w26 hbox hb; have n0_ := ak_ (below_step (by repeat (first | (with_reducible first | exact HB.out | apply ba_ | apply bn_ | apply bd_) | exact HB.out)) hb); have n1_ := ak_ (hbox); have n2_ := ak_ ((by rw [hg]; exact (below_size (by repeat (first | (with_reducible first | exact HB.out | apply ba_ | apply bn_ | apply bd_) | exact HB.out))) : w.heap.size ≤ gb298)); have n3_ := ak_ ((by rw [hg]; exact (below_size (by repeat (first | (with_reducible first | exact HB.out | apply ba_ | apply bn_ | apply bd_) | exact HB.out))) : w.heap.size ≤ gb298)); clear HB; have HB := n0_; have BK298 := n1_; have GW298 := n2_; have GE298 := n3_; clear n0_ n1_ n2_ n3_; clear hb hbox hg) | (go_at_call 33; (with_reducible refine (sub_Step.calls k a0 t299 t300 _ A3.out).mono ?_); rintro e w' ⟨rfl, ⟨nd, rfl⟩⟩; (try first | exact ⟨rfl, _, World.drewN_drewN _ _ _⟩ | exact ⟨rfl, _, Eq.trans (World.drewN_drewN _ _ _) (congrArg (World.drewN _) (Nat.add_assoc _ _ _))⟩); have hcz27_0 : w26.cell? ⟨gb298, 0, none⟩ = some (.int .u64 a1_0) := (blk_cell BK298.out 0).trans rfl; have hcz27_1 : w26.cell? ⟨gb298, 1, none⟩ = some (.int .u64 a1_1) := (blk_cell BK298.out 1).trans rfl; have hfz27_0 := blk_frozen BK298.out 0; have hfz27_1 := blk_frozen BK298.out 1) | (go_at_call 60; (with_reducible refine (node_Depth.calls k a0 a1_0 t301 t302 _ A5.out).mono ?_); rintro e w' ⟨rfl, ⟨nd, rfl⟩⟩; (try first | exact ⟨rfl, _, World.drewN_drewN _ _ _⟩ | exact ⟨rfl, _, Eq.trans (World.drewN_drewN _ _ _) (congrArg (World.drewN _) (Nat.add_assoc _ _ _))⟩))))
      refine bodyPost_ret (results_list (rs := [.tmp 4, .tmp 5, .tmp 6, .tmp 7, .tmp 8]) rfl (by simp) (.tmp (.tmp (.tmp (.tmp (.tmp .nil)))))) rfl ?_
      exact ⟨by first | rfl | (simp <;> rfl) | (simp only [← hji24]; first | rfl | (simp <;> rfl)) | (simp [*] <;> rfl), by repeat (first | (with_reducible first | exact HB.out | apply ba_ | apply bn_ | apply bd_ | refine below_set ?_ GE298.out) | exact HB.out)⟩
     ·rw [if_neg c25] at H
      have c25b0 : ((Int.tmod t301 t299) == 0) = false := beq_eq_false_iff_ne.mpr c25
      have c25b1 : ((Int.tmod t301 t299) != 0) = true := bne_iff_ne.mpr c25
      simp only [Option.some.injEq, Prod.mk.injEq] at H
      obtain ⟨rfl, rfl, rfl, rfl, rfl⟩ := H
      go_enter Try.func76, Try.ntmps76
      go_wp2_with (first | ((with_reducible refine gate_dst (N := 3) rfl ?_); refine box_event ?hg (N := 3) ?hd (cs := #[.int .u64 a1_0, .int .u64 a1_1]) (t := 34) ?hr ?_; (case hd => rfl); (case hg => rfl); (case hr => first | (go_simp; done) | (go_simp; rfl)); intro gb298 hg w28 hbox hb; have n0_ := ak_ (below_step (by repeat (first | (with_reducible first | exact HB.out | apply ba_ | apply bn_ | apply bd_) | exact HB.out)) hb); have n1_ := ak_ (hbox); have n2_ := ak_ ((by rw [hg]; exact (below_size (by repeat (first | (with_reducible first | exact HB.out | apply ba_ | apply bn_ | apply bd_) | exact HB.out))) : w.heap.size ≤ gb298)); have n3_ := ak_ ((by rw [hg]; exact (below_size (by repeat (first | (with_reducible first | exact HB.out | apply ba_ | apply bn_ | apply bd_) | exact HB.out))) : w.heap.size ≤ gb298)); clear HB; have HB := n0_; have BK298 := n1_; have GW298 := n2_; have GE298 := n3_; clear n0_ n1_ n2_ n3_; clear hb hbox hg) | (go_at_call 33; (with_reducible refine (sub_Step.calls k a0 t299 t300 _ A3.out).mono ?_); rintro e w' ⟨rfl, ⟨nd, rfl⟩⟩; (try first | exact ⟨rfl, _, World.drewN_drewN _ _ _⟩ | exact ⟨rfl, _, Eq.trans (World.drewN_drewN _ _ _) (congrArg (World.drewN _) (Nat.add_assoc _ _ _))⟩); have hcz29_0 : w28.cell? ⟨gb298, 0, none⟩ = some (.int .u64 a1_0) := (blk_cell BK298.out 0).trans rfl; have hcz29_1 : w28.cell? ⟨gb298, 1, none⟩ = some (.int .u64 a1_1) := (blk_cell BK298.out 1).trans rfl; have hfz29_0 := blk_frozen BK298.out 0; have hfz29_1 := blk_frozen BK298.out 1) | (go_at_call 60; (with_reducible refine (node_Depth.calls k a0 a1_0 t301 t302 _ A5.out).mono ?_); rintro e w' ⟨rfl, ⟨nd, rfl⟩⟩; (try first | exact ⟨rfl, _, World.drewN_drewN _ _ _⟩ | exact ⟨rfl, _, Eq.trans (World.drewN_drewN _ _ _) (congrArg (World.drewN _) (Nat.add_assoc _ _ _))⟩)))
      repeat (go_quiet (first | ((with_reducible refine gate_dst (N := 3) rfl ?_); refine box_event ?hg (N := 3) ?hd (cs := #[.int .u64 a1_0, .int .u64 a1_1]) (t := 34) ?hr ?_; (case hd => rfl); (case hg => rfl); (case hr => first | (go_simp; done) | (go_simp; rfl)); intro gb298 hg w28 hbox hb; have n0_ := ak_ (below_step (by repeat (first | (with_reducible first | exact HB.out | apply ba_ | apply bn_ | apply bd_) | exact HB.out)) hb); have n1_ := ak_ (hbox); have n2_ := ak_ ((by rw [hg]; exact (below_size (by repeat (first | (with_reducible first | exact HB.out | apply ba_ | apply bn_ | apply bd_) | exact HB.out))) : w.heap.size ≤ gb298)); have n3_ := ak_ ((by rw [hg]; exact (below_size (by repeat (first | (with_reducible first | exact HB.out | apply ba_ | apply bn_ | apply bd_) | exact HB.out))) : w.heap.size ≤ gb298)); clear HB; have HB := n0_; have BK298 := n1_; have GW298 := n2_; have GE298 := n3_; clear n0_ n1_ n2_ n3_; clear hb hbox hg) | (go_at_call 33; (with_reducible refine (sub_Step.calls k a0 t299 t300 _ A3.out).mono ?_); rintro e w' ⟨rfl, ⟨nd, rfl⟩⟩; (try first | exact ⟨rfl, _, World.drewN_drewN _ _ _⟩ | exact ⟨rfl, _, Eq.trans (World.drewN_drewN _ _ _) (congrArg (World.drewN _) (Nat.add_assoc _ _ _))⟩); have hcz29_0 : w28.cell? ⟨gb298, 0, none⟩ = some (.int .u64 a1_0) := (blk_cell BK298.out 0).trans rfl; have hcz29_1 : w28.cell? ⟨gb298, 1, none⟩ = some (.int .u64 a1_1) := (blk_cell BK298.out 1).trans rfl; have hfz29_0 := blk_frozen BK298.out 0; have hfz29_1 := blk_frozen BK298.out 1) | (go_at_call 60; (with_reducible refine (node_Depth.calls k a0 a1_0 t301 t302 _ A5.out).mono ?_); rintro e w' ⟨rfl, ⟨nd, rfl⟩⟩; (try first | exact ⟨rfl, _, World.drewN_drewN _ _ _⟩ | exact ⟨rfl, _, Eq.trans (World.drewN_drewN _ _ _) (congrArg (World.drewN _) (Nat.add_assoc _ _ _))⟩))); try go_wp2_with (first | ((with_reducible refine gate_dst (N := 3) rfl ?_); refine box_event ?hg (N := 3) ?hd (cs := #[.int .u64 a1_0, .int .u64 a1_1]) (t := 34) ?hr ?_; (case hd => rfl); (case hg => rfl); (case hr => first | (go_simp; done) | (go_simp; rfl)); intro gb298 hg w28 hbox hb; have n0_ := ak_ (below_step (by repeat (first | (with_reducible first | exact HB.out | apply ba_ | apply bn_ | apply bd_) | exact HB.out)) hb); have n1_ := ak_ (hbox); have n2_ := ak_ ((by rw [hg]; exact (below_size (by repeat (first | (with_reducible first | exact HB.out | apply ba_ | apply bn_ | apply bd_) | exact HB.out))) : w.heap.size ≤ gb298)); have n3_ := ak_ ((by rw [hg]; exact (below_size (by repeat (first | (with_reducible first | exact HB.out | apply ba_ | apply bn_ | apply bd_) | exact HB.out))) : w.heap.size ≤ gb298)); clear HB; have HB := n0_; have BK298 := n1_; have GW298 := n2_; have GE298 := n3_; clear n0_ n1_ n2_ n3_; clear hb hbox hg) | (go_at_call 33; (with_reducible refine (sub_Step.calls k a0 t299 t300 _ A3.out).mono ?_); rintro e w' ⟨rfl, ⟨nd, rfl⟩⟩; (try first | exact ⟨rfl, _, World.drewN_drewN _ _ _⟩ | exact ⟨rfl, _, Eq.trans (World.drewN_drewN _ _ _) (congrArg (World.drewN _) (Nat.add_assoc _ _ _))⟩); have hcz29_0 : w28.cell? ⟨gb298, 0, none⟩ = some (.int .u64 a1_0) := (blk_cell BK298.out 0).trans rfl; have hcz29_1 : w28.cell? ⟨gb298, 1, none⟩ = some (.int .u64 a1_1) := (blk_cell BK298.out 1).trans rfl; have hfz29_0 := blk_frozen BK298.out 0; have hfz29_1 := blk_frozen BK298.out 1) | (go_at_call 60; (with_reducible refine (node_Depth.calls k a0 a1_0 t301 t302 _ A5.out).mono ?_); rintro e w' ⟨rfl, ⟨nd, rfl⟩⟩; (try first | exact ⟨rfl, _, World.drewN_drewN _ _ _⟩ | exact ⟨rfl, _, Eq.trans (World.drewN_drewN _ _ _) (congrArg (World.drewN _) (Nat.add_assoc _ _ _))⟩))))
      refine bodyPost_ret (results_list (rs := [.tmp 4, .tmp 5, .tmp 6, .tmp 7, .tmp 8]) rfl (by simp) (.tmp (.tmp (.tmp (.tmp (.tmp .nil)))))) rfl ?_
      exact ⟨by first | rfl | (simp <;> rfl) | (simp only [← hji24]; first | rfl | (simp <;> rfl)) | (simp [*] <;> rfl), by repeat (first | (with_reducible first | exact HB.out | apply ba_ | apply bn_ | apply bd_ | refine below_set ?_ GE298.out) | exact HB.out)⟩
  ·rw [if_neg c4] at H
   have c4b0 : (t300 == 0) = false := beq_eq_false_iff_ne.mpr c4
   have c4b1 : (t300 != 0) = true := bne_iff_ne.mpr c4
   simp only [Option.some.injEq, Prod.mk.injEq] at H
   obtain ⟨rfl, rfl, rfl, rfl, rfl⟩ := H
   go_enter Try.func76, Try.ntmps76
   go_wp2_with (first | ((with_reducible refine gate_dst (N := 3) rfl ?_); refine box_event ?hg (N := 3) ?hd (cs := #[.int .u64 a1_0, .int .u64 a1_1]) (t := 34) ?hr ?_; (case hd => rfl); (case hg => rfl); (case hr => first | (go_simp; done) | (go_simp; rfl)); intro gb298 hg w30 hbox hb; have n0_ := ak_ (below_step (by repeat (first | (with_reducible first | exact HB.out | apply ba_ | apply bn_ | apply bd_) | exact HB.out)) hb); have n1_ := ak_ (hbox); have n2_ := ak_ ((by rw [hg]; exact (below_size (by repeat (first | (with_reducible first | exact HB.out | apply ba_ | apply bn_ | apply bd_) | exact HB.out))) : w.heap.size ≤ gb298)); have n3_ := ak_ ((by rw [hg]; exact (below_size (by repeat (first | (with_reducible first | exact HB.out | apply ba_ | apply bn_ | apply bd_) | exact HB.out))) : w.heap.size ≤ gb298)); clear HB; have HB := n0_; have BK298 := n1_; have GW298 := n2_; have GE298 := n3_; clear n0_ n1_ n2_ n3_; clear hb hbox hg) | (go_at_call 33; (with_reducible refine (sub_Step.calls k a0 t299 t300 _ A3.out).mono ?_); rintro e w' ⟨rfl, ⟨nd, rfl⟩⟩; (try first | exact ⟨rfl, _, World.drewN_drewN _ _ _⟩ | exact ⟨rfl, _, Eq.trans (World.drewN_drewN _ _ _) (congrArg (World.drewN _) (Nat.add_assoc _ _ _))⟩)))
   repeat (go_quiet (first | ((with_reducible refine gate_dst (N := 3) rfl ?_); refine box_event ?hg (N := 3) ?hd (cs := #[.int .u64 a1_0, .int .u64 a1_1]) (t := 34) ?hr ?_; (case hd => rfl); (case hg => rfl); (case hr => first | (go_simp; done) | (go_simp; rfl)); intro gb298 hg w30 hbox hb; have n0_ := ak_ (below_step (by repeat (first | (with_reducible first | exact HB.out | apply ba_ | apply bn_ | apply bd_) | exact HB.out)) hb); have n1_ := ak_ (hbox); have n2_ := ak_ ((by rw [hg]; exact (below_size (by repeat (first | (with_reducible first | exact HB.out | apply ba_ | apply bn_ | apply bd_) | exact HB.out))) : w.heap.size ≤ gb298)); have n3_ := ak_ ((by rw [hg]; exact (below_size (by repeat (first | (with_reducible first | exact HB.out | apply ba_ | apply bn_ | apply bd_) | exact HB.out))) : w.heap.size ≤ gb298)); clear HB; have HB := n0_; have BK298 := n1_; have GW298 := n2_; have GE298 := n3_; clear n0_ n1_ n2_ n3_; clear hb hbox hg) | (go_at_call 33; (with_reducible refine (sub_Step.calls k a0 t299 t300 _ A3.out).mono ?_); rintro e w' ⟨rfl, ⟨nd, rfl⟩⟩; (try first | exact ⟨rfl, _, World.drewN_drewN _ _ _⟩ | exact ⟨rfl, _, Eq.trans (World.drewN_drewN _ _ _) (congrArg (World.drewN _) (Nat.add_assoc _ _ _))⟩))); try go_wp2_with (first | ((with_reducible refine gate_dst (N := 3) rfl ?_); refine box_event ?hg (N := 3) ?hd (cs := #[.int .u64 a1_0, .int .u64 a1_1]) (t := 34) ?hr ?_; (case hd => rfl); (case hg => rfl); (case hr => first | (go_simp; done) | (go_simp; rfl)); intro gb298 hg w30 hbox hb; have n0_ := ak_ (below_step (by repeat (first | (with_reducible first | exact HB.out | apply ba_ | apply bn_ | apply bd_) | exact HB.out)) hb); have n1_ := ak_ (hbox); have n2_ := ak_ ((by rw [hg]; exact (below_size (by repeat (first | (with_reducible first | exact HB.out | apply ba_ | apply bn_ | apply bd_) | exact HB.out))) : w.heap.size ≤ gb298)); have n3_ := ak_ ((by rw [hg]; exact (below_size (by repeat (first | (with_reducible first | exact HB.out | apply ba_ | apply bn_ | apply bd_) | exact HB.out))) : w.heap.size ≤ gb298)); clear HB; have HB := n0_; have BK298 := n1_; have GW298 := n2_; have GE298 := n3_; clear n0_ n1_ n2_ n3_; clear hb hbox hg) | (go_at_call 33; (with_reducible refine (sub_Step.calls k a0 t299 t300 _ A3.out).mono ?_); rintro e w' ⟨rfl, ⟨nd, rfl⟩⟩; (try first | exact ⟨rfl, _, World.drewN_drewN _ _ _⟩ | exact ⟨rfl, _, Eq.trans (World.drewN_drewN _ _ _) (congrArg (World.drewN _) (Nat.add_assoc _ _ _))⟩))))
   refine bodyPost_ret (results_list (rs := [.tmp 4, .tmp 5, .tmp 6, .tmp 7, .tmp 8]) rfl (by simp) (.tmp (.tmp (.tmp (.tmp (.tmp .nil)))))) rfl ?_
   exact ⟨by first | rfl | (simp <;> rfl) | (simp [*] <;> rfl), by repeat (first | (with_reducible first | exact HB.out | apply ba_ | apply bn_ | apply bd_ | refine below_set ?_ GE298.out) | exact HB.out)⟩

end Go.Proofs.Ytmffkfakcbopcaa.MP
