-- written by a program of this session (wip/tools/mprint.sh) for this seat
import Derived.Test.YtmffkfakcbopcaaGreatMPx0
import Derived.Test.YtmffkfakcbopcaaGreatMPx1
import Derived.Test.YtmffkfakcbopcaaGreatMPx2
import Derived.Test.YtmffkfakcbopcaaGreatMPx3
import Derived.RangeFuncNested
import Derived.RangeFuncBound
import Derived.RangeFuncCalls
import Derived.RangeFuncLeaves
import Derived.Shelf.Abstract
import Derived.OwnWalkIn
import Derived.TacticsInMore
import Derived.LoopNIn
import Derived.LoopIn
import Derived.Maps.AppendAt
namespace Go.Proofs.YtmffkfakcbopcaaGreat.MP
open Go.RowKit Go.Proofs.YtmffkfakcbopcaaGreatW.PrintWords Go.Proofs.YtmffkfakcbopcaaGreatW.PrintLast Go.Proofs.YtmffkfakcbopcaaGreatW.PrintMore
open Option (bind_eq_some_iff some.injEq)
open _root_.Go.Proofs.Tryz
open List (setIfInBounds_toArray set_cons_zero set_cons_succ map_toArray map_cons map_nil length_drop length_take)
attribute [local go_sem] max2_int min2_int max_two min_two max_three min_three max_four min_four
set_option linter.unusedVariables false
set_option linter.unusedSimpArgs false
attribute [local go_sem high] eqA25
set_option maxHeartbeats 8000000 in
set_option maxRecDepth 100000 in
theorem layer_ord.grew (x y : S25) (W : World) : Calls Tryz.prog 47 #[.agg #[.int .u64 x.f0, .int .u64 x.f1], .agg #[.int .u64 y.f0, .int .u64 y.f1]] W fun e w' => e = .returned (.int .i64 (ordf x y)) ∧ Grew W w' := by
  have hu34 := underlying25
  obtain ⟨c0, h0⟩ : ∃ c, c = (if x.f0 < y.f0 then -1 else if x.f0 > y.f0 then 1 else (0 : Int)) := ⟨_, rfl⟩
  obtain ⟨c1, h1⟩ : ∃ c, c = (if x.f1 < y.f1 then -1 else if x.f1 > y.f1 then 1 else (0 : Int)) := ⟨_, rfl⟩
  have e : ordf x y = if c0 = 0 then c1 else c0 := by
   subst h0 h1
   unfold ordf
   by_cases a : x.f0 < y.f0
   ·simp [a]
   ·by_cases b : x.f0 > y.f0
    ·simp [a, b]
    ·simp [a, b]
  have A1 := ak_ (show cmp_Compare_uint64.f x.f0 y.f0 = some c0 by rw [cmp_eq, h0])
  have A2 := ak_ (show cmp_Compare_uint64.f x.f1 y.f1 = some c1 by rw [cmp_eq, h1])
  have A3 := ak_ (show cmp_Or_int.f 10 [c0, c1] = some (ordf x y) by rw [or_eq, e])
  clear h0 h1 e
  generalize ordf x y = r at A3 ⊢
  obtain ⟨W2, hW2⟩ : ∃ W2, W2 = (W.alloc (.cells #[.int .u64 x.f0, .int .u64 x.f1] 25)).alloc (.cells #[.int .u64 y.f0, .int .u64 y.f1] 25) := ⟨_, rfl⟩
  have HG := ak_ (show Grew W W2 by rw [hW2]; exact ((Grew.refl W).alloc _).alloc _)
  have b1 : W2.heap[W.heap.size]? = some (.cells #[.int .u64 x.f0, .int .u64 x.f1] 25 (0, 0)) := by
   rw [hW2]; exact kb_ (blk_new W _) (ba_ (Below.refl _ _) _)
  have b2 : W2.heap[W.heap.size + 1]? = some (.cells #[.int .u64 y.f0, .int .u64 y.f1] 25 (0, 0)) := by
   have h : (W.alloc (.cells #[.int .u64 x.f0, .int .u64 x.f1] 25)).heap.size = W.heap.size + 1 := Array.size_push ..
   rw [hW2, ← h]; exact blk_new _ _
  have y0 : W2.cell? ⟨W.heap.size, 0, none⟩ = some (.int .u64 x.f0) := by simp [World.cell?, b1]
  have y1 : W2.cell? ⟨W.heap.size, 1, none⟩ = some (.int .u64 x.f1) := by simp [World.cell?, b1]
  have y2 : W2.cell? ⟨W.heap.size + 1, 0, none⟩ = some (.int .u64 y.f0) := by simp [World.cell?, b2]
  have y3 : W2.cell? ⟨W.heap.size + 1, 1, none⟩ = some (.int .u64 y.f1) := by simp [World.cell?, b2]
  have OR : ∀ W', Kd.C (Kd.int .i64) W' (some ⟨W2.heap.size, 0, none⟩) 2 [c0, c1] → Calls Tryz.prog 48 #[.slice (some ⟨W2.heap.size, 0, none⟩) 2 2] W' fun e w' => e = .returned (.int .i64 r) ∧ Drawn0 W' w' := fun W' h => cmp_Or_int.calls 10 _ 2 [c0, c1] r W' h (by simp) A3.out
  go_enter func47, ntmps47
  go_wp2
  rw [← hW2]
  clear hW2 b1 b2
  go_region_held3 (fun w' => w'.cell? ⟨W.heap.size, 0, none⟩ = some (.int .u64 x.f0) ∧ w'.cell? ⟨W.heap.size, 1, none⟩ = some (.int .u64 x.f1) ∧ w'.cell? ⟨W.heap.size + 1, 0, none⟩ = some (.int .u64 y.f0) ∧ w'.cell? ⟨W.heap.size + 1, 1, none⟩ = some (.int .u64 y.f1)) (first | exact ⟨y0, y1, y2, y3⟩ | exact ⟨cu_al y0, cu_al y1, cu_al y2, cu_al y3⟩)
   (first | (go_at_call 49; with_reducible refine (cmp_Compare_uint64.calls x.f0 y.f0 c0 _ A1.out).mono ?_; rintro e w' ⟨rfl, ⟨nd, rfl⟩⟩) | (go_at_call 49; with_reducible refine (cmp_Compare_uint64.calls x.f1 y.f1 c1 _ A2.out).mono ?_; rintro e w' ⟨rfl, ⟨nd2, rfl⟩⟩) | (go_at_call 48; with_reducible refine (OR _ ?s1).mono ?_; (case s1 => have h_ := C_two (W2.drewN (1 + nd + nd2)) c0 c1; rw [show (W2.drewN (1 + nd + nd2)).heap.size = W2.heap.size from by simp [World.drewN]] at h_; exact h_); rintro e w' ⟨rfl, ⟨nd3, rfl⟩⟩))
  all_goals
   go_wp2
   go_ret
   exact ⟨rfl, by repeat (first | exact HG.out | apply Grew.alloc | apply Grew.drewN | apply Grew.drew)⟩
section
open Go.Shelf
attribute [local go_sem] Oper.semAt_some
set_option maxRecDepth 100000 in
set_option maxHeartbeats 2000000 in
theorem sl_values1_in (n : Nat) (hn : 1 ≤ n) (l Bs : Nat) (w : World) (A : Option Addr) (c : Nat) (zs : List S25) (hR : Kd.C k25 w A zs.length zs) (hlen : zs.length ≤ 1000000) (J Jx : List S25 → World → Prop)
   (W : World) (hJa : AbidesFrom W.heap.size J)
   (hY : ∀ pre x W, J pre W → pre.length < zs.length → YieldAt Fence.wide (n - 1) Tryz.prog l #[.agg #[.int .u64 x.f0, .int .u64 x.f1]] W fun e W' =>
    (e = .returned (.bool true) ∧ J (pre ++ [x]) W' ∧ Below w.heap.size W W') ∨ (e = .returned (.bool false) ∧ Jx (pre ++ [x]) W'))
   (hB : Below w.heap.size w W) (hBs : W.cell? ⟨Bs, 0, none⟩ = some (.slice A zs.length c)) (h0 : J [] W) :
   CallsIn Fence.wide n Tryz.prog 76 #[.func (.yield l) #[] #[], .pointer (some ⟨Bs, 0, none⟩)] W fun e W' => (∃ v, e = .returned v) ∧ ((∃ ys, ys = zs ∧ J ys W') ∨ (∃ pre, True ∧ Jx pre W')) := by
  refine callsIn_of_wp func76 rfl trivial ?_ rfl
  simp only [ntmps76, List.size_toArray, List.length_cons, List.length_nil, Nat.reduceAdd, Nat.reduceSub, Array.replicate_succ, Array.replicate_zero, List.push_toArray, List.append_toArray, List.nil_append, List.cons_append]
  gi_wp2
  gi_loopw [4, 7] (fun v4 i wr => ∃ (k : Nat), k ≤ zs.length ∧ i = .int .i64 k ∧ J (zs.take k) wr ∧ Below w.heap.size w wr)
   (fun _ i _ => zs.length - (intOf i).toNat)
  case atStart => exact ⟨0, Nat.zero_le _, rfl, h0, hB⟩
  case round =>
   obtain ⟨k, hk, rfl, hJ, hBr⟩ := hrel
   have HR := ak_ (Kd.C_below hR hBr)
   have HBr := ak_ hBr
   by_cases hlt : k < zs.length
   ·obtain ⟨ad, e1, hx0, hx1⟩ := at_T25 HR.out (k : Int) (by omega) (by omega)
    cases e1
    rw [Int.toNat_natCast] at hx0 hx1
    have hg : rd_T25 zs (k : Int) = zs[k] := by
     first | (unfold rd_T25; simp [hlt]; done) | (simp [rd_T25, rdOf, hlt]; done)
    rw [hg] at hx0 hx1
    have tk : zs.take (k + 1) = zs.take k ++ [zs[k]] := List.take_succ_eq_append_getElem hlt
    have HT := ak_ tk
    clear tk hg
    generalize zs[k] = x at *
    have hkd : decide ((k : Int) < (zs.length : Int)) = true := decide_eq_true (by omega)
    have hJ2 : J (zs.take k) (wr.alloc (.cells #[.int .u64 x.f0, .int .u64 x.f1] 25)) := hJa _ wr _ none hJ (World.grownBy_alloc wr _ none) (fun r e => by cases e)
    obtain ⟨fn, tmps, assign, body, hy, hRn⟩ := hY (zs.take k) x _ hJ2 (by rw [List.length_take]; omega)
    (try dsimp only at hy)
    gi_wp2
    refine hRn.mono ?_
    rintro e W3 (⟨rfl, hJ3, hk3⟩ | ⟨rfl, hJx3⟩)
    ·gi_wp2
     go_roundw
     case rel => exact ⟨k + 1, by omega, by go_num, by rw [HT.out]; exact hJ3, (ba_ HBr.out _).trans hk3⟩
     case measure => simp [intOf]; omega
    ·gi_wp2
     refine bodyPost_ret (results_none rfl _ _ _) rfl ?_
     exact ⟨⟨_, rfl⟩, .inr ⟨_, trivial, hJx3⟩⟩
   ·obtain rfl : k = zs.length := by omega
    have hkd : decide ((zs.length : Int) < (zs.length : Int)) = false := decide_eq_false (by omega)
    rw [List.take_length] at hJ
    gi_wp2
    go_end0
    exact ⟨⟨_, rfl⟩, .inl ⟨_, rfl, hJ⟩⟩
theorem sl_Values.calls (A : Option Addr) (n c : Nat) (w : World) : Calls Tryz.prog 46 #[.slice A n c] w fun e w' => e = .returned (.func (.func 76) #[] #[.pointer (some ⟨w.heap.size, 0, none⟩)]) ∧ w' = w.alloc (.cells #[.slice A n c] 27) := by
  have hmf : ∀ (fn : Fn) (first cap : Array Value) (w : World), (Instr.makeFunc fn first cap).run Tryz.prog w = .ok (.func fn first cap) w := fun _ _ _ _ => rfl
  go_enter func46, ntmps46
  go_wp2
  go_ret
  exact ⟨by simp, rfl⟩
def cs_sub (x : S25) : List Value := [.int .u64 x.f0, .int .u64 x.f1]
theorem reps_sub {R : S25 → List Value → Prop} (hR : ∀ x, R x (cs_sub x)) : ∀ xs : List S25, Reps R 2 xs (xs.flatMap cs_sub)
  | [] => Reps.none _ _
  | x :: xs => Reps.c2 (hR x) (reps_sub hR xs)
theorem R_sub {e : Nat} {w : World} {base : Nat} {v : Value} {xs : List S25} (h : w.ownsRow base e 2 v xs.length (xs.flatMap cs_sub)) : Kd.R k25 e w base (fun _ => True) v xs :=
  ⟨fun _ _ => trivial, _, h, reps_sub (fun x => k25_mkM _ _ _ x) xs⟩
def AppI (w : World) (B : Nat) (pre : List S25) (W : World) : Prop := (∃ v, Boxed W B 27 v ∧ W.ownsRow w.heap.size 25 2 v pre.length (pre.flatMap cs_sub) ∧ True) ∧ Below w.heap.size w W
theorem appI_own (w : World) (B : Nat) (B0 : Nat) (h : w.heap.size ≤ B0) : OwnFrom B0 (AppI w B) :=
  OwnFrom.and (Own.from (fun s X Y row hs hg hr => holdsRow_own w.heap.size B 27 25 2 (fun pre : List S25 => pre.length) (fun pre => pre.flatMap cs_sub) (fun _ _ => True) s X Y row hs hg hr) _) (ownFrom_below (Nat.le_refl _) h)
theorem sub_two_new (W : World) (a b : Value) (ty : TypeId) : ∀ j u, [a, b][j]? = some u → (W.alloc (.cells #[a, b] ty)).cell? ((⟨W.heap.size, 0, none⟩ : Addr).add j) = some u := by
  intro j u hj
  rw [add_plain]
  match j with
  | 0 => simp at hj; subst hj; simp
  | 1 => simp at hj; subst hj; simp
  | j + 2 => simp at hj
set_option maxHeartbeats 8000000 in
set_option maxRecDepth 100000 in
theorem sl_AppendSeq.calls (A1 : Option Addr) (c1 : Nat) (l1 : List S25) (Bs : Nat) (w : World) (hr1 : Kd.C k25 w A1 l1.length l1) (hl : l1.length ≤ 1000000) (hBs : w.cell? ⟨Bs, 0, none⟩ = some (.slice A1 l1.length c1)) :
   Calls Tryz.prog 102 #[.slice none 0 0, .func (.func 76) #[] #[.pointer (some ⟨Bs, 0, none⟩)]] w fun e w' => ∃ v0_ : Value, e = .returned v0_ ∧ Kd.R k25 25 w' w.heap.size (fun _ => True) v0_ l1 ∧ Below w.heap.size w w' := by
  have HR1 := ak_ hr1
  have HL := ak_ hl
  have HBS := ak_ hBs
  clear hr1 hl hBs
  have hu34 := underlying25
  refine (callsIn_wide (n := 5)).1 ?_
  refine callsIn_of_wp_marks func102 rfl trivial ?_ rfl
  simp only [ntmps102, List.size_toArray, List.length_cons, List.length_nil, Nat.reduceAdd, Nat.reduceSub, Array.replicate_succ, Array.replicate_zero, List.push_toArray, List.append_toArray, List.nil_append, List.cons_append]
  have bO := Boxed.new w 27 (.slice none 0 0)
  have hb2 : Below w.heap.size w (w.alloc (.cells #[.slice none 0 0] 27)) := ba_ (Below.refl _ _) _
  obtain ⟨W0, hW0⟩ : ∃ W0, w.alloc (.cells #[.slice none 0 0] 27) = W0 := ⟨_, rfl⟩
  have hz0 : W0.heap.size = w.heap.size + 1 := by rw [← hW0]; simp
  gi_wp2
  rw [hW0] at bO hb2
  have HB3 := ak_ hb2
  have HK0 := ak_ (show Below w.heap.size w W0 ∧ W0.cell? ⟨Bs, 0, none⟩ = some (.slice A1 l1.length c1) from ⟨HB3.out, (HB3.out.cell (p := ⟨Bs, 0, none⟩) (World.block_lt_of_cell? w _ HBS.out)).trans HBS.out⟩)
  clear hb2
  have hlt : Bs < w.heap.size := World.block_lt_of_cell? w _ HBS.out
  refine wpIn_rangeFunc_ownH (α := S25) (encs := fun x => #[.agg #[.int .u64 x.f0, .int .u64 x.f1]]) (Kp := fun X Y => Below w.heap.size X Y)
   (S := fun ys => ys = l1) (Sp := fun _ => True) (N := l1.length) (w0 := W0) rfl (by omega) (gf := 76) (lb := #[.pointer (some ⟨Bs, 0, none⟩)]) rfl trivial (enters_of func76 (by kernel_rfl) rfl)
   (fun l J Jx W hW hJa _ hY h0 => sl_values1_in (5 - 1) (by omega) l Bs w A1 c1 l1 HR1.out HL.out J Jx W hJa hY (HB3.out.trans (hW.mono (by omega))) ((hW.cell (p := ⟨Bs, 0, none⟩) (by show Bs < _; omega)).trans HK0.out.2) h0)
   (fun h1 h2 => h1.trans h2)
   (fun W l o o' h1 h2 h3 h4 => belowK_b (w := W0) (by omega) W l o o' h1 h2 h3 h4)
   (Below.refl _ _) (fun _ => rfl)
   (AppI w w.heap.size)
   (fun _ _ _ => False)
   (appI_own w _ _ (by omega))
   (fun _ _ _ _ _ hs _ _ => hs)
   ⟨⟨_, bO, World.ownsRow_nil _ _ _ _, trivial⟩, HB3.out⟩
   (fun x a' W => ∃ Bx, W.heap[Bx]? = some (.cells #[.int .u64 x.f0, .int .u64 x.f1] 25 (0, 0)) ∧ a' = { tmps := #[.slice none 0 0, .func (.func 76) #[] #[.pointer (some ⟨Bs, 0, none⟩)], .pointer (some ⟨w.heap.size, 0, none⟩), undef, .slice none 0 0, .pointer (some ⟨Bx, 0, none⟩), .func (.func 76) #[] #[.pointer (some ⟨Bs, 0, none⟩)], .agg #[.int .u64 x.f0, .int .u64 x.f1], undef, undef, undef, undef, undef], defers := [] })
   ?hAx ?assign ?body ?done ?stop
  case hAx =>
   rintro x a' _ X Y row ⟨Bx, hx, rfl⟩ hg hr
   refine ⟨Bx, (hg.block Bx (Array.getElem?_eq_some_iff.1 hx).1 (fun e => ?_)).trans hx, rfl⟩
   obtain ⟨_, o, ho, hc⟩ := hr Bx e.symm
   rw [hx] at ho; cases ho; cases hc
  case assign =>
   intro l pre x W K hI hK
   have hsz : w.heap.size ≤ W.heap.size := hI.2.size
   gi_wp2
   exact hK _ _ ((KeepsOthers.alloc _ _).from _) ((Below.refl _ W).alloc hsz _) ((appI_own w _ _ (Nat.le_refl _)).alloc _ hI) ⟨W.heap.size, blk_new _ _, rfl⟩
  case body =>
   rintro l pre x a' W hl ⟨r, hr⟩ ⟨⟨v, hbo, hrow, _⟩, hB⟩ ⟨Bx, hx, rfl⟩ hltN
   obtain ⟨i0, hi0, hz0_, hz1_, hz2_⟩ := info_parts info25
   have hlen := HL.out
   have hx0 := kc_ hx 0
   have hx1 := kc_ hx 1
   have hbc := hbo.cell
   simp at hx0 hx1
   have HBO := ak_ hbo
   have HROW := ak_ hrow
   have HB := ak_ hB
   clear hbo hB
   gi_wp2_with (gi_at_builtin; refine wpListIn_append_own _ rfl _ _ 27 rfl w.heap.size 25 i0 (.agg #[.int .u64 0, .int .u64 0]) 2 16 underlying27 hi0 hz0_ hz1_ hz2_ rfl (by decide) _ _ _ rfl (hrow.alloc _) ⟨W.heap.size, 0, none⟩ 1 1 (cs_sub x) rfl rfl (sub_two_new _ _ _ _) (by simp [cs_sub, Value.oneCell']) (by unfold maxLen; omega) (by omega) (by have := HB.out.size; simp; omega) ?_; intro v' w1' hown' hgrow _; obtain ⟨g', cap', rfl⟩ := ownsRow_succ hown'; obtain ⟨hv1, hv2, hr2, hk2, hb2⟩ := HBO.out.appended (by decide) HROW.out HB.out.size (by omega) hown' hgrow; have hc1 := hv1.cell; have hf1 := hv1.frozen)
   exact ⟨hk2.from _, hb2, ⟨_, hv2, by simpa [List.flatMap_append] using hr2, trivial⟩, HB.out.trans hb2⟩
  case done =>
   rintro D ys W hD rfl ⟨⟨v, hbo, hrow, _⟩, hB⟩ hK
   have hbc := hbo.cell
   gi_wp2
   refine ⟨by simp, .inl ⟨_, _, rfl, run_takeDeferred hK, ?_⟩⟩
   exact ⟨_, results_tmp rfl _ _ _, v, rfl, R_sub (ownsRow_putObj hrow _ hK rfl), hB.trans (belowK_b (w := W0) (by omega) W D _ _ hD hK rfl rfl)⟩
  case stop =>
   rintro D c pre W hD _ h _
   exact h.elim
end
theorem eg72 : ∀ args w, (callFunc 47 args).run Tryz.prog w = .ok (.enter 47 args) w := enters_of func47 (by kernel_rfl) rfl
set_option maxHeartbeats 4000000 in
set_option maxRecDepth 100000 in
theorem sl_Collect.calls (A1 : Option Addr) (c1 : Nat) (l1 : List S25) (Bs : Nat) (w : World) (hr1 : Kd.C k25 w A1 l1.length l1) (hl : l1.length ≤ 1000000) (hBs : w.cell? ⟨Bs, 0, none⟩ = some (.slice A1 l1.length c1)) :
   Calls Tryz.prog 75 #[.func (.func 76) #[] #[.pointer (some ⟨Bs, 0, none⟩)]] w fun e w' => ∃ v0_ : Value, e = .returned v0_ ∧ Kd.R k25 25 w' w.heap.size (fun _ => True) v0_ l1 ∧ Below w.heap.size w w' := by
  have HR1 := ak_ hr1
  have HL := ak_ hl
  have HBS := ak_ hBs
  clear hr1 hl hBs
  go_enter func75, ntmps75
  go_wp2_with (go_at_call 102; refine (sl_AppendSeq.calls A1 c1 l1 Bs _ HR1.out HL.out HBS.out).mono ?_; rintro e w' ⟨v0, rfl, ho, hb⟩; have HO := ak_ ho; have HB := ak_ hb; clear ho hb)
  go_ret
  exact ⟨_, rfl, HO.out, HB.out⟩
set_option maxHeartbeats 4000000 in
set_option maxRecDepth 100000 in
theorem sl_SortedFunc.calls (A1 : Option Addr) (c1 : Nat) (l1 : List S25) (Bs : Nat) (w : World) (hr1 : Kd.C k25 w A1 l1.length l1) (hl : l1.length ≤ 1000000) (hBs : w.cell? ⟨Bs, 0, none⟩ = some (.slice A1 l1.length c1)) :
   Calls Tryz.prog 45 #[.func (.func 76) #[] #[.pointer (some ⟨Bs, 0, none⟩)], .func (.func 47) #[] #[]] w fun e w' => ∃ v0_ : Value, e = .returned v0_ ∧ Kd.R k25 25 w' w.heap.size (fun _ => True) v0_ (sortS l1) ∧ Below w.heap.size w w' := by
  have HR1 := ak_ hr1
  have HL := ak_ hl
  have HBS := ak_ hBs
  clear hr1 hl hBs
  go_enter func45, ntmps45
  go_wp2_with (first
   | (go_at_call 75; refine (sl_Collect.calls A1 c1 l1 Bs _ HR1.out HL.out HBS.out).mono ?_; rintro e w' ⟨v0, rfl, ho, hb⟩; have HO := ak_ ho; have HB := ak_ hb; clear ho hb)
   | (go_at_call 41; refine (sort_any 47 eg72 layer_ord.grew l1 w _ w.heap.size _ HB.out (Nat.le_refl _) HO.out (by have := HL.out; omega)).mono ?_; rintro e w' ⟨rfl, ho, hb, _⟩; have HO2 := ak_ ho; have HB2 := ak_ hb; clear ho hb))
  go_ret
  exact ⟨_, rfl, HO2.out, HB2.out⟩
def layer_Order.f (k : Nat) (l1 : List S25) : Option (List S25) := if l1.length ≤ 1000000 then some (sortS l1) else none
set_option maxHeartbeats 4000000 in
set_option maxRecDepth 100000 in
theorem layer_Order.calls (k : Nat) (A0 : Option Addr) (c0 : Nat) (l0 : List S25) (r : List S25) (w : World) (hr0 : Kd.C k25 w A0 l0.length l0) (hc0 : l0.length ≤ c0) (h : layer_Order.f k l0 = some r) :
   Calls Tryz.prog 18 #[.slice A0 l0.length c0] w fun e w' => ∃ v0_ : Value, e = .returned (v0_) ∧ Kd.R k25 25 w' w.heap.size (fun _ => True) v0_ r ∧ Below w.heap.size w w' := by
  unfold layer_Order.f at h
  by_cases hl : l0.length ≤ 1000000
  ·rw [if_pos hl] at h
   obtain rfl := Option.some.inj h
   have HR1 := ak_ hr0
   have HL := ak_ hl
   clear hr0 hl h
   go_enter func18, ntmps18
   go_wp2_with (first
    | (go_at_call 46; refine (sl_Values.calls A0 l0.length c0 _).mono ?_; rintro e w' ⟨rfl, rfl⟩)
    | (go_at_call 45; refine (sl_SortedFunc.calls A0 c0 l0 w.heap.size _ (Kd.C_alloc HR1.out _) HL.out (kc_ (blk_new w _) 0)).mono ?_; rintro e w' ⟨v0, rfl, ho, hb⟩; have HO := ak_ ho; have HB := ak_ hb; clear ho hb))
   go_ret
   have h1 : Below w.heap.size w (w.alloc (.cells #[.slice A0 l0.length c0] 27)) := ba_ (Below.refl _ _) _
   exact ⟨_, rfl, Kd.R_lower HO.out h1.size, bt_ h1 HB.out⟩
  ·rw [if_neg hl] at h
   cases h
mutual
def layer_Cover.j0 : Nat → Int → List (S25) → Int → List (S25) → Bool → Option ((List (S25)) × Int)
  | 0, _, _, _, _, _ => none
  | k + 1, x0, x6, x7, x8, x37 => if x37 = true then (some (x8, x7)) else (layer_Cover.l0 k x0 x6 x8 (x8.length : Int) 0)
def layer_Cover.l0 : Nat → Int → List (S25) → List (S25) → Int → Int → Option ((List (S25)) × Int)
  | 0, _, _, _, _, _ => none
  | k + 1, x0, x6, x40, x41, x42 => if x42 < x41 then (if 0 ≤ x42 then (if x42 < (x40.length : Int) then ((sub_Split.f k x0 ((rd_T25 x40 x42).f0) ((rd_T25 x40 x42).f1)).bind fun bt293 => (if bt293.2 = 0 then (if x6.length + bt293.1.length < 8796093022208 then (layer_Cover.l0 k x0 (x6 ++ bt293.1) x40 x41 (wrap64 (x42 + 1))) else (none)) else (some (([] : List (S25)), bt293.2)))) else (none)) else (none)) else ((layer_Order.f k x6).bind fun t300 => (some (t300, 0)))
end
def layer_Cover.f (k : Nat) (a0 : Int) (a1 : Int) (l2 : List Int) : Option ((List (S25)) × Int) := (layer_check.f k a0 a1).bind fun t282 => (if t282 = 0 then (if a1 = 1 then ((whole_Cover.f k a0 l2).bind fun bt283 => (some (bt283.1, bt283.2))) else ((diff_Cover.f k a0 l2).bind fun bt287 => (if bt287.2 = 0 then (layer_Cover.j0 k a0 ([] : List (S25)) bt287.2 bt287.1 (a1 == 2)) else (layer_Cover.j0 k a0 ([] : List (S25)) bt287.2 bt287.1 true)))) else (some (([] : List (S25)), t282)))
set_option maxHeartbeats 8000000 in
set_option maxRecDepth 100000 in
theorem layer_Cover.calls (k : Nat) (a0 : Int) (a1 : Int) (A2 : Option Addr) (c2 : Nat) (l2 : List Int) (r1 : List (S25)) (r2 : Int) (w : World) (hr2 : Kd.C (Kd.int .u64) w A2 l2.length l2) (hc2 : l2.length ≤ c2) (h : layer_Cover.f k a0 a1 l2 = some (r1, r2)) :
   Calls Tryz.prog 5 #[.int .i64 a0, .int .i64 a1, .slice A2 l2.length c2] w fun e w' => ∃ v0_ : Value, e = .returned (.tuple #[v0_, .int .i64 r2]) ∧ Kd.R k25 25 w' w.heap.size (fun _ => True) v0_ r1 ∧ Below w.heap.size w w' := by
  have hu25 := underlying25
  have HR2 := ak_ hr2
  have HC2 := ak_ hc2
  clear hr2 hc2
  have HB := ak_ (Below.refl w.heap.size w)
  have H : ((layer_check.f k a0 a1).bind fun t282 => (if t282 = 0 then (if a1 = 1 then ((whole_Cover.f k a0 l2).bind fun bt283 => (some (bt283.1, bt283.2))) else ((diff_Cover.f k a0 l2).bind fun bt287 => (if bt287.2 = 0 then (layer_Cover.j0 k a0 ([] : List (S25)) bt287.2 bt287.1 (a1 == 2)) else (layer_Cover.j0 k a0 ([] : List (S25)) bt287.2 bt287.1 true)))) else (some (([] : List (S25)), t282)))) = some (r1, r2) := h
  clear h
  replace H := bind_eq_some_iff.mp H
  obtain ⟨t282, A40, H⟩ := H
  replace H : (if t282 = 0 then (if a1 = 1 then ((whole_Cover.f k a0 l2).bind fun bt283 => (some (bt283.1, bt283.2))) else ((diff_Cover.f k a0 l2).bind fun bt287 => (if bt287.2 = 0 then (layer_Cover.j0 k a0 ([] : List (S25)) bt287.2 bt287.1 (a1 == 2)) else (layer_Cover.j0 k a0 ([] : List (S25)) bt287.2 bt287.1 true)))) else (some (([] : List (S25)), t282))) = some (r1, r2) := H
  have A4 := ak_ A40
  clear A40
  by_cases c5 : t282 = 0
  ·rw [if_pos c5] at H
   have c5b0 : (t282 == 0) = true := beq_iff_eq.mpr c5
   have c5b1 : (t282 != 0) = false := bne_eq_false_iff_eq.mpr c5
   clear c5
   by_cases c6 : a1 = 1
   ·rw [if_pos c6] at H
    have c6b0 : (a1 == 1) = true := beq_iff_eq.mpr c6
    have c6b1 : (a1 != 1) = false := bne_eq_false_iff_eq.mpr c6
    clear c6
    replace H := bind_eq_some_iff.mp H
    obtain ⟨⟨t283, t284⟩, A70, H⟩ := H
    replace H : (some (t283, t284)) = some (r1, r2) := H
    have A7 := ak_ A70
    clear A70
    simp only [some.injEq, Prod.mk.injEq] at H
    obtain ⟨rfl, rfl⟩ := H
    go_enter func5, ntmps5
    go_wp2_with (first | ((with_reducible refine gate_callee (f := 14) rfl ?_); refine goesL_ (some 15) rfl rfl func14 (by kernel_rfl) rfl #[.int .i64 a0, .int .i64 a1] rfl (by (try simp only [map_toArray, map_cons, map_nil]); first | done | rfl) ?_; (with_reducible refine (layer_check.calls k a0 a1 t282 _ A4.out).mono ?_); rintro e w' ⟨rfl, ⟨nd, rfl⟩⟩; refine ⟨_, rfl, ?_⟩) | ((with_reducible refine gate_callee (f := 15) rfl ?_); refine goesL_ (some 23) rfl rfl func15 (by kernel_rfl) rfl #[.int .i64 a0, .slice A2 l2.length c2] rfl (by (try simp only [map_toArray, map_cons, map_nil]); first | done | rfl) ?_; (with_reducible refine (whole_Cover.calls k a0 _ _ l2 t283 t284 _ ?side1 ?side2 A7.out).mono ?_); (case side1 => repeat (first | exact HR2.out | (with_reducible refine Kd.C_alloc ?_ _) | (with_reducible refine Kd.C_drewN ?_ _) | (with_reducible refine Kd.C_drew ?_))); (case side2 => exact HC2.out); rintro e w8 ⟨v285, rfl, ho0, hb⟩; refine ⟨_, rfl, ?_⟩; have n0_ := ak_ (Kd.R_lower ho0 (bz_ (bl_ HB))); have n1_ := ak_ (bt_ (bl_ HB) hb); clear HB; have HO286 := n0_; have HB := n1_; clear n0_ n1_; (try clear hb); (try clear hk); (try clear ho0)))
    go_ret2
    exact ⟨_, by first | rfl | (simp <;> rfl) | (simp [*] <;> rfl), by (with_reducible repeat (first | apply Kd.R_alloc | apply Kd.R_drewN | apply Kd.R_drew)); exact HO286.out, bl_ HB⟩
   ·rw [if_neg c6] at H
    have c6b0 : (a1 == 1) = false := beq_eq_false_iff_ne.mpr c6
    have c6b1 : (a1 != 1) = true := bne_iff_ne.mpr c6
    replace H := bind_eq_some_iff.mp H
    obtain ⟨⟨t287, t288⟩, A90, H⟩ := H
    replace H : (if t288 = 0 then (layer_Cover.j0 k a0 ([] : List (S25)) t288 t287 (a1 == 2)) else (layer_Cover.j0 k a0 ([] : List (S25)) t288 t287 true)) = some (r1, r2) := H
    have A9 := ak_ A90
    clear A90
    have HC10 := ak_ H
    clear H
    go_enter func5, ntmps5
    go_upto_region 7 with (first | ((with_reducible refine gate_callee (f := 14) rfl ?_); refine goesL_ (some 15) rfl rfl func14 (by kernel_rfl) rfl #[.int .i64 a0, .int .i64 a1] rfl (by (try simp only [map_toArray, map_cons, map_nil]); first | done | rfl) ?_; (with_reducible refine (layer_check.calls k a0 a1 t282 _ A4.out).mono ?_); rintro e w' ⟨rfl, ⟨nd, rfl⟩⟩; refine ⟨_, rfl, ?_⟩) | ((with_reducible refine gate_callee (f := 16) rfl ?_); refine goesL_ (some 29) rfl rfl func16 (by kernel_rfl) rfl #[.int .i64 a0, .slice A2 l2.length c2] rfl (by (try simp only [map_toArray, map_cons, map_nil]); first | done | rfl) ?_; (with_reducible refine (diff_Cover.calls k a0 _ _ l2 t287 t288 _ ?side1 ?side2 A9.out).mono ?_); (case side1 => repeat (first | exact HR2.out | (with_reducible refine Kd.C_alloc ?_ _) | (with_reducible refine Kd.C_drewN ?_ _) | (with_reducible refine Kd.C_drew ?_))); (case side2 => exact HC2.out); rintro e w11 ⟨v289, rfl, ho0, hb⟩; refine ⟨_, rfl, ?_⟩; have n0_ := ak_ (Kd.R_lower ho0 (bz_ (bl_ HB))); have n1_ := ak_ (bt_ (bl_ HB) hb); clear HB; have HO290 := n0_; have HB := n1_; clear n0_ n1_; (try clear hb); (try clear hk); (try clear ho0)))
    (try simp only [Act.put, setIfInBounds_toArray, set_cons_zero, set_cons_succ])
    go_cut [37] (fun v37 wc => ∃ (kq : Nat) (x37_9 : Bool), v37 = .bool x37_9 ∧ Aside0 (layer_Cover.j0 kq a0 ([] : List (S25)) t288 t287 x37_9 = some (r1, r2)) ∧ Aside0 (kq ≤ k) ∧ Aside0 (Kd.R k25 25 wc w.heap.size (fun k_ => some k_ ≠ (v289 : Value).ownBlock) (.slice none 0 0) ([] : List (S25))) ∧ Aside0 (Kd.R k25 25 wc w.heap.size (fun k_ => some k_ ≠ ((.slice none 0 0) : Value).ownBlock) v289 t287) ∧ Aside0 (Below w.heap.size w wc))
    case first =>
     have H := HC10.out
     clear HC10
     by_cases c12 : t288 = 0
     ·rw [if_pos c12] at H
      have c12b0 : (t288 == 0) = true := beq_iff_eq.mpr c12
      have c12b1 : (t288 != 0) = false := bne_eq_false_iff_eq.mpr c12
      clear c12
      (first | rw [c12b0] | (simp only [i64_w, i32_w]; rw [c12b0]) | skip)
      have H' := ak_ H
      clear H
      go_wp2
      go_meet
      case rel => exact ⟨_, ((a1 == 2)), (by first | rfl | (simp; done) | (simp [*]; done)), H', ⟨by first | omega | exact Nat.le_refl _⟩, ⟨by first | exact Kd.R_nil _ _ _ _ _ | exact Kd.N_nil _ _ _ _ _ | exact Kd.V_nil _ _ _ _ _ | exact Kd.Q_nil _ _ _ _ _ | exact Kd.S_nil _ _ _ _ _⟩, ⟨by (with_reducible repeat (first | apply Kd.R_alloc | apply Kd.R_drewN | apply Kd.R_drew)); exact Kd.R_mono HO290.out (fun _ hk => (by simp [Value.ownBlock]))⟩, ⟨bl_ HB⟩⟩
     ·rw [if_neg c12] at H
      have c12b0 : (t288 == 0) = false := beq_eq_false_iff_ne.mpr c12
      have c12b1 : (t288 != 0) = true := bne_iff_ne.mpr c12
      (first | rw [c12b0] | (simp only [i64_w, i32_w]; rw [c12b0]) | skip)
      have H' := ak_ H
      clear H
      go_wp2
      go_meet
      case rel => exact ⟨_, (true), (by first | rfl | (simp; done) | (simp [*]; done)), H', ⟨by first | omega | exact Nat.le_refl _⟩, ⟨by first | exact Kd.R_nil _ _ _ _ _ | exact Kd.N_nil _ _ _ _ _ | exact Kd.V_nil _ _ _ _ _ | exact Kd.Q_nil _ _ _ _ _ | exact Kd.S_nil _ _ _ _ _⟩, ⟨by (with_reducible repeat (first | apply Kd.R_alloc | apply Kd.R_drewN | apply Kd.R_drew)); exact Kd.R_mono HO290.out (fun _ hk => (by simp [Value.ownBlock]))⟩, ⟨bl_ HB⟩⟩
    case rest =>
     clear HC10
     try clear c1
     try clear c2
     try clear p2
     try clear c5
     try clear c5b0
     try clear c5b1
     try clear c6
     try clear c6b0
     try clear c6b1
     try clear c12
     try clear c12b0
     try clear c12b1
     obtain ⟨kq, x37_9, rfl, HA, HJ9, HO_6, HO_8, HB⟩ := hcut
     cases kq with
     | zero => exact absurd HA.out (by simp [layer_Cover.j0])
     | succ kj9 =>
      have H := HA.out
      clear HA
      simp only [layer_Cover.j0] at H
      by_cases c13 : x37_9 = true
      ·subst c13
       have H1 : (some (t287, t288)) = some (r1, r2) := by rw [if_pos rfl] at H; exact H
       clear H
       have H := H1
       clear H1
       simp only [some.injEq, Prod.mk.injEq] at H
       obtain ⟨rfl, rfl⟩ := H
       go_wp2
       go_ret2
       exact ⟨_, by first | rfl | (simp <;> rfl) | (simp [*] <;> rfl), by (with_reducible repeat (first | apply Kd.R_alloc | apply Kd.R_drewN | apply Kd.R_drew)); exact Kd.R_mono HO_8.out (fun _ hk => trivial), bl_ HB⟩
      ·replace c13 := Bool.eq_false_iff.mpr c13
       subst c13
       have H1 : (layer_Cover.l0 kj9 a0 ([] : List (S25)) t287 (t287.length : Int) 0) = some (r1, r2) := by rw [if_neg (show ¬ (false = true) by decide)] at H; exact H
       clear H
       have H := H1
       clear H1
       have H' := ak_ H
       clear H
       obtain ⟨Ao14, co14, eo14⟩ := Kd.R_slice HO_8.out
       subst eo14
       go_wp2
       go_loopg [6, 42] kj9 (fun kq v6 v42 w' => ∃ (x6_2 : List (S25)) (x42_2 : Int), v42 = .int .i64 x42_2 ∧ Aside0 (layer_Cover.l0 kq a0 x6_2 t287 (t287.length : Int) x42_2 = some (r1, r2)) ∧ Aside0 (kq ≤ kj9) ∧ Aside0 (Kd.R k25 25 w' w.heap.size (fun k_ => some k_ ≠ ((.slice Ao14 t287.length co14) : Value).ownBlock) v6 x6_2) ∧ Aside0 (Kd.R k25 25 w' w.heap.size (fun k_ => some k_ ≠ (v6 : Value).ownBlock) (.slice Ao14 t287.length co14) t287) ∧ Aside0 (Below w.heap.size w w'))
       case atStart => exact ⟨(([] : List (S25))), (0), (by first | rfl | (simp; done) | (simp [*]; done)), H', ⟨Nat.le_refl _⟩, ⟨rl_ HO_6⟩, ⟨rl_ HO_8⟩, ⟨bl_ HB⟩⟩
       case round =>
        clear H'
        try clear c1
        try clear c2
        try clear p2
        try clear c5
        try clear c5b0
        try clear c5b1
        try clear c6
        try clear c6b0
        try clear c6b1
        try clear c12
        try clear c12b0
        try clear c12b1
        try clear c13
        try clear c14
        try clear p2
        obtain ⟨x6_2, x42_2, rfl, HA, HK2, HO_6, HO_40, HB⟩ := hrel
        cases gk with
        | zero => exact absurd HA.out (by simp [layer_Cover.l0])
        | succ k2 =>
         have H := HA.out
         clear HA
         simp only [layer_Cover.l0] at H
         by_cases c15 : x42_2 < (t287.length : Int)
         ·rw [if_pos c15] at H
          have c15b0 := decide_eq_true c15
          clear c15
          by_cases c16 : 0 ≤ x42_2
          ·rw [if_pos c16] at H
           have c16b0 := decide_eq_true c16
           clear c16
           by_cases c17 : x42_2 < (t287.length : Int)
           ·rw [if_pos c17] at H
            have c17b0 := decide_eq_true c17
            clear c17
            replace H := bind_eq_some_iff.mp H
            obtain ⟨⟨t293, t296⟩, A180, H⟩ := H
            replace H : (if t296 = 0 then (if x6_2.length + t293.length < 8796093022208 then (layer_Cover.l0 k2 a0 (x6_2 ++ t293) t287 (t287.length : Int) (wrap64 (x42_2 + 1))) else (none)) else (some (([] : List (S25)), t296))) = some (r1, r2) := H
            have A18 := ak_ A180
            clear A180
            by_cases c19 : t296 = 0
            ·rw [if_pos c19] at H
             have c19b0 : (t296 == 0) = true := beq_iff_eq.mpr c19
             have c19b1 : (t296 != 0) = false := bne_eq_false_iff_eq.mpr c19
             clear c19
             by_cases c20 : x6_2.length + t293.length < 8796093022208
             ·rw [if_pos c20] at H
              have LMc20 := ak_ c20
              clear c20
              obtain ⟨y297, hy297⟩ : ∃ y_ : List (S25), y_ = (x6_2 ++ t293) := ⟨_, rfl⟩
              replace H : (layer_Cover.l0 k2 a0 y297 t287 (t287.length : Int) (wrap64 (x42_2 + 1))) = some (r1, r2) := by first | (rw [hy297]; with_reducible exact H) | (have H2_ := (Option.bind_some _ _).symm.trans H; rw [hy297]; with_reducible exact H2_) | (have H2_ := (Option.bind_some _ _).symm.trans H; with_reducible exact H2_) | with_reducible exact H | (rw [hy297]; exact H) | exact H
              have Ny297 := ak_ hy297
              clear hy297
              have H' := ak_ H
              clear H
              have p291 : 0 ≤ (x42_2 : Int) := od_ (by first | (with_reducible assumption) | assumption)
              have q291 : x42_2 < (t287.length : Int) := od_ (by first | (with_reducible assumption) | assumption)
              obtain ⟨ad291, e291, hx291_0, hx291_1⟩ := at_T25 (Kd.R_reads' HO_40.out).2.2 x42_2 p291 q291
              cases e291
              replace p291 := eq_true p291
              replace q291 := eq_true q291
              go_wp2_with (first | ((with_reducible refine gate_dst (N := 10) rfl ?_); refine box_event ?hg (N := 10) ?hd (cs := #[.int .u64 0, .int .u64 0]) (t := 25) ?hr ?_; (case hd => rfl); (case hg => rfl); (case hr => first | (go_simp; done) | (go_simp; rfl)); intro gb292 hg w21 hbox hb; have n0_ := ak_ (Kd.R_below (Kd.R_elderB (rl_ HO_6) gb292 (Nat.le_of_eq hg.symm)) hb); have n1_ := ak_ (Kd.R_below (Kd.R_elderB (rl_ HO_40) gb292 (Nat.le_of_eq hg.symm)) hb); have n2_ := ak_ (bt_ (bl_ HB) hb); have n3_ := ak_ (hbox); have n4_ := ak_ ((gs_ hg HB)); have n5_ := ak_ ((gs_ hg HB)); clear HO_6; clear HO_40; clear HB; have HO_6 := n0_; have HO_40 := n1_; have HB := n2_; have BK292 := n3_; have GW292 := n4_; have GE292 := n5_; clear n0_ n1_ n2_ n3_ n4_ n5_; clear hb hbox hg; have hcz22_0 : w21.cell? ⟨gb292, 0, none⟩ = some (.int .u64 0) := (kc_ BK292.out 0).trans rfl; have hcz22_1 : w21.cell? ⟨gb292, 1, none⟩ = some (.int .u64 0) := (kc_ BK292.out 1).trans rfl; have hfz22_0 := kf_ BK292.out 0; have hfz22_1 := kf_ BK292.out 1) | ((with_reducible refine gate_callee (f := 17) rfl ?_); refine goesL_ (some 49) rfl rfl func17 (by kernel_rfl) rfl #[.int .i64 a0, .agg #[.int .u64 ((rd_T25 t287 x42_2).f0), .int .u64 ((rd_T25 t287 x42_2).f1)]] rfl (by (try simp only [map_toArray, map_cons, map_nil]); first | done | rfl) ?_; (with_reducible refine (sub_Split.calls k2 a0 ((rd_T25 t287 x42_2).f0) ((rd_T25 t287 x42_2).f1) t293 t296 _ A18.out).mono ?_); rintro e w23 ⟨v294, rfl, ho0, hb⟩; refine ⟨_, rfl, ?_⟩; have n0_ := ak_ (Kd.R_elder' (by (with_reducible repeat (first | apply Kd.R_alloc | apply Kd.R_drewN | apply Kd.R_drew)); exact (Kd.R_mono (Kd.R_far (p := ⟨gb292, 1, none⟩) (Kd.R_far (p := ⟨gb292, 0, none⟩) (Kd.R_mono HO_6.out (fun k_ hk => (⟨hk, hk.2⟩ : _ ∧ k_ ≠ gb292))) (fun _ hk => hk.2) (.int .u64 ((rd_T25 t287 x42_2).f0))) (fun _ hk => hk.2) (.int .u64 ((rd_T25 t287 x42_2).f1))) (fun _ h_ => h_.1))) (Kd.R_base ho0) hb); have n1_ := ak_ (Kd.R_elder' (by (with_reducible repeat (first | apply Kd.R_alloc | apply Kd.R_drewN | apply Kd.R_drew)); exact (Kd.R_mono (Kd.R_far (p := ⟨gb292, 1, none⟩) (Kd.R_far (p := ⟨gb292, 0, none⟩) (Kd.R_mono HO_40.out (fun k_ hk => (⟨hk, hk.2⟩ : _ ∧ k_ ≠ gb292))) (fun _ hk => hk.2) (.int .u64 ((rd_T25 t287 x42_2).f0))) (fun _ hk => hk.2) (.int .u64 ((rd_T25 t287 x42_2).f1))) (fun _ h_ => h_.1))) (Kd.R_base ho0) hb); have n2_ := ak_ (Kd.R_lower (Kd.R_newB (Kd.R_new' (Kd.R_new' ho0 (Kd.R_lt (by (with_reducible repeat (first | apply Kd.R_alloc | apply Kd.R_drewN | apply Kd.R_drew)); exact (Kd.R_mono (Kd.R_far (p := ⟨gb292, 1, none⟩) (Kd.R_far (p := ⟨gb292, 0, none⟩) (Kd.R_mono HO_6.out (fun k_ hk => (⟨hk, hk.2⟩ : _ ∧ k_ ≠ gb292))) (fun _ hk => hk.2) (.int .u64 ((rd_T25 t287 x42_2).f0))) (fun _ hk => hk.2) (.int .u64 ((rd_T25 t287 x42_2).f1))) (fun _ h_ => h_.1))))) (Kd.R_lt (by (with_reducible repeat (first | apply Kd.R_alloc | apply Kd.R_drewN | apply Kd.R_drew)); exact (Kd.R_mono (Kd.R_far (p := ⟨gb292, 1, none⟩) (Kd.R_far (p := ⟨gb292, 0, none⟩) (Kd.R_mono HO_40.out (fun k_ hk => (⟨hk, hk.2⟩ : _ ∧ k_ ≠ gb292))) (fun _ hk => hk.2) (.int .u64 ((rd_T25 t287 x42_2).f0))) (fun _ hk => hk.2) (.int .u64 ((rd_T25 t287 x42_2).f1))) (fun _ h_ => h_.1))))) (g := gb292) (o := .cells #[.int .u64 ((rd_T25 t287 x42_2).f0), .int .u64 ((rd_T25 t287 x42_2).f1)] 25 (0, 0)) (by (with_reducible repeat (first | refine kn_ ?_ _ | refine kd_ ?_ | refine ka_ ?_ _)); refine blk_put (cs := #[.int .u64 ((rd_T25 t287 x42_2).f0), .int .u64 0]) ?_ 1 _ rfl; (with_reducible repeat (first | refine kn_ ?_ _ | refine kd_ ?_ | refine ka_ ?_ _)); refine blk_put (cs := #[.int .u64 0, .int .u64 0]) ?_ 0 _ rfl; (with_reducible repeat (first | refine kn_ ?_ _ | refine kd_ ?_ | refine ka_ ?_ _)); exact BK292.out)) (bz_ (by repeat (first | (with_reducible first | exact HB.out | apply ba_ | apply bn_ | apply bd_ | refine below_set ?_ GE292.out) | exact HB.out)))); have n3_ := ak_ (kb_ (g := gb292) (o := .cells #[.int .u64 ((rd_T25 t287 x42_2).f0), .int .u64 ((rd_T25 t287 x42_2).f1)] 25 (0, 0)) (by (with_reducible repeat (first | refine kn_ ?_ _ | refine kd_ ?_ | refine ka_ ?_ _)); refine blk_put (cs := #[.int .u64 ((rd_T25 t287 x42_2).f0), .int .u64 0]) ?_ 1 _ rfl; (with_reducible repeat (first | refine kn_ ?_ _ | refine kd_ ?_ | refine ka_ ?_ _)); refine blk_put (cs := #[.int .u64 0, .int .u64 0]) ?_ 0 _ rfl; (with_reducible repeat (first | refine kn_ ?_ _ | refine kd_ ?_ | refine ka_ ?_ _)); exact BK292.out) hb); have n4_ := ak_ (bt_ (by repeat (first | (with_reducible first | exact HB.out | apply ba_ | apply bn_ | apply bd_ | refine below_set ?_ GE292.out) | exact HB.out)) hb); clear HO_6; clear HO_40; clear BK292; clear HB; have HO_6 := n0_; have HO_40 := n1_; have HO295 := n2_; have BK292 := n3_; have HB := n4_; clear n0_ n1_ n2_ n3_ n4_; (try clear hb); (try clear hk); (try clear ho0); obtain ⟨Ao25, co25, eo25⟩ := Kd.R_slice HO295.out; subst eo25) | ((with_reducible refine gate_builtin (b := .append) (xs := #[.tmp 55, .tmp 56]) rfl ?_); at_builtin; refine Kd.R_append_rows k25 (w0 := w) w.heap.size rfl (.tmp 55) (.tmp 56) 27 25 (.agg #[(.int .u64 0), (.int .u64 0)]) 16 rfl underlying27 info25 rfl (by decide) (by omega) u6 x6_2 t293 _ _ _ (fun k_ => some k_ ≠ (.slice (some ad291) t287.length co14 : Value).ownBlock ∧ some k_ ≠ (.slice Ao25 t293.length co25 : Value).ownBlock ∧ k_ ≠ gb292) (fun _ => False) rfl rfl ?aO ?aR (fun _ _ h => h) (fun _ h => h.elim) ?aF ?aB ?aS ?aL ?_; (case aR => repeat (first | exact (Kd.R_reads' HO295.out).2.2 | (with_reducible refine Kd.C_alloc ?_ _) | (with_reducible refine Kd.C_drewN ?_ _) | (with_reducible refine Kd.C_drew ?_))); (case aB => exact (by repeat (first | (with_reducible first | exact HB.out | apply ba_ | apply bn_ | apply bd_ | refine below_set ?_ GE292.out) | exact HB.out))); (case aF => exact (fun k_ hk => ⟨Kd.fresh' (Kd.R_lt (rl_ HO_40)) k_ hk, Kd.fresh' (Kd.R_lt (rl_ HO295)) k_ hk, Kd.freshB (g := gb292) (o := .cells #[.int .u64 ((rd_T25 t287 x42_2).f0), .int .u64 ((rd_T25 t287 x42_2).f1)] 25 (0, 0)) (kl_ BK292) k_ hk⟩)); (case aO => exact (by (with_reducible repeat (first | apply Kd.R_alloc | apply Kd.R_drewN | apply Kd.R_drew)); exact Kd.R_mono HO_6.out (fun _ hk => ⟨hk.1.1, ⟨hk.2, hk.1.2⟩⟩))); (case aS => exact (bz_ (by repeat (first | (with_reducible first | exact HB.out | apply ba_ | apply bn_ | apply bd_ | refine below_set ?_ GE292.out) | exact HB.out)))); (case aL => have := LMc20.out; omega); intro v298 w24 ho hb hg hat; rw [← Ny297.out] at ho; have n0_ := ak_ (Kd.R_after (ok := (fun k_ => some k_ ≠ (.slice Ao25 t293.length co25 : Value).ownBlock ∧ k_ ≠ gb292)) (by (with_reducible repeat (first | apply Kd.R_alloc | apply Kd.R_drewN | apply Kd.R_drew)); exact Kd.R_mono HO_40.out (fun _ hk => ⟨⟨hk.2, hk.1.2⟩, hk.1.1⟩)) hg hat); have n1_ := ak_ (blk_grown (g := gb292) (o := .cells #[.int .u64 ((rd_T25 t287 x42_2).f0), .int .u64 ((rd_T25 t287 x42_2).f1)] 25 (0, 0)) (kl_ BK292) hg (Kd.R_away HO_6.out (fun _ hk => hk.1.2))); have n2_ := ak_ (Kd.R_after (ok := (fun k_ => some k_ ≠ (.slice (some ad291) t287.length co14 : Value).ownBlock ∧ k_ ≠ gb292)) (by (with_reducible repeat (first | apply Kd.R_alloc | apply Kd.R_drewN | apply Kd.R_drew)); exact Kd.R_mono HO295.out (fun _ hk => ⟨⟨hk.1.2, hk.2⟩, hk.1.1.2⟩)) hg hat); have n3_ := ak_ (hb); have n4_ := ak_ (ho); clear HO_40; clear BK292; clear HO295; clear HB; clear HO_6; have HO_40 := n0_; have BK292 := n1_; have HO295 := n2_; have HB := n3_; have HO299 := n4_; clear n0_ n1_ n2_ n3_ n4_; clear ho hb hg hat))
              go_roundg k2
              case measure => have := HJ9.out; have := HK2.out; omega
              case rel => exact ⟨(y297), (wrap64 (x42_2 + 1)), (by first | rfl | (simp; done) | (simp [*]; done)), H', ⟨by have := HJ9.out; have := HK2.out; omega⟩, ⟨by (with_reducible repeat (first | apply Kd.R_alloc | apply Kd.R_drewN | apply Kd.R_drew)); exact Kd.R_mono HO299.out (fun _ hk => hk.1)⟩, ⟨by (with_reducible repeat (first | apply Kd.R_alloc | apply Kd.R_drewN | apply Kd.R_drew)); exact Kd.R_mono HO_40.out (fun _ hk => hk.2)⟩, ⟨by repeat (first | (with_reducible first | exact HB.out | apply ba_ | apply bn_ | apply bd_ | refine below_set ?_ GE292.out) | exact HB.out)⟩⟩
             ·rw [if_neg c20] at H
              exact absurd H (by simp)
            ·rw [if_neg c19] at H
             have c19b0 : (t296 == 0) = false := beq_eq_false_iff_ne.mpr c19
             have c19b1 : (t296 != 0) = true := bne_iff_ne.mpr c19
             simp only [some.injEq, Prod.mk.injEq] at H
             obtain ⟨rfl, rfl⟩ := H
             have p291 : 0 ≤ (x42_2 : Int) := od_ (by first | (with_reducible assumption) | assumption)
             have q291 : x42_2 < (t287.length : Int) := od_ (by first | (with_reducible assumption) | assumption)
             obtain ⟨ad291, e291, hx291_0, hx291_1⟩ := at_T25 (Kd.R_reads' HO_40.out).2.2 x42_2 p291 q291
             cases e291
             replace p291 := eq_true p291
             replace q291 := eq_true q291
             go_wp2_with (first | ((with_reducible refine gate_dst (N := 10) rfl ?_); refine box_event ?hg (N := 10) ?hd (cs := #[.int .u64 0, .int .u64 0]) (t := 25) ?hr ?_; (case hd => rfl); (case hg => rfl); (case hr => first | (go_simp; done) | (go_simp; rfl)); intro gb292 hg w26 hbox hb; have n0_ := ak_ (Kd.R_below (Kd.R_elderB (rl_ HO_6) gb292 (Nat.le_of_eq hg.symm)) hb); have n1_ := ak_ (Kd.R_below (Kd.R_elderB (rl_ HO_40) gb292 (Nat.le_of_eq hg.symm)) hb); have n2_ := ak_ (bt_ (bl_ HB) hb); have n3_ := ak_ (hbox); have n4_ := ak_ ((gs_ hg HB)); have n5_ := ak_ ((gs_ hg HB)); clear HO_6; clear HO_40; clear HB; have HO_6 := n0_; have HO_40 := n1_; have HB := n2_; have BK292 := n3_; have GW292 := n4_; have GE292 := n5_; clear n0_ n1_ n2_ n3_ n4_ n5_; clear hb hbox hg; have hcz27_0 : w26.cell? ⟨gb292, 0, none⟩ = some (.int .u64 0) := (kc_ BK292.out 0).trans rfl; have hcz27_1 : w26.cell? ⟨gb292, 1, none⟩ = some (.int .u64 0) := (kc_ BK292.out 1).trans rfl; have hfz27_0 := kf_ BK292.out 0; have hfz27_1 := kf_ BK292.out 1) | ((with_reducible refine gate_callee (f := 17) rfl ?_); refine goesL_ (some 49) rfl rfl func17 (by kernel_rfl) rfl #[.int .i64 a0, .agg #[.int .u64 ((rd_T25 t287 x42_2).f0), .int .u64 ((rd_T25 t287 x42_2).f1)]] rfl (by (try simp only [map_toArray, map_cons, map_nil]); first | done | rfl) ?_; (with_reducible refine (sub_Split.calls k2 a0 ((rd_T25 t287 x42_2).f0) ((rd_T25 t287 x42_2).f1) t293 t296 _ A18.out).mono ?_); rintro e w28 ⟨v294, rfl, ho0, hb⟩; refine ⟨_, rfl, ?_⟩; have n0_ := ak_ (Kd.R_elder' (by (with_reducible repeat (first | apply Kd.R_alloc | apply Kd.R_drewN | apply Kd.R_drew)); exact (Kd.R_mono (Kd.R_far (p := ⟨gb292, 1, none⟩) (Kd.R_far (p := ⟨gb292, 0, none⟩) (Kd.R_mono HO_6.out (fun k_ hk => (⟨hk, hk.2⟩ : _ ∧ k_ ≠ gb292))) (fun _ hk => hk.2) (.int .u64 ((rd_T25 t287 x42_2).f0))) (fun _ hk => hk.2) (.int .u64 ((rd_T25 t287 x42_2).f1))) (fun _ h_ => h_.1))) (Kd.R_base ho0) hb); have n1_ := ak_ (Kd.R_elder' (by (with_reducible repeat (first | apply Kd.R_alloc | apply Kd.R_drewN | apply Kd.R_drew)); exact (Kd.R_mono (Kd.R_far (p := ⟨gb292, 1, none⟩) (Kd.R_far (p := ⟨gb292, 0, none⟩) (Kd.R_mono HO_40.out (fun k_ hk => (⟨hk, hk.2⟩ : _ ∧ k_ ≠ gb292))) (fun _ hk => hk.2) (.int .u64 ((rd_T25 t287 x42_2).f0))) (fun _ hk => hk.2) (.int .u64 ((rd_T25 t287 x42_2).f1))) (fun _ h_ => h_.1))) (Kd.R_base ho0) hb); have n2_ := ak_ (Kd.R_lower (Kd.R_newB (Kd.R_new' (Kd.R_new' ho0 (Kd.R_lt (by (with_reducible repeat (first | apply Kd.R_alloc | apply Kd.R_drewN | apply Kd.R_drew)); exact (Kd.R_mono (Kd.R_far (p := ⟨gb292, 1, none⟩) (Kd.R_far (p := ⟨gb292, 0, none⟩) (Kd.R_mono HO_6.out (fun k_ hk => (⟨hk, hk.2⟩ : _ ∧ k_ ≠ gb292))) (fun _ hk => hk.2) (.int .u64 ((rd_T25 t287 x42_2).f0))) (fun _ hk => hk.2) (.int .u64 ((rd_T25 t287 x42_2).f1))) (fun _ h_ => h_.1))))) (Kd.R_lt (by (with_reducible repeat (first | apply Kd.R_alloc | apply Kd.R_drewN | apply Kd.R_drew)); exact (Kd.R_mono (Kd.R_far (p := ⟨gb292, 1, none⟩) (Kd.R_far (p := ⟨gb292, 0, none⟩) (Kd.R_mono HO_40.out (fun k_ hk => (⟨hk, hk.2⟩ : _ ∧ k_ ≠ gb292))) (fun _ hk => hk.2) (.int .u64 ((rd_T25 t287 x42_2).f0))) (fun _ hk => hk.2) (.int .u64 ((rd_T25 t287 x42_2).f1))) (fun _ h_ => h_.1))))) (g := gb292) (o := .cells #[.int .u64 ((rd_T25 t287 x42_2).f0), .int .u64 ((rd_T25 t287 x42_2).f1)] 25 (0, 0)) (by (with_reducible repeat (first | refine kn_ ?_ _ | refine kd_ ?_ | refine ka_ ?_ _)); refine blk_put (cs := #[.int .u64 ((rd_T25 t287 x42_2).f0), .int .u64 0]) ?_ 1 _ rfl; (with_reducible repeat (first | refine kn_ ?_ _ | refine kd_ ?_ | refine ka_ ?_ _)); refine blk_put (cs := #[.int .u64 0, .int .u64 0]) ?_ 0 _ rfl; (with_reducible repeat (first | refine kn_ ?_ _ | refine kd_ ?_ | refine ka_ ?_ _)); exact BK292.out)) (bz_ (by repeat (first | (with_reducible first | exact HB.out | apply ba_ | apply bn_ | apply bd_ | refine below_set ?_ GE292.out) | exact HB.out)))); have n3_ := ak_ (kb_ (g := gb292) (o := .cells #[.int .u64 ((rd_T25 t287 x42_2).f0), .int .u64 ((rd_T25 t287 x42_2).f1)] 25 (0, 0)) (by (with_reducible repeat (first | refine kn_ ?_ _ | refine kd_ ?_ | refine ka_ ?_ _)); refine blk_put (cs := #[.int .u64 ((rd_T25 t287 x42_2).f0), .int .u64 0]) ?_ 1 _ rfl; (with_reducible repeat (first | refine kn_ ?_ _ | refine kd_ ?_ | refine ka_ ?_ _)); refine blk_put (cs := #[.int .u64 0, .int .u64 0]) ?_ 0 _ rfl; (with_reducible repeat (first | refine kn_ ?_ _ | refine kd_ ?_ | refine ka_ ?_ _)); exact BK292.out) hb); have n4_ := ak_ (bt_ (by repeat (first | (with_reducible first | exact HB.out | apply ba_ | apply bn_ | apply bd_ | refine below_set ?_ GE292.out) | exact HB.out)) hb); clear HO_6; clear HO_40; clear BK292; clear HB; have HO_6 := n0_; have HO_40 := n1_; have HO295 := n2_; have BK292 := n3_; have HB := n4_; clear n0_ n1_ n2_ n3_ n4_; (try clear hb); (try clear hk); (try clear ho0)))
             go_ret2
             exact ⟨_, by first | rfl | (simp <;> rfl) | (simp [*] <;> rfl), by first | exact Kd.R_nil _ _ _ _ _ | exact Kd.N_nil _ _ _ _ _ | exact Kd.V_nil _ _ _ _ _ | exact Kd.Q_nil _ _ _ _ _ | exact Kd.S_nil _ _ _ _ _, by repeat (first | (with_reducible first | exact HB.out | apply ba_ | apply bn_ | apply bd_ | refine below_set ?_ GE292.out) | exact HB.out)⟩
           ·rw [if_neg c17] at H
            exact absurd H (by simp)
          ·rw [if_neg c16] at H
           exact absurd H (by simp)
         ·rw [if_neg c15] at H
          have c15b0 := decide_eq_false c15
          clear c15
          replace H := bind_eq_some_iff.mp H
          obtain ⟨t300, A290, H⟩ := H
          replace H : (some (t300, 0)) = some (r1, r2) := H
          have A29 := ak_ A290
          clear A290
          simp only [some.injEq, Prod.mk.injEq] at H
          obtain ⟨rfl, rfl⟩ := H
          obtain ⟨Ao30, co30, eo30⟩ := Kd.R_slice HO_6.out
          subst eo30
          go_wp2_with (first | ((with_reducible refine gate_callee (f := 18) rfl ?_); refine goesL_ (some 60) rfl rfl func18 (by kernel_rfl) rfl #[.slice Ao30 x6_2.length co30] rfl (by (try simp only [map_toArray, map_cons, map_nil]); first | done | rfl) ?_; (with_reducible refine (layer_Order.calls k2 _ _ x6_2 t300 _ ?side1 ?side2 A29.out).mono ?_); (case side1 => repeat (first | exact (Kd.R_reads' HO_6.out).2.2 | (with_reducible refine Kd.C_alloc ?_ _) | (with_reducible refine Kd.C_drewN ?_ _) | (with_reducible refine Kd.C_drew ?_))); (case side2 => exact (Kd.R_reads' HO_6.out).2.1); rintro e w31 ⟨v301, rfl, ho0, hb⟩; refine ⟨_, rfl, ?_⟩; have n0_ := ak_ (Kd.R_elder' (rl_ HO_6) (Kd.R_base ho0) hb); have n1_ := ak_ (Kd.R_elder' (rl_ HO_40) (Kd.R_base ho0) hb); have n2_ := ak_ (Kd.R_lower (Kd.R_new' (Kd.R_new' ho0 (Kd.R_lt (rl_ HO_6))) (Kd.R_lt (rl_ HO_40))) (bz_ (bl_ HB))); have n3_ := ak_ (bt_ (bl_ HB) hb); clear HO_6; clear HO_40; clear HB; have HO_6 := n0_; have HO_40 := n1_; have HO302 := n2_; have HB := n3_; clear n0_ n1_ n2_ n3_; (try clear hb); (try clear hk); (try clear ho0)))
          go_ret2
          exact ⟨_, by first | rfl | (simp <;> rfl) | (simp [*] <;> rfl), by (with_reducible repeat (first | apply Kd.R_alloc | apply Kd.R_drewN | apply Kd.R_drew)); exact Kd.R_mono HO302.out (fun _ hk => trivial), bl_ HB⟩
  ·rw [if_neg c5] at H
   have c5b0 : (t282 == 0) = false := beq_eq_false_iff_ne.mpr c5
   have c5b1 : (t282 != 0) = true := bne_iff_ne.mpr c5
   simp only [some.injEq, Prod.mk.injEq] at H
   obtain ⟨rfl, rfl⟩ := H
   go_enter func5, ntmps5
   go_wp2_with (first | ((with_reducible refine gate_callee (f := 14) rfl ?_); refine goesL_ (some 15) rfl rfl func14 (by kernel_rfl) rfl #[.int .i64 a0, .int .i64 a1] rfl (by (try simp only [map_toArray, map_cons, map_nil]); first | done | rfl) ?_; (with_reducible refine (layer_check.calls k a0 a1 t282 _ A4.out).mono ?_); rintro e w' ⟨rfl, ⟨nd, rfl⟩⟩; refine ⟨_, rfl, ?_⟩))
   go_ret2
   exact ⟨_, by first | rfl | (simp <;> rfl) | (simp [*] <;> rfl), by first | exact Kd.R_nil _ _ _ _ _ | exact Kd.N_nil _ _ _ _ _ | exact Kd.V_nil _ _ _ _ _ | exact Kd.Q_nil _ _ _ _ _ | exact Kd.S_nil _ _ _ _ _, bl_ HB⟩
def medlarref08_Same.l0 : Nat → List (S25) → List (S25) → Int → Int → Option (Bool)
  | 0, _, _, _, _ => none
  | k + 1, x0, x1, x12, x13 => if x13 < x12 then (if 0 ≤ x13 then (if x13 < (x0.length : Int) then (if x13 < (x1.length : Int) then (if (!(((rd_T25 x0 x13).f0) == ((rd_T25 x1 x13).f0)) || (!(((rd_T25 x0 x13).f1) == ((rd_T25 x1 x13).f1)))) = true then (some false) else (medlarref08_Same.l0 k x0 x1 x12 (wrap64 (x13 + 1)))) else (none)) else (none)) else (none)) else (some true)
def medlarref08_Same.f (k : Nat) (l0 : List (S25)) (l1 : List (S25)) : Option (Bool) := if (l0.length : Int) = (l1.length : Int) then (medlarref08_Same.l0 k l0 l1 (l0.length : Int) 0) else (some false)
set_option maxHeartbeats 8000000 in
set_option maxRecDepth 100000 in
theorem medlarref08_Same.calls (k : Nat) (A0 : Option Addr) (c0 : Nat) (l0 : List (S25)) (A1 : Option Addr) (c1 : Nat) (l1 : List (S25)) (r : Bool) (w : World) (hr0 : Kd.C k25 w A0 l0.length l0) (hc0 : l0.length ≤ c0) (hr1 : Kd.C k25 w A1 l1.length l1) (hc1 : l1.length ≤ c1) (h : medlarref08_Same.f k l0 l1 = some r) :
   Calls Tryz.prog 13 #[.slice A0 l0.length c0, .slice A1 l1.length c1] w fun e w' => e = .returned (.bool r) ∧ Drawn0 w w' := by
  have hu25 := underlying25
  have HR0 := ak_ hr0
  have HC0 := ak_ hc0
  clear hr0 hc0
  have HR1 := ak_ hr1
  have HC1 := ak_ hc1
  clear hr1 hc1
  have H : (if (l0.length : Int) = (l1.length : Int) then (medlarref08_Same.l0 k l0 l1 (l0.length : Int) 0) else (some false)) = some r := h
  clear h
  by_cases c3 : (l0.length : Int) = (l1.length : Int)
  ·rw [if_pos c3] at H
   have c3b0 : ((l0.length : Int) == (l1.length : Int)) = true := beq_iff_eq.mpr c3
   have c3b1 : ((l0.length : Int) != (l1.length : Int)) = false := bne_eq_false_iff_eq.mpr c3
   have c3b2 : (l0.length == l1.length) = true := by first | simpa using c3 | (simp at c3 ⊢; omega)
   clear c3
   have H' := ak_ H
   clear H
   go_enter func13, ntmps13
   go_wp2
   repeat (go_quiet (fail); try go_wp2)
   go_loopg [13] k (fun kq v13 w' => ∃ (x13_1 : Int), v13 = .int .i64 x13_1 ∧ Aside0 (medlarref08_Same.l0 kq l0 l1 (l0.length : Int) x13_1 = some r) ∧ Aside0 (kq ≤ k) ∧ Drawn0 w w')
   case atStart => exact ⟨(0), (by first | rfl | (simp; done) | (simp [*]; done)), H', ⟨Nat.le_refl _⟩, by repeat (first | exact Drawn0.refl _ | apply Drawn0.step)⟩
   case round =>
    clear H'
    try clear c1
    try clear p2
    try clear c3
    try clear c3b0
    try clear c3b1
    try clear c3b2
    obtain ⟨x13_1, rfl, HA, HK1, ⟨m1, rfl⟩⟩ := hrel
    cases gk with
    | zero => exact absurd HA.out (by simp [medlarref08_Same.l0])
    | succ k1 =>
     have H := HA.out
     clear HA
     simp only [medlarref08_Same.l0] at H
     by_cases c4 : x13_1 < (l0.length : Int)
     ·rw [if_pos c4] at H
      have c4b0 := decide_eq_true c4
      clear c4
      by_cases c5 : 0 ≤ x13_1
      ·rw [if_pos c5] at H
       have c5b0 := decide_eq_true c5
       clear c5
       by_cases c6 : x13_1 < (l0.length : Int)
       ·rw [if_pos c6] at H
        have c6b0 := decide_eq_true c6
        clear c6
        by_cases c7 : x13_1 < (l1.length : Int)
        ·rw [if_pos c7] at H
         have c7b0 := decide_eq_true c7
         clear c7
         by_cases c8 : (!(((rd_T25 l0 x13_1).f0) == ((rd_T25 l1 x13_1).f0)) || (!(((rd_T25 l0 x13_1).f1) == ((rd_T25 l1 x13_1).f1)))) = true
         ·rw [if_pos c8] at H
          have c8b0 : (!(((rd_T25 l0 x13_1).f0) == ((rd_T25 l1 x13_1).f0)) || (!(((rd_T25 l0 x13_1).f1) == ((rd_T25 l1 x13_1).f1)))) = true := c8
          clear c8
          obtain rfl := Option.some.inj H
          have p303 : 0 ≤ (x13_1 : Int) := od_ (by first | (with_reducible assumption) | assumption)
          have q303 : x13_1 < (l0.length : Int) := od_ (by first | (with_reducible assumption) | assumption)
          obtain ⟨ad303, e303, hx303_0, hx303_1⟩ := at_T25 HR0.out x13_1 p303 q303
          cases e303
          replace p303 := eq_true p303
          replace q303 := eq_true q303
          have p304 : 0 ≤ (x13_1 : Int) := od_ (by first | (with_reducible assumption) | assumption)
          have q304 : x13_1 < (l1.length : Int) := od_ (by first | (with_reducible assumption) | assumption)
          obtain ⟨ad304, e304, hx304_0, hx304_1⟩ := at_T25 HR1.out x13_1 p304 q304
          cases e304
          replace p304 := eq_true p304
          replace q304 := eq_true q304
          go_wp2
          repeat (go_quiet (fail); try go_wp2)
          go_ret
          exact ⟨by first | rfl | (simp; done) | (simp [*]; done), by repeat (first | exact Drawn0.refl _ | apply Drawn0.step)⟩
         ·rw [if_neg c8] at H
          have c8b0 : (!(((rd_T25 l0 x13_1).f0) == ((rd_T25 l1 x13_1).f0)) || (!(((rd_T25 l0 x13_1).f1) == ((rd_T25 l1 x13_1).f1)))) = false := by simpa using c8
          clear c8
          have H' := ak_ H
          clear H
          have p303 : 0 ≤ (x13_1 : Int) := od_ (by first | (with_reducible assumption) | assumption)
          have q303 : x13_1 < (l0.length : Int) := od_ (by first | (with_reducible assumption) | assumption)
          obtain ⟨ad303, e303, hx303_0, hx303_1⟩ := at_T25 HR0.out x13_1 p303 q303
          cases e303
          replace p303 := eq_true p303
          replace q303 := eq_true q303
          have p304 : 0 ≤ (x13_1 : Int) := od_ (by first | (with_reducible assumption) | assumption)
          have q304 : x13_1 < (l1.length : Int) := od_ (by first | (with_reducible assumption) | assumption)
          obtain ⟨ad304, e304, hx304_0, hx304_1⟩ := at_T25 HR1.out x13_1 p304 q304
          cases e304
          replace p304 := eq_true p304
          replace q304 := eq_true q304
          go_wp2
          repeat (go_quiet (fail); try go_wp2)
          go_roundg k1
          case measure => have := HK1.out; omega
          case rel => exact ⟨(wrap64 (x13_1 + 1)), (by first | rfl | (simp; done) | (simp [*]; done)), H', ⟨by have := HK1.out; omega⟩, by repeat (first | exact Drawn0.refl _ | apply Drawn0.step)⟩
        ·rw [if_neg c7] at H
         exact absurd H (by simp)
       ·rw [if_neg c6] at H
        exact absurd H (by simp)
      ·rw [if_neg c5] at H
       exact absurd H (by simp)
     ·rw [if_neg c4] at H
      have c4b0 := decide_eq_false c4
      clear c4
      obtain rfl := Option.some.inj H
      go_wp2
      repeat (go_quiet (fail); try go_wp2)
      go_ret
      exact ⟨by first | rfl | (simp; done) | (simp [*]; done), by repeat (first | exact Drawn0.refl _ | apply Drawn0.step)⟩
  ·rw [if_neg c3] at H
   have c3b0 : ((l0.length : Int) == (l1.length : Int)) = false := beq_eq_false_iff_ne.mpr c3
   have c3b1 : ((l0.length : Int) != (l1.length : Int)) = true := bne_iff_ne.mpr c3
   have c3b2 : (l0.length == l1.length) = false := by first | simpa using c3 | (simp at c3 ⊢; omega)
   obtain rfl := Option.some.inj H
   go_enter func13, ntmps13
   go_wp2
   repeat (go_quiet (fail); try go_wp2)
   go_ret
   exact ⟨by first | rfl | (simp; done) | (simp [*]; done), by repeat (first | exact Drawn0.refl _ | apply Drawn0.step)⟩
def medlarlaw12_live.f (k : Nat)  : Option (Bool) := (layer_Cover.f k 4 3 (([0] : List Int))).bind fun bt308 => (if bt308.2 = 0 then ((medlarref08_Same.f k bt308.1 (([(⟨1, 16⟩ : S25)] : List (S25)))).bind fun t315 => (some t315)) else (some false))
set_option maxHeartbeats 8000000 in
set_option maxRecDepth 100000 in
theorem medlarlaw12_live.calls (k : Nat)  (r : Bool) (w : World) (h : medlarlaw12_live.f k  = some r) :
   Calls Tryz.prog 4 #[] w fun e w' => e = .returned (.bool r) ∧ Below w.heap.size w w' := by
  have hu25 := underlying25
  have HB := ak_ (Below.refl w.heap.size w)
  have H : ((layer_Cover.f k 4 3 (([0] : List Int))).bind fun bt308 => (if bt308.2 = 0 then ((medlarref08_Same.f k bt308.1 (([(⟨1, 16⟩ : S25)] : List (S25)))).bind fun t315 => (some t315)) else (some false))) = some r := h
  clear h
  obtain ⟨y305, hy305⟩ : ∃ y_ : List Int, y_ = (([0] : List Int)) := ⟨_, rfl⟩
  replace H : ((layer_Cover.f k 4 3 y305).bind fun bt308 => (if bt308.2 = 0 then ((medlarref08_Same.f k bt308.1 (([(⟨1, 16⟩ : S25)] : List (S25)))).bind fun t315 => (some t315)) else (some false))) = some r := by first | (rw [hy305]; with_reducible exact H) | (have H2_ := (Option.bind_some _ _).symm.trans H; rw [hy305]; with_reducible exact H2_) | (have H2_ := (Option.bind_some _ _).symm.trans H; with_reducible exact H2_) | with_reducible exact H | (rw [hy305]; exact H) | exact H
  have Ny305 := ak_ hy305
  clear hy305
  replace H := bind_eq_some_iff.mp H
  obtain ⟨⟨t308, t309⟩, A10, H⟩ := H
  replace H : (if t309 = 0 then ((medlarref08_Same.f k t308 (([(⟨1, 16⟩ : S25)] : List (S25)))).bind fun t315 => (some t315)) else (some false)) = some r := H
  have A1 := ak_ A10
  clear A10
  by_cases c2 : t309 = 0
  ·rw [if_pos c2] at H
   have c2b0 : (t309 == 0) = true := beq_iff_eq.mpr c2
   have c2b1 : (t309 != 0) = false := bne_eq_false_iff_eq.mpr c2
   clear c2
   obtain ⟨y312, hy312⟩ : ∃ y_ : List (S25), y_ = (([(⟨1, 16⟩ : S25)] : List (S25))) := ⟨_, rfl⟩
   replace H : ((medlarref08_Same.f k t308 y312).bind fun t315 => (some t315)) = some r := by first | (rw [hy312]; with_reducible exact H) | (have H2_ := (Option.bind_some _ _).symm.trans H; rw [hy312]; with_reducible exact H2_) | (have H2_ := (Option.bind_some _ _).symm.trans H; with_reducible exact H2_) | with_reducible exact H | (rw [hy312]; exact H) | exact H
   have Ny312 := ak_ hy312
   clear hy312
   replace H := bind_eq_some_iff.mp H
   obtain ⟨t315, A30, H⟩ := H
   replace H : (some t315) = some r := H
   have A3 := ak_ A30
   clear A30
   obtain rfl := Option.some.inj H
   go_enter func4, ntmps4
   go_wp2_with (first | ((with_reducible refine gate_dst (N := 4) rfl ?_); (try (refine gate_guard (by rfl) ?_; dsimp only)); refine Kd.R_lit (Kd.int .u64) _ 23 ?hg (N := 4) ?hd (xs := ([0] : List Int)) (inner := [.int .u64 0]) (ok := fun _ => True) (okp := fun _ => True) ?hr ?hp (fun _ hk => hk) trivial (Below.refl _ _) (Nat.le_refl _) (by simp) ?_; (case hd => rfl); (case hg => rfl); (case hr => first | (go_simp; done) | (go_simp; rfl)); (case hp => exact (Reps.one (show Kd.M (Kd.int .u64) _ _ _ 0 [.int .u64 0] from rfl) (Reps.none _ _))); intro v306 w4 ho5 hb hg_ hnew_; clear hg_ hnew_; (first | rw [← Ny305.out] at ho5 | (simp only [Int.reduceToNat] at ho5; rw [← Ny305.out] at ho5)); have n0_ := ak_ (Kd.R_lower ho5 (bz_ (bl_ HB))); have n1_ := ak_ (bt_ (bl_ HB) hb); clear HB; have HO307 := n0_; have HB := n1_; clear n0_ n1_; clear hb ho5; obtain ⟨Ao6, co6, eo6⟩ := Kd.R_slice HO307.out; subst eo6) | ((with_reducible refine gate_callee (f := 5) rfl ?_); refine goesL_ (some 5) rfl rfl func5 (by kernel_rfl) rfl #[.int .i64 4, .int .i64 3, .slice Ao6 y305.length co6] rfl (by (try simp only [map_toArray, map_cons, map_nil]); first | done | rfl | (simp only [length_drop, length_take]; rfl)) ?_; (with_reducible refine (layer_Cover.calls k 4 3 _ _ y305 t308 t309 _ ?side1 ?side2 A1.out).mono ?_); (case side1 => repeat (first | exact (Kd.R_reads' HO307.out).2.2 | (with_reducible refine Kd.C_alloc ?_ _) | (with_reducible refine Kd.C_drewN ?_ _) | (with_reducible refine Kd.C_drew ?_))); (case side2 => exact (Kd.R_reads' HO307.out).2.1); rintro e w7 ⟨v310, rfl, ho0, hb⟩; refine ⟨_, rfl, ?_⟩; have n0_ := ak_ (Kd.R_below (rl_ HO307) hb); have n1_ := ak_ (Kd.R_lower ho0 (bz_ (bl_ HB))); have n2_ := ak_ (bt_ (bl_ HB) hb); clear HO307; clear HB; have HO307 := n0_; have HO311 := n1_; have HB := n2_; clear n0_ n1_ n2_; (try clear hb); (try clear hk); (try clear ho0)) | ((with_reducible refine gate_dst (N := 13) rfl ?_); (try (refine gate_guard (by rfl) ?_; dsimp only)); refine Kd.R_lit k25 _ 25 ?hg (N := 13) ?hd (xs := ([(⟨1, 16⟩ : S25)] : List (S25))) (inner := [.int .u64 1, .int .u64 16]) (ok := fun _ => True) (okp := fun _ => True) ?hr ?hp (fun _ hk => hk) trivial (Below.refl _ _) (Nat.le_refl _) (by simp) ?_; (case hd => rfl); (case hg => rfl); (case hr => first | (go_simp; done) | (go_simp; rfl)); (case hp => exact (Reps.c2 (show Kd.M k25 _ _ _ (⟨1, 16⟩ : S25) [.int .u64 1, .int .u64 16] from (k25_mkM _ _ _ (⟨1, 16⟩ : S25) )) (Reps.none _ _))); intro v313 w8 ho9 hb hg_ hnew_; clear hg_ hnew_; (first | rw [← Ny312.out] at ho9 | (simp only [Int.reduceToNat] at ho9; rw [← Ny312.out] at ho9)); have n0_ := ak_ (Kd.R_below (rl_ HO307) hb); have n1_ := ak_ (Kd.R_elder' (rl_ HO311) (Kd.R_base ho9) hb); have n2_ := ak_ (Kd.R_lower (Kd.R_new' ho9 (Kd.R_lt (rl_ HO311))) (bz_ (bl_ HB))); have n3_ := ak_ (bt_ (bl_ HB) hb); clear HO307; clear HO311; clear HB; have HO307 := n0_; have HO311 := n1_; have HO314 := n2_; have HB := n3_; clear n0_ n1_ n2_ n3_; clear hb ho9; obtain ⟨Ao10, co10, eo10⟩ := Kd.R_slice HO311.out; subst eo10; obtain ⟨Ao11, co11, eo11⟩ := Kd.R_slice HO314.out; subst eo11) | (go_at_call 13; (with_reducible refine (medlarref08_Same.calls k _ _ t308 _ _ y312 t315 _ ?side1 ?side2 ?side3 ?side4 A3.out).mono ?_); (case side1 => repeat (first | exact (Kd.R_reads' HO311.out).2.2 | (with_reducible refine Kd.C_alloc ?_ _) | (with_reducible refine Kd.C_drewN ?_ _) | (with_reducible refine Kd.C_drew ?_))); (case side2 => exact (Kd.R_reads' HO311.out).2.1); (case side3 => repeat (first | exact (Kd.R_reads' HO314.out).2.2 | (with_reducible refine Kd.C_alloc ?_ _) | (with_reducible refine Kd.C_drewN ?_ _) | (with_reducible refine Kd.C_drew ?_))); (case side4 => exact (Kd.R_reads' HO314.out).2.1); rintro e w' ⟨rfl, ⟨nd, rfl⟩⟩))
   go_ret
   exact ⟨by first | rfl | (simp <;> rfl) | (simp [*] <;> rfl), bl_ HB⟩
  ·rw [if_neg c2] at H
   have c2b0 : (t309 == 0) = false := beq_eq_false_iff_ne.mpr c2
   have c2b1 : (t309 != 0) = true := bne_iff_ne.mpr c2
   obtain rfl := Option.some.inj H
   go_enter func4, ntmps4
   go_wp2_with (first | ((with_reducible refine gate_dst (N := 4) rfl ?_); (try (refine gate_guard (by rfl) ?_; dsimp only)); refine Kd.R_lit (Kd.int .u64) _ 23 ?hg (N := 4) ?hd (xs := ([0] : List Int)) (inner := [.int .u64 0]) (ok := fun _ => True) (okp := fun _ => True) ?hr ?hp (fun _ hk => hk) trivial (Below.refl _ _) (Nat.le_refl _) (by simp) ?_; (case hd => rfl); (case hg => rfl); (case hr => first | (go_simp; done) | (go_simp; rfl)); (case hp => exact (Reps.one (show Kd.M (Kd.int .u64) _ _ _ 0 [.int .u64 0] from rfl) (Reps.none _ _))); intro v306 w12 ho13 hb hg_ hnew_; clear hg_ hnew_; (first | rw [← Ny305.out] at ho13 | (simp only [Int.reduceToNat] at ho13; rw [← Ny305.out] at ho13)); have n0_ := ak_ (Kd.R_lower ho13 (bz_ (bl_ HB))); have n1_ := ak_ (bt_ (bl_ HB) hb); clear HB; have HO307 := n0_; have HB := n1_; clear n0_ n1_; clear hb ho13; obtain ⟨Ao14, co14, eo14⟩ := Kd.R_slice HO307.out; subst eo14) | ((with_reducible refine gate_callee (f := 5) rfl ?_); refine goesL_ (some 5) rfl rfl func5 (by kernel_rfl) rfl #[.int .i64 4, .int .i64 3, .slice Ao14 y305.length co14] rfl (by (try simp only [map_toArray, map_cons, map_nil]); first | done | rfl | (simp only [length_drop, length_take]; rfl)) ?_; (with_reducible refine (layer_Cover.calls k 4 3 _ _ y305 t308 t309 _ ?side1 ?side2 A1.out).mono ?_); (case side1 => repeat (first | exact (Kd.R_reads' HO307.out).2.2 | (with_reducible refine Kd.C_alloc ?_ _) | (with_reducible refine Kd.C_drewN ?_ _) | (with_reducible refine Kd.C_drew ?_))); (case side2 => exact (Kd.R_reads' HO307.out).2.1); rintro e w15 ⟨v310, rfl, ho0, hb⟩; refine ⟨_, rfl, ?_⟩; have n0_ := ak_ (Kd.R_below (rl_ HO307) hb); have n1_ := ak_ (Kd.R_lower ho0 (bz_ (bl_ HB))); have n2_ := ak_ (bt_ (bl_ HB) hb); clear HO307; clear HB; have HO307 := n0_; have HO311 := n1_; have HB := n2_; clear n0_ n1_ n2_; (try clear hb); (try clear hk); (try clear ho0)))
   go_ret
   exact ⟨by first | rfl | (simp <;> rfl) | (simp [*] <;> rfl), bl_ HB⟩
def medlarref01_power.l0 : Nat → Int → Int → Int → Option (Int)
  | 0, _, _, _ => none
  | k + 1, x3, x4, x5 => if x5 < x4 then (medlarref01_power.l0 k (IntKind.u64.wrap (2 * x3)) x4 (wrap64 (x5 + 1))) else (some x3)
def medlarref01_power.f (k : Nat) (a0 : Int) : Option (Int) := medlarref01_power.l0 k 1 a0 0
set_option maxHeartbeats 8000000 in
set_option maxRecDepth 100000 in
theorem medlarref01_power.calls (k : Nat) (a0 : Int) (r : Int) (w : World) (h : medlarref01_power.f k a0 = some r) :
   Calls Tryz.prog 64 #[.int .i64 a0] w fun e w' => e = .returned (.int .u64 r) ∧ Drawn0 w w' := by
  have H : (medlarref01_power.l0 k 1 a0 0) = some r := h
  clear h
  have H' := ak_ H
  clear H
  go_enter func64, ntmps64
  go_wp2
  go_loopg [3, 5] k (fun kq v3 v5 w' => ∃ (x3_1 : Int) (x5_1 : Int), v3 = .int .u64 x3_1 ∧ v5 = .int .i64 x5_1 ∧ Aside0 (medlarref01_power.l0 kq x3_1 a0 x5_1 = some r) ∧ Aside0 (kq ≤ k) ∧ Drawn0 w w')
  case atStart => exact ⟨(1), (0), (by first | rfl | (simp; done) | (simp [*]; done)), (by first | rfl | (simp; done) | (simp [*]; done)), H', ⟨Nat.le_refl _⟩, by repeat (first | exact Drawn0.refl _ | apply Drawn0.step)⟩
  case round =>
   clear H'
   obtain ⟨x3_1, x5_1, rfl, rfl, HA, HK1, ⟨m1, rfl⟩⟩ := hrel
   cases gk with
   | zero => exact absurd HA.out (by simp [medlarref01_power.l0])
   | succ k1 =>
    have H := HA.out
    clear HA
    simp only [medlarref01_power.l0] at H
    by_cases c2 : x5_1 < a0
    ·rw [if_pos c2] at H
     have c2b0 := decide_eq_true c2
     clear c2
     have H' := ak_ H
     clear H
     go_wp2
     go_roundg k1
     case measure => have := HK1.out; omega
     case rel => exact ⟨(IntKind.u64.wrap (2 * x3_1)), (wrap64 (x5_1 + 1)), (by first | rfl | (simp; done) | (simp [*]; done)), (by first | rfl | (simp; done) | (simp [*]; done)), H', ⟨by have := HK1.out; omega⟩, by repeat (first | exact Drawn0.refl _ | apply Drawn0.step)⟩
    ·rw [if_neg c2] at H
     have c2b0 := decide_eq_false c2
     clear c2
     obtain rfl := Option.some.inj H
     go_wp2
     go_ret
     exact ⟨by first | rfl | (simp; done) | (simp [*]; done), by repeat (first | exact Drawn0.refl _ | apply Drawn0.step)⟩
def medlarref01_May.f (k : Nat) (a0 : Int) (a1 : Int) : Option (Bool) := if a0 ≥ 1 then (if a0 ≤ 32 then (if a1 ≥ 1 then ((medlarref01_power.f k (wrap64 (a0 + 1))).bind fun t316 => (some (decide (a1 < t316)))) else (some false)) else (some false)) else (some false)
set_option maxHeartbeats 8000000 in
set_option maxRecDepth 100000 in
theorem medlarref01_May.calls (k : Nat) (a0 : Int) (a1 : Int) (r : Bool) (w : World) (h : medlarref01_May.f k a0 a1 = some r) :
   Calls Tryz.prog 50 #[.int .i64 a0, .int .u64 a1] w fun e w' => e = .returned (.bool r) ∧ Drawn0 w w' := by
  have H : (if a0 ≥ 1 then (if a0 ≤ 32 then (if a1 ≥ 1 then ((medlarref01_power.f k (wrap64 (a0 + 1))).bind fun t316 => (some (decide (a1 < t316)))) else (some false)) else (some false)) else (some false)) = some r := h
  clear h
  by_cases c3 : a0 ≥ 1
  ·rw [if_pos c3] at H
   have c3b0 : decide (1 ≤ a0) = true := decide_eq_true c3
   clear c3
   by_cases c4 : a0 ≤ 32
   ·rw [if_pos c4] at H
    have c4b0 := decide_eq_true c4
    clear c4
    by_cases c5 : a1 ≥ 1
    ·rw [if_pos c5] at H
     have c5b0 : decide (1 ≤ a1) = true := decide_eq_true c5
     clear c5
     replace H := bind_eq_some_iff.mp H
     obtain ⟨t316, A60, H⟩ := H
     replace H : (some (decide (a1 < t316))) = some r := H
     have A6 := ak_ A60
     clear A60
     obtain rfl := Option.some.inj H
     go_enter func50, ntmps50
     go_wp2_with (first | (go_at_call 64; (with_reducible refine (medlarref01_power.calls k (wrap64 (a0 + 1)) t316 _ A6.out).mono ?_); rintro e w' ⟨rfl, ⟨nd, rfl⟩⟩))
     go_ret
     exact ⟨by first | rfl | (simp; done) | (simp [*]; done), by repeat (first | exact Drawn0.refl _ | apply Drawn0.step)⟩
    ·rw [if_neg c5] at H
     have c5b0 : decide (1 ≤ a1) = false := decide_eq_false c5
     clear c5
     obtain rfl := Option.some.inj H
     go_enter func50, ntmps50
     go_wp2
     go_ret
     exact ⟨by first | rfl | (simp; done) | (simp [*]; done), by repeat (first | exact Drawn0.refl _ | apply Drawn0.step)⟩
   ·rw [if_neg c4] at H
    have c4b0 := decide_eq_false c4
    clear c4
    obtain rfl := Option.some.inj H
    go_enter func50, ntmps50
    go_wp2
    go_ret
    exact ⟨by first | rfl | (simp; done) | (simp [*]; done), by repeat (first | exact Drawn0.refl _ | apply Drawn0.step)⟩
  ·rw [if_neg c3] at H
   have c3b0 : decide (1 ≤ a0) = false := decide_eq_false c3
   clear c3
   obtain rfl := Option.some.inj H
   go_enter func50, ntmps50
   go_wp2
   go_ret
   exact ⟨by first | rfl | (simp; done) | (simp [*]; done), by repeat (first | exact Drawn0.refl _ | apply Drawn0.step)⟩
def medlarref12_scheme.f (k : Nat) (a0 : Int) (a1 : Int) : Option (Bool) := (medlarref01_May.f k a0 1).bind fun t317 => (if t317 = true then (if a1 ≥ 1 then (some (decide (a1 ≤ 3))) else (some false)) else (some false))
set_option maxHeartbeats 8000000 in
set_option maxRecDepth 100000 in
theorem medlarref12_scheme.calls (k : Nat) (a0 : Int) (a1 : Int) (r : Bool) (w : World) (h : medlarref12_scheme.f k a0 a1 = some r) :
   Calls Tryz.prog 19 #[.int .i64 a0, .int .i64 a1] w fun e w' => e = .returned (.bool r) ∧ Drawn0 w w' := by
  have H : ((medlarref01_May.f k a0 1).bind fun t317 => (if t317 = true then (if a1 ≥ 1 then (some (decide (a1 ≤ 3))) else (some false)) else (some false))) = some r := h
  clear h
  replace H := bind_eq_some_iff.mp H
  obtain ⟨t317, A30, H⟩ := H
  replace H : (if t317 = true then (if a1 ≥ 1 then (some (decide (a1 ≤ 3))) else (some false)) else (some false)) = some r := H
  have A3 := ak_ A30
  clear A30
  by_cases c4 : t317 = true
  ·subst c4
   have H1 : (if a1 ≥ 1 then (some (decide (a1 ≤ 3))) else (some false)) = some r := by rw [if_pos rfl] at H; exact H
   clear H
   have H := H1
   clear H1
   by_cases c5 : a1 ≥ 1
   ·rw [if_pos c5] at H
    have c5b0 : decide (1 ≤ a1) = true := decide_eq_true c5
    clear c5
    obtain rfl := Option.some.inj H
    go_enter func19, ntmps19
    go_wp2_with (first | ((with_reducible refine gate_callee (f := 50) rfl ?_); refine goesL_ (some 6) rfl rfl func50 (by kernel_rfl) rfl #[.int .i64 a0, .int .u64 1] rfl (by (try simp only [map_toArray, map_cons, map_nil]); first | done | rfl) ?_; (with_reducible refine (medlarref01_May.calls k a0 1 true _ A3.out).mono ?_); rintro e w' ⟨rfl, ⟨nd, rfl⟩⟩; refine ⟨_, rfl, ?_⟩))
    go_ret
    exact ⟨by first | rfl | (simp; done) | (simp [*]; done), by repeat (first | exact Drawn0.refl _ | apply Drawn0.step)⟩
   ·rw [if_neg c5] at H
    have c5b0 : decide (1 ≤ a1) = false := decide_eq_false c5
    clear c5
    obtain rfl := Option.some.inj H
    go_enter func19, ntmps19
    go_wp2_with (first | ((with_reducible refine gate_callee (f := 50) rfl ?_); refine goesL_ (some 6) rfl rfl func50 (by kernel_rfl) rfl #[.int .i64 a0, .int .u64 1] rfl (by (try simp only [map_toArray, map_cons, map_nil]); first | done | rfl) ?_; (with_reducible refine (medlarref01_May.calls k a0 1 true _ A3.out).mono ?_); rintro e w' ⟨rfl, ⟨nd, rfl⟩⟩; refine ⟨_, rfl, ?_⟩))
    go_ret
    exact ⟨by first | rfl | (simp; done) | (simp [*]; done), by repeat (first | exact Drawn0.refl _ | apply Drawn0.step)⟩
  ·replace c4 := Bool.eq_false_iff.mpr c4
   subst c4
   have H1 : (some false) = some r := by rw [if_neg (show ¬ (false = true) by decide)] at H; exact H
   clear H
   have H := H1
   clear H1
   obtain rfl := Option.some.inj H
   go_enter func19, ntmps19
   go_wp2_with (first | ((with_reducible refine gate_callee (f := 50) rfl ?_); refine goesL_ (some 6) rfl rfl func50 (by kernel_rfl) rfl #[.int .i64 a0, .int .u64 1] rfl (by (try simp only [map_toArray, map_cons, map_nil]); first | done | rfl) ?_; (with_reducible refine (medlarref01_May.calls k a0 1 false _ A3.out).mono ?_); rintro e w' ⟨rfl, ⟨nd, rfl⟩⟩; refine ⟨_, rfl, ?_⟩))
   go_ret
   exact ⟨by first | rfl | (simp; done) | (simp [*]; done), by repeat (first | exact Drawn0.refl _ | apply Drawn0.step)⟩
def medlarref01_Check.f (k : Nat) (a0 : Int) (a1 : Int) : Option (Int) := (medlarref01_May.f k a0 a1).bind fun t318 => (if t318 = true then (some 0) else (some 1))
set_option maxHeartbeats 8000000 in
set_option maxRecDepth 100000 in
theorem medlarref01_Check.calls (k : Nat) (a0 : Int) (a1 : Int) (r : Int) (w : World) (h : medlarref01_Check.f k a0 a1 = some r) :
   Calls Tryz.prog 113 #[.int .i64 a0, .int .u64 a1] w fun e w' => e = .returned (.int .i64 r) ∧ Drawn0 w w' := by
  have H : ((medlarref01_May.f k a0 a1).bind fun t318 => (if t318 = true then (some 0) else (some 1))) = some r := h
  clear h
  replace H := bind_eq_some_iff.mp H
  obtain ⟨t318, A30, H⟩ := H
  replace H : (if t318 = true then (some 0) else (some 1)) = some r := H
  have A3 := ak_ A30
  clear A30
  by_cases c4 : t318 = true
  ·subst c4
   have H1 : (some 0) = some r := by rw [if_pos rfl] at H; exact H
   clear H
   have H := H1
   clear H1
   obtain rfl := Option.some.inj H
   go_enter func113, ntmps113
   go_wp2_with (first | ((with_reducible refine gate_callee (f := 50) rfl ?_); refine goesL_ (some 7) rfl rfl func50 (by kernel_rfl) rfl #[.int .i64 a0, .int .u64 a1] rfl (by (try simp only [map_toArray, map_cons, map_nil]); first | done | rfl) ?_; (with_reducible refine (medlarref01_May.calls k a0 a1 true _ A3.out).mono ?_); rintro e w' ⟨rfl, ⟨nd, rfl⟩⟩; refine ⟨_, rfl, ?_⟩))
   go_ret
   exact ⟨by first | rfl | (simp; done) | (simp [*]; done), by repeat (first | exact Drawn0.refl _ | apply Drawn0.step)⟩
  ·replace c4 := Bool.eq_false_iff.mpr c4
   subst c4
   have H1 : (some 1) = some r := by rw [if_neg (show ¬ (false = true) by decide)] at H; exact H
   clear H
   have H := H1
   clear H1
   obtain rfl := Option.some.inj H
   go_enter func113, ntmps113
   go_wp2_with (first | ((with_reducible refine gate_callee (f := 50) rfl ?_); refine goesL_ (some 7) rfl rfl func50 (by kernel_rfl) rfl #[.int .i64 a0, .int .u64 a1] rfl (by (try simp only [map_toArray, map_cons, map_nil]); first | done | rfl) ?_; (with_reducible refine (medlarref01_May.calls k a0 a1 false _ A3.out).mono ?_); rintro e w' ⟨rfl, ⟨nd, rfl⟩⟩; refine ⟨_, rfl, ?_⟩))
   go_ret
   exact ⟨by first | rfl | (simp; done) | (simp [*]; done), by repeat (first | exact Drawn0.refl _ | apply Drawn0.step)⟩
def medlarref01_Leaf.j0 : Nat → Int → Int → Bool → Option (Int × Int)
  | 0, _, _, _ => none
  | k + 1, x0, x1, x11 => if x11 = true then (some (0, 1)) else ((medlarref01_power.f k x0).bind fun t319 => (if x1 ≥ t319 then (some (0, 4)) else ((medlarref01_power.f k x0).bind fun t320 => (some (IntKind.u64.wrap (t320 + x1), 0)))))
def medlarref01_Leaf.f (k : Nat) (a0 : Int) (a1 : Int) : Option (Int × Int) := if a0 < 1 then (medlarref01_Leaf.j0 k a0 a1 true) else (medlarref01_Leaf.j0 k a0 a1 (decide (a0 > 32)))
set_option maxHeartbeats 8000000 in
set_option maxRecDepth 100000 in
theorem medlarref01_Leaf.calls (k : Nat) (a0 : Int) (a1 : Int) (r1 : Int) (r2 : Int) (w : World) (h : medlarref01_Leaf.f k a0 a1 = some (r1, r2)) :
   Calls Tryz.prog 33 #[.int .i64 a0, .int .u64 a1] w fun e w' => e = .returned (.tuple #[.int .u64 r1, .int .i64 r2]) ∧ Drawn0 w w' := by
  have H : (if a0 < 1 then (medlarref01_Leaf.j0 k a0 a1 true) else (medlarref01_Leaf.j0 k a0 a1 (decide (a0 > 32)))) = some (r1, r2) := h
  clear h
  have HC3 := ak_ H
  clear H
  go_enter func33, ntmps33
  go_upto_region 1 with (fail)
  go_cut [11] (fun v11 wc => ∃ (kq : Nat) (x11_2 : Bool), v11 = .bool x11_2 ∧ Aside0 (medlarref01_Leaf.j0 kq a0 a1 x11_2 = some (r1, r2)) ∧ Aside0 (kq ≤ k) ∧ Drawn0 w wc)
  case first =>
   have H := HC3.out
   clear HC3
   by_cases c4 : a0 < 1
   ·rw [if_pos c4] at H
    have c4b0 := decide_eq_true c4
    clear c4
    (first | rw [c4b0] | (simp only [i64_w, i32_w]; rw [c4b0]) | skip)
    have H' := ak_ H
    clear H
    go_wp2
    go_meet
    case rel => exact ⟨_, (true), (by first | rfl | (simp; done) | (simp [*]; done)), H', ⟨by first | omega | exact Nat.le_refl _⟩, by repeat (first | exact Drawn0.refl _ | apply Drawn0.step)⟩
   ·rw [if_neg c4] at H
    have c4b0 := decide_eq_false c4
    clear c4
    (first | rw [c4b0] | (simp only [i64_w, i32_w]; rw [c4b0]) | skip)
    have H' := ak_ H
    clear H
    go_wp2
    go_meet
    case rel => exact ⟨_, (decide (a0 > 32)), (by first | rfl | (simp; done) | (simp [*]; done)), H', ⟨by first | omega | exact Nat.le_refl _⟩, by repeat (first | exact Drawn0.refl _ | apply Drawn0.step)⟩
  case rest =>
   clear HC3
   try clear p2
   try clear c3
   try clear c4
   try clear c4b0
   obtain ⟨kq, x11_2, rfl, HA, HJ2, ⟨mc2, rfl⟩⟩ := hcut
   cases kq with
   | zero => exact absurd HA.out (by simp [medlarref01_Leaf.j0])
   | succ kj2 =>
    have H := HA.out
    clear HA
    simp only [medlarref01_Leaf.j0] at H
    by_cases c5 : x11_2 = true
    ·subst c5
     have H1 : (some (0, 1)) = some (r1, r2) := by rw [if_pos rfl] at H; exact H
     clear H
     have H := H1
     clear H1
     simp only [some.injEq, Prod.mk.injEq] at H
     obtain ⟨rfl, rfl⟩ := H
     go_wp2
     go_ret2
     exact ⟨by first | rfl | (simp; done) | (simp [*]; done), by repeat (first | exact Drawn0.refl _ | apply Drawn0.step)⟩
    ·replace c5 := Bool.eq_false_iff.mpr c5
     subst c5
     have H1 : ((medlarref01_power.f kj2 a0).bind fun t319 => (if a1 ≥ t319 then (some (0, 4)) else ((medlarref01_power.f kj2 a0).bind fun t320 => (some (IntKind.u64.wrap (t320 + a1), 0))))) = some (r1, r2) := by rw [if_neg (show ¬ (false = true) by decide)] at H; exact H
     clear H
     have H := H1
     clear H1
     replace H := bind_eq_some_iff.mp H
     obtain ⟨t319, A60, H⟩ := H
     replace H : (if a1 ≥ t319 then (some (0, 4)) else ((medlarref01_power.f kj2 a0).bind fun t320 => (some (IntKind.u64.wrap (t320 + a1), 0)))) = some (r1, r2) := H
     have A6 := ak_ A60
     clear A60
     by_cases c7 : a1 ≥ t319
     ·rw [if_pos c7] at H
      have c7b0 : decide (t319 ≤ a1) = true := decide_eq_true c7
      clear c7
      simp only [some.injEq, Prod.mk.injEq] at H
      obtain ⟨rfl, rfl⟩ := H
      go_wp2_with (first | ((with_reducible refine gate_callee (f := 64) rfl ?_); refine goesL_ (some 14) rfl rfl func64 (by kernel_rfl) rfl #[.int .i64 a0] rfl (by (try simp only [map_toArray, map_cons, map_nil]); first | done | rfl) ?_; (with_reducible refine (medlarref01_power.calls kj2 a0 t319 _ A6.out).mono ?_); rintro e w' ⟨rfl, ⟨nd, rfl⟩⟩; refine ⟨_, rfl, ?_⟩))
      go_ret2
      exact ⟨by first | rfl | (simp; done) | (simp [*]; done), by repeat (first | exact Drawn0.refl _ | apply Drawn0.step)⟩
     ·rw [if_neg c7] at H
      have c7b0 : decide (t319 ≤ a1) = false := decide_eq_false c7
      clear c7
      replace H := bind_eq_some_iff.mp H
      obtain ⟨t320, A80, H⟩ := H
      replace H : (some (IntKind.u64.wrap (t320 + a1), 0)) = some (r1, r2) := H
      have A8 := ak_ A80
      clear A80
      simp only [some.injEq, Prod.mk.injEq] at H
      obtain ⟨rfl, rfl⟩ := H
      go_wp2_with (first | ((with_reducible refine gate_callee (f := 64) rfl ?_); refine goesL_ (some 14) rfl rfl func64 (by kernel_rfl) rfl #[.int .i64 a0] rfl (by (try simp only [map_toArray, map_cons, map_nil]); first | done | rfl) ?_; (with_reducible refine (medlarref01_power.calls kj2 a0 t319 _ A6.out).mono ?_); rintro e w' ⟨rfl, ⟨nd, rfl⟩⟩; refine ⟨_, rfl, ?_⟩) | ((with_reducible refine gate_callee (f := 64) rfl ?_); refine goesL_ (some 17) rfl rfl func64 (by kernel_rfl) rfl #[.int .i64 a0] rfl (by (try simp only [map_toArray, map_cons, map_nil]); first | done | rfl) ?_; (with_reducible refine (medlarref01_power.calls kj2 a0 t320 _ A8.out).mono ?_); rintro e w' ⟨rfl, ⟨nd, rfl⟩⟩; refine ⟨_, rfl, ?_⟩))
      go_ret2
      exact ⟨by first | rfl | (simp; done) | (simp [*]; done), by repeat (first | exact Drawn0.refl _ | apply Drawn0.step)⟩
def medlarref02_Is.f (k : Nat) (a0 : Int) (a1 : Int) : Option (Bool) := (medlarref01_Leaf.f k a0 a1).bind fun bt321 => (some (bt321.2 == 0))
set_option maxHeartbeats 8000000 in
set_option maxRecDepth 100000 in
theorem medlarref02_Is.calls (k : Nat) (a0 : Int) (a1 : Int) (r : Bool) (w : World) (h : medlarref02_Is.f k a0 a1 = some r) :
   Calls Tryz.prog 114 #[.int .i64 a0, .int .u64 a1] w fun e w' => e = .returned (.bool r) ∧ Drawn0 w w' := by
  have H : ((medlarref01_Leaf.f k a0 a1).bind fun bt321 => (some (bt321.2 == 0))) = some r := h
  clear h
  replace H := bind_eq_some_iff.mp H
  obtain ⟨⟨t321, t322⟩, A30, H⟩ := H
  replace H : (some (t322 == 0)) = some r := H
  have A3 := ak_ A30
  clear A30
  obtain rfl := Option.some.inj H
  go_enter func114, ntmps114
  go_wp2_with (first | ((with_reducible refine gate_callee (f := 33) rfl ?_); refine goesL_ (some 10) rfl rfl func33 (by kernel_rfl) rfl #[.int .i64 a0, .int .u64 a1] rfl (by (try simp only [map_toArray, map_cons, map_nil]); first | done | rfl) ?_; (with_reducible refine (medlarref01_Leaf.calls k a0 a1 t321 t322 _ A3.out).mono ?_); rintro e w' ⟨rfl, ⟨nd, rfl⟩⟩; refine ⟨_, rfl, ?_⟩))
  go_ret
  exact ⟨by first | rfl | (simp; done) | (simp [*]; done), by repeat (first | exact Drawn0.refl _ | apply Drawn0.step)⟩
mutual
def medlarref02_Check.j0 : Nat → Int → List Int → Bool → Option (Int)
  | 0, _, _, _ => none
  | k + 1, x0, x1, x14 => if x14 = true then (some 1) else (medlarref02_Check.l0 k x0 x1 x1 (x1.length : Int) 0)
def medlarref02_Check.l0 : Nat → Int → List Int → List Int → Int → Int → Option (Int)
  | 0, _, _, _, _, _ => none
  | k + 1, x0, x1, x15, x16, x17 => if x17 < x16 then (if 0 ≤ x17 then (if x17 < (x15.length : Int) then ((medlarref02_Is.f k x0 (rd x15 x17)).bind fun t325 => (if t325 = true then (if x17 > 0 then (if 0 ≤ (wrap64 (x17 - 1)) then (if (wrap64 (x17 - 1)) < (x1.length : Int) then (if (rd x1 (wrap64 (x17 - 1))) ≥ (rd x15 x17) then (some 1) else (medlarref02_Check.l0 k x0 x1 x15 x16 (wrap64 (x17 + 1)))) else (none)) else (none)) else (medlarref02_Check.l0 k x0 x1 x15 x16 (wrap64 (x17 + 1)))) else (some 1))) else (none)) else (none)) else (some 0)
end
def medlarref02_Check.f (k : Nat) (a0 : Int) (l1 : List Int) : Option (Int) := (medlarref01_Check.f k a0 1).bind fun t323 => (if t323 = 0 then (medlarref02_Check.j0 k a0 l1 (decide ((l1.length : Int) > 1024))) else (medlarref02_Check.j0 k a0 l1 true))
set_option maxHeartbeats 8000000 in
set_option maxRecDepth 100000 in
theorem medlarref02_Check.calls (k : Nat) (a0 : Int) (A1 : Option Addr) (c1 : Nat) (l1 : List Int) (r : Int) (w : World) (hr1 : Kd.C (Kd.int .u64) w A1 l1.length l1) (hc1 : l1.length ≤ c1) (h : medlarref02_Check.f k a0 l1 = some r) :
   Calls Tryz.prog 103 #[.int .i64 a0, .slice A1 l1.length c1] w fun e w' => e = .returned (.int .i64 r) ∧ Drawn0 w w' := by
  have HR1 := ak_ hr1
  have HC1 := ak_ hc1
  clear hr1 hc1
  have H : ((medlarref01_Check.f k a0 1).bind fun t323 => (if t323 = 0 then (medlarref02_Check.j0 k a0 l1 (decide ((l1.length : Int) > 1024))) else (medlarref02_Check.j0 k a0 l1 true))) = some r := h
  clear h
  have HC3 := ak_ H
  clear H
  go_enter func103, ntmps103
  go_upto_region 1 with (fail)
  go_cut [14] (fun v14 wc => ∃ (kq : Nat) (x14_2 : Bool), v14 = .bool x14_2 ∧ Aside0 (medlarref02_Check.j0 kq a0 l1 x14_2 = some r) ∧ Aside0 (kq ≤ k) ∧ Drawn0 w wc)
  case first =>
   have H := HC3.out
   clear HC3
   replace H := bind_eq_some_iff.mp H
   obtain ⟨t323, A40, H⟩ := H
   replace H : (if t323 = 0 then (medlarref02_Check.j0 k a0 l1 (decide ((l1.length : Int) > 1024))) else (medlarref02_Check.j0 k a0 l1 true)) = some r := H
   have A4 := ak_ A40
   clear A40
   by_cases c5 : t323 = 0
   ·rw [if_pos c5] at H
    have c5b0 : (t323 == 0) = true := beq_iff_eq.mpr c5
    have c5b1 : (t323 != 0) = false := bne_eq_false_iff_eq.mpr c5
    clear c5
    (first | rw [c5b0] | (simp only [i64_w, i32_w]; rw [c5b0]) | skip)
    have H' := ak_ H
    clear H
    go_wp2_with (first | ((with_reducible refine gate_callee (f := 113) rfl ?_); refine goesL_ (some 8) rfl rfl func113 (by kernel_rfl) rfl #[.int .i64 a0, .int .u64 1] rfl (by (try simp only [map_toArray, map_cons, map_nil]); first | done | rfl) ?_; (with_reducible refine (medlarref01_Check.calls k a0 1 t323 _ A4.out).mono ?_); rintro e w' ⟨rfl, ⟨nd, rfl⟩⟩; refine ⟨_, rfl, ?_⟩))
    go_meet
    case rel => exact ⟨_, (decide ((l1.length : Int) > 1024)), (by first | rfl | (simp; done) | (simp [*]; done)), H', ⟨by first | omega | exact Nat.le_refl _⟩, by repeat (first | exact Drawn0.refl _ | apply Drawn0.step)⟩
   ·rw [if_neg c5] at H
    have c5b0 : (t323 == 0) = false := beq_eq_false_iff_ne.mpr c5
    have c5b1 : (t323 != 0) = true := bne_iff_ne.mpr c5
    (first | rw [c5b0] | (simp only [i64_w, i32_w]; rw [c5b0]) | skip)
    have H' := ak_ H
    clear H
    go_wp2_with (first | ((with_reducible refine gate_callee (f := 113) rfl ?_); refine goesL_ (some 8) rfl rfl func113 (by kernel_rfl) rfl #[.int .i64 a0, .int .u64 1] rfl (by (try simp only [map_toArray, map_cons, map_nil]); first | done | rfl) ?_; (with_reducible refine (medlarref01_Check.calls k a0 1 t323 _ A4.out).mono ?_); rintro e w' ⟨rfl, ⟨nd, rfl⟩⟩; refine ⟨_, rfl, ?_⟩))
    go_meet
    case rel => exact ⟨_, (true), (by first | rfl | (simp; done) | (simp [*]; done)), H', ⟨by first | omega | exact Nat.le_refl _⟩, by repeat (first | exact Drawn0.refl _ | apply Drawn0.step)⟩
  case rest =>
   clear HC3
   try clear c1
   try clear p2
   try clear c5
   try clear c5b0
   try clear c5b1
   obtain ⟨kq, x14_2, rfl, HA, HJ2, ⟨mc2, rfl⟩⟩ := hcut
   cases kq with
   | zero => exact absurd HA.out (by simp [medlarref02_Check.j0])
   | succ kj2 =>
    have H := HA.out
    clear HA
    simp only [medlarref02_Check.j0] at H
    by_cases c6 : x14_2 = true
    ·subst c6
     have H1 : (some 1) = some r := by rw [if_pos rfl] at H; exact H
     clear H
     have H := H1
     clear H1
     obtain rfl := Option.some.inj H
     go_wp2
     go_ret
     exact ⟨by first | rfl | (simp; done) | (simp [*]; done), by repeat (first | exact Drawn0.refl _ | apply Drawn0.step)⟩
    ·replace c6 := Bool.eq_false_iff.mpr c6
     subst c6
     have H1 : (medlarref02_Check.l0 kj2 a0 l1 l1 (l1.length : Int) 0) = some r := by rw [if_neg (show ¬ (false = true) by decide)] at H; exact H
     clear H
     have H := H1
     clear H1
     have H' := ak_ H
     clear H
     go_wp2
     go_loopg [17] kj2 (fun kq v17 w' => ∃ (x17_2 : Int), v17 = .int .i64 x17_2 ∧ Aside0 (medlarref02_Check.l0 kq a0 l1 l1 (l1.length : Int) x17_2 = some r) ∧ Aside0 (kq ≤ kj2) ∧ Drawn0 w w')
     case atStart => exact ⟨(0), (by first | rfl | (simp; done) | (simp [*]; done)), H', ⟨Nat.le_refl _⟩, by repeat (first | exact Drawn0.refl _ | apply Drawn0.step)⟩
     case round =>
      clear H'
      try clear c1
      try clear c2
      try clear p2
      try clear c5
      try clear c5b0
      try clear c5b1
      try clear c6
      try clear p2
      obtain ⟨x17_2, rfl, HA, HK2, ⟨m2, rfl⟩⟩ := hrel
      cases gk with
      | zero => exact absurd HA.out (by simp [medlarref02_Check.l0])
      | succ k2 =>
       have H := HA.out
       clear HA
       simp only [medlarref02_Check.l0] at H
       by_cases c7 : x17_2 < (l1.length : Int)
       ·rw [if_pos c7] at H
        have c7b0 := decide_eq_true c7
        clear c7
        by_cases c8 : 0 ≤ x17_2
        ·rw [if_pos c8] at H
         have c8b0 := decide_eq_true c8
         clear c8
         by_cases c9 : x17_2 < (l1.length : Int)
         ·rw [if_pos c9] at H
          have c9b0 := decide_eq_true c9
          clear c9
          replace H := bind_eq_some_iff.mp H
          obtain ⟨t325, A100, H⟩ := H
          replace H : (if t325 = true then (if x17_2 > 0 then (if 0 ≤ (wrap64 (x17_2 - 1)) then (if (wrap64 (x17_2 - 1)) < (l1.length : Int) then (if (rd l1 (wrap64 (x17_2 - 1))) ≥ (rd l1 x17_2) then (some 1) else (medlarref02_Check.l0 k2 a0 l1 l1 (l1.length : Int) (wrap64 (x17_2 + 1)))) else (none)) else (none)) else (medlarref02_Check.l0 k2 a0 l1 l1 (l1.length : Int) (wrap64 (x17_2 + 1)))) else (some 1)) = some r := H
          have A10 := ak_ A100
          clear A100
          by_cases c11 : t325 = true
          ·subst c11
           have H1 : (if x17_2 > 0 then (if 0 ≤ (wrap64 (x17_2 - 1)) then (if (wrap64 (x17_2 - 1)) < (l1.length : Int) then (if (rd l1 (wrap64 (x17_2 - 1))) ≥ (rd l1 x17_2) then (some 1) else (medlarref02_Check.l0 k2 a0 l1 l1 (l1.length : Int) (wrap64 (x17_2 + 1)))) else (none)) else (none)) else (medlarref02_Check.l0 k2 a0 l1 l1 (l1.length : Int) (wrap64 (x17_2 + 1)))) = some r := by rw [if_pos rfl] at H; exact H
           clear H
           have H := H1
           clear H1
           by_cases c12 : x17_2 > 0
           ·rw [if_pos c12] at H
            have c12b0 : decide (0 < x17_2) = true := decide_eq_true c12
            clear c12
            obtain ⟨ji13, hji13⟩ : ∃ j_ : Int, (wrap64 (x17_2 - 1)) = j_ := ⟨_, rfl⟩
            replace H : (if 0 ≤ (ji13) then (if (ji13) < (l1.length : Int) then (if (rd l1 (ji13)) ≥ (rd l1 x17_2) then (some 1) else (medlarref02_Check.l0 k2 a0 l1 l1 (l1.length : Int) (wrap64 (x17_2 + 1)))) else (none)) else (none)) = some r := by first | (rw [hji13] at H; exact H) | (simp only [hji13] at H ⊢; exact H)
            (try rw [hji13] at A10)
            have hji13w : (IntKind.i64.wrap (x17_2 - 1)) = ji13 := (i64_w _).trans hji13
            by_cases c14 : 0 ≤ (ji13)
            ·rw [if_pos c14] at H
             have c14b0 := decide_eq_true c14
             clear c14
             by_cases c15 : (ji13) < (l1.length : Int)
             ·rw [if_pos c15] at H
              have c15b0 := decide_eq_true c15
              clear c15
              by_cases c16 : (rd l1 (ji13)) ≥ (rd l1 x17_2)
              ·rw [if_pos c16] at H
               have c16b0 : decide ((rd l1 x17_2) ≤ (rd l1 (ji13))) = true := decide_eq_true c16
               clear c16
               obtain rfl := Option.some.inj H
               have p324 : 0 ≤ (x17_2 : Int) := od_ (by first | (with_reducible assumption) | assumption)
               have q324 : x17_2 < (l1.length : Int) := od_ (by first | (with_reducible assumption) | assumption)
               obtain ⟨ad324, e324, hx324_0⟩ := Kd.at_int HR1.out x17_2 p324 q324
               cases e324
               replace p324 := eq_true p324
               replace q324 := eq_true q324
               go_wp2_with (first | ((with_reducible refine gate_callee (f := 114) rfl ?_); refine goesL_ (some 24) rfl rfl func114 (by kernel_rfl) rfl #[.int .i64 a0, .int .u64 (rd l1 x17_2)] rfl (by (try simp only [map_toArray, map_cons, map_nil]); first | done | rfl) ?_; (with_reducible refine (medlarref02_Is.calls k2 a0 (rd l1 x17_2) true _ A10.out).mono ?_); rintro e w' ⟨rfl, ⟨nd, rfl⟩⟩; refine ⟨_, rfl, ?_⟩; have p326 : 0 ≤ ((ji13) : Int) := od_ (by first | (with_reducible assumption) | assumption); have q326 : (ji13) < (l1.length : Int) := od_ (by first | (with_reducible assumption) | assumption); obtain ⟨ad326, e326, hx326_0⟩ := Kd.at_int HR1.out (ji13) p326 q326; obtain rfl : ad324 = ad326 := (by injection e326); replace p326 := eq_true p326; replace q326 := eq_true q326))
               go_ret
               exact ⟨by first | rfl | (simp; done) | (simp only [← hji13] <;> (first | rfl | simp)) | (simp [*]; done), by repeat (first | exact Drawn0.refl _ | apply Drawn0.step)⟩
              ·rw [if_neg c16] at H
               have c16b0 : decide ((rd l1 x17_2) ≤ (rd l1 (ji13))) = false := decide_eq_false c16
               clear c16
               have H' := ak_ H
               clear H
               have p324 : 0 ≤ (x17_2 : Int) := od_ (by first | (with_reducible assumption) | assumption)
               have q324 : x17_2 < (l1.length : Int) := od_ (by first | (with_reducible assumption) | assumption)
               obtain ⟨ad324, e324, hx324_0⟩ := Kd.at_int HR1.out x17_2 p324 q324
               cases e324
               replace p324 := eq_true p324
               replace q324 := eq_true q324
               go_wp2_with (first | ((with_reducible refine gate_callee (f := 114) rfl ?_); refine goesL_ (some 24) rfl rfl func114 (by kernel_rfl) rfl #[.int .i64 a0, .int .u64 (rd l1 x17_2)] rfl (by (try simp only [map_toArray, map_cons, map_nil]); first | done | rfl) ?_; (with_reducible refine (medlarref02_Is.calls k2 a0 (rd l1 x17_2) true _ A10.out).mono ?_); rintro e w' ⟨rfl, ⟨nd, rfl⟩⟩; refine ⟨_, rfl, ?_⟩; have p326 : 0 ≤ ((ji13) : Int) := od_ (by first | (with_reducible assumption) | assumption); have q326 : (ji13) < (l1.length : Int) := od_ (by first | (with_reducible assumption) | assumption); obtain ⟨ad326, e326, hx326_0⟩ := Kd.at_int HR1.out (ji13) p326 q326; obtain rfl : ad324 = ad326 := (by injection e326); replace p326 := eq_true p326; replace q326 := eq_true q326))
               go_roundg k2
               case measure => have := HJ2.out; have := HK2.out; omega
               case rel => exact ⟨(wrap64 (x17_2 + 1)), (by first | rfl | (simp; done) | (simp [*]; done)), H', ⟨by have := HJ2.out; have := HK2.out; omega⟩, by repeat (first | exact Drawn0.refl _ | apply Drawn0.step)⟩
             ·rw [if_neg c15] at H
              exact absurd H (by simp)
            ·rw [if_neg c14] at H
             exact absurd H (by simp)
           ·rw [if_neg c12] at H
            have c12b0 : decide (0 < x17_2) = false := decide_eq_false c12
            clear c12
            have H' := ak_ H
            clear H
            have p324 : 0 ≤ (x17_2 : Int) := od_ (by first | (with_reducible assumption) | assumption)
            have q324 : x17_2 < (l1.length : Int) := od_ (by first | (with_reducible assumption) | assumption)
            obtain ⟨ad324, e324, hx324_0⟩ := Kd.at_int HR1.out x17_2 p324 q324
            cases e324
            replace p324 := eq_true p324
            replace q324 := eq_true q324
            go_wp2_with (first | ((with_reducible refine gate_callee (f := 114) rfl ?_); refine goesL_ (some 24) rfl rfl func114 (by kernel_rfl) rfl #[.int .i64 a0, .int .u64 (rd l1 x17_2)] rfl (by (try simp only [map_toArray, map_cons, map_nil]); first | done | rfl) ?_; (with_reducible refine (medlarref02_Is.calls k2 a0 (rd l1 x17_2) true _ A10.out).mono ?_); rintro e w' ⟨rfl, ⟨nd, rfl⟩⟩; refine ⟨_, rfl, ?_⟩))
            go_roundg k2
            case measure => have := HJ2.out; have := HK2.out; omega
            case rel => exact ⟨(wrap64 (x17_2 + 1)), (by first | rfl | (simp; done) | (simp [*]; done)), H', ⟨by have := HJ2.out; have := HK2.out; omega⟩, by repeat (first | exact Drawn0.refl _ | apply Drawn0.step)⟩
          ·replace c11 := Bool.eq_false_iff.mpr c11
           subst c11
           have H1 : (some 1) = some r := by rw [if_neg (show ¬ (false = true) by decide)] at H; exact H
           clear H
           have H := H1
           clear H1
           obtain rfl := Option.some.inj H
           have p324 : 0 ≤ (x17_2 : Int) := od_ (by first | (with_reducible assumption) | assumption)
           have q324 : x17_2 < (l1.length : Int) := od_ (by first | (with_reducible assumption) | assumption)
           obtain ⟨ad324, e324, hx324_0⟩ := Kd.at_int HR1.out x17_2 p324 q324
           cases e324
           replace p324 := eq_true p324
           replace q324 := eq_true q324
           go_wp2_with (first | ((with_reducible refine gate_callee (f := 114) rfl ?_); refine goesL_ (some 24) rfl rfl func114 (by kernel_rfl) rfl #[.int .i64 a0, .int .u64 (rd l1 x17_2)] rfl (by (try simp only [map_toArray, map_cons, map_nil]); first | done | rfl) ?_; (with_reducible refine (medlarref02_Is.calls k2 a0 (rd l1 x17_2) false _ A10.out).mono ?_); rintro e w' ⟨rfl, ⟨nd, rfl⟩⟩; refine ⟨_, rfl, ?_⟩))
           go_ret
           exact ⟨by first | rfl | (simp; done) | (simp [*]; done), by repeat (first | exact Drawn0.refl _ | apply Drawn0.step)⟩
         ·rw [if_neg c9] at H
          exact absurd H (by simp)
        ·rw [if_neg c8] at H
         exact absurd H (by simp)
       ·rw [if_neg c7] at H
        have c7b0 := decide_eq_false c7
        clear c7
        obtain rfl := Option.some.inj H
        go_wp2
        go_ret
        exact ⟨by first | rfl | (simp; done) | (simp [*]; done), by repeat (first | exact Drawn0.refl _ | apply Drawn0.step)⟩
def medlarref09_may.f (k : Nat) (a0 : Int) (l1 : List Int) (a2 : Int) : Option (Bool) := (medlarref01_May.f k a0 a2).bind fun t327 => (if t327 = true then ((medlarref02_Check.f k a0 l1).bind fun t328 => (some (t328 == 0))) else (some false))
set_option maxHeartbeats 8000000 in
set_option maxRecDepth 100000 in
theorem medlarref09_may.calls (k : Nat) (a0 : Int) (A1 : Option Addr) (c1 : Nat) (l1 : List Int) (a2 : Int) (r : Bool) (w : World) (hr1 : Kd.C (Kd.int .u64) w A1 l1.length l1) (hc1 : l1.length ≤ c1) (h : medlarref09_may.f k a0 l1 a2 = some r) :
   Calls Tryz.prog 78 #[.int .i64 a0, .slice A1 l1.length c1, .int .u64 a2] w fun e w' => e = .returned (.bool r) ∧ Drawn0 w w' := by
  have HR1 := ak_ hr1
  have HC1 := ak_ hc1
  clear hr1 hc1
  have H : ((medlarref01_May.f k a0 a2).bind fun t327 => (if t327 = true then ((medlarref02_Check.f k a0 l1).bind fun t328 => (some (t328 == 0))) else (some false))) = some r := h
  clear h
  replace H := bind_eq_some_iff.mp H
  obtain ⟨t327, A40, H⟩ := H
  replace H : (if t327 = true then ((medlarref02_Check.f k a0 l1).bind fun t328 => (some (t328 == 0))) else (some false)) = some r := H
  have A4 := ak_ A40
  clear A40
  by_cases c5 : t327 = true
  ·subst c5
   have H1 : ((medlarref02_Check.f k a0 l1).bind fun t328 => (some (t328 == 0))) = some r := by rw [if_pos rfl] at H; exact H
   clear H
   have H := H1
   clear H1
   replace H := bind_eq_some_iff.mp H
   obtain ⟨t328, A60, H⟩ := H
   replace H : (some (t328 == 0)) = some r := H
   have A6 := ak_ A60
   clear A60
   obtain rfl := Option.some.inj H
   go_enter func78, ntmps78
   go_wp2_with (first | ((with_reducible refine gate_callee (f := 50) rfl ?_); refine goesL_ (some 9) rfl rfl func50 (by kernel_rfl) rfl #[.int .i64 a0, .int .u64 a2] rfl (by (try simp only [map_toArray, map_cons, map_nil]); first | done | rfl) ?_; (with_reducible refine (medlarref01_May.calls k a0 a2 true _ A4.out).mono ?_); rintro e w' ⟨rfl, ⟨nd, rfl⟩⟩; refine ⟨_, rfl, ?_⟩) | (go_at_call 103; (with_reducible refine (medlarref02_Check.calls k a0 _ _ l1 t328 _ ?side1 ?side2 A6.out).mono ?_); (case side1 => repeat (first | exact HR1.out | (with_reducible refine Kd.C_alloc ?_ _) | (with_reducible refine Kd.C_drewN ?_ _) | (with_reducible refine Kd.C_drew ?_))); (case side2 => exact HC1.out); rintro e w' ⟨rfl, ⟨nd, rfl⟩⟩))
   go_ret
   exact ⟨by first | rfl | (simp; done) | (simp [*]; done), by repeat (first | exact Drawn0.refl _ | apply Drawn0.step)⟩
  ·replace c5 := Bool.eq_false_iff.mpr c5
   subst c5
   have H1 : (some false) = some r := by rw [if_neg (show ¬ (false = true) by decide)] at H; exact H
   clear H
   have H := H1
   clear H1
   obtain rfl := Option.some.inj H
   go_enter func78, ntmps78
   go_wp2_with (first | ((with_reducible refine gate_callee (f := 50) rfl ?_); refine goesL_ (some 9) rfl rfl func50 (by kernel_rfl) rfl #[.int .i64 a0, .int .u64 a2] rfl (by (try simp only [map_toArray, map_cons, map_nil]); first | done | rfl) ?_; (with_reducible refine (medlarref01_May.calls k a0 a2 false _ A4.out).mono ?_); rintro e w' ⟨rfl, ⟨nd, rfl⟩⟩; refine ⟨_, rfl, ?_⟩))
   go_ret
   exact ⟨by first | rfl | (simp; done) | (simp [*]; done), by repeat (first | exact Drawn0.refl _ | apply Drawn0.step)⟩
def medlarref01_Chain.f : Nat → Int → Option (List Int)
  | 0, _ => none
  | k + 1, a0 => if a0 = 1 then (some (([1] : List Int))) else ((medlarref01_Chain.f k (IntKind.u64.wrap (Int.tdiv a0 2))).bind fun t332 => (if t332.length < 17592186044416 then (some (t332 ++ [a0])) else (none)))
set_option maxHeartbeats 8000000 in
set_option maxRecDepth 100000 in
theorem medlarref01_Chain.calls (k : Nat) : ∀ (a0 : Int) (r : List Int) (w : World) (h : medlarref01_Chain.f k a0 = some r),
   Calls Tryz.prog 34 #[.int .u64 a0] w fun e w' => ∃ v0_ : Value, e = .returned (v0_) ∧ Kd.R (Kd.int .u64) 23 w' w.heap.size (fun _ => True) v0_ r ∧ Below w.heap.size w w' := by
  induction k using Nat.strongRecOn with
  | _ k ih =>
  intro a0 r w h
  cases k with
  | zero => exact absurd h (by simp [medlarref01_Chain.f])
  | succ k =>
  simp only [medlarref01_Chain.f] at h
  have HB := ak_ (Below.refl w.heap.size w)
  have H : (if a0 = 1 then (some (([1] : List Int))) else ((medlarref01_Chain.f k (IntKind.u64.wrap (Int.tdiv a0 2))).bind fun t332 => (if t332.length < 17592186044416 then (some (t332 ++ [a0])) else (none)))) = some r := h
  clear h
  by_cases c2 : a0 = 1
  ·rw [if_pos c2] at H
   have c2b0 : (a0 == 1) = true := beq_iff_eq.mpr c2
   have c2b1 : (a0 != 1) = false := bne_eq_false_iff_eq.mpr c2
   clear c2
   obtain ⟨y329, hy329⟩ : ∃ y_ : List Int, y_ = (([1] : List Int)) := ⟨_, rfl⟩
   replace H : (some y329) = some r := by first | (rw [hy329]; with_reducible exact H) | (have H2_ := (Option.bind_some _ _).symm.trans H; rw [hy329]; with_reducible exact H2_) | (have H2_ := (Option.bind_some _ _).symm.trans H; with_reducible exact H2_) | with_reducible exact H | (rw [hy329]; exact H) | exact H
   have Ny329 := ak_ hy329
   clear hy329
   obtain rfl := Option.some.inj H
   go_enter func34, ntmps34
   go_wp2_with (first | ((with_reducible refine gate_dst (N := 5) rfl ?_); refine Kd.R_lit (Kd.int .u64) _ 23 ?hg (N := 5) ?hd (xs := ([1] : List Int)) (inner := [.int .u64 1]) (ok := fun _ => True) (okp := fun _ => True) ?hr ?hp (fun _ hk => hk) trivial (Below.refl _ _) (Nat.le_refl _) (by simp) ?_; (case hd => rfl); (case hg => rfl); (case hr => first | (go_simp; done) | (go_simp; rfl)); (case hp => exact (Reps.one (show Kd.M (Kd.int .u64) _ _ _ 1 [.int .u64 1] from rfl) (Reps.none _ _))); intro v330 w3 ho4 hb hg_ hnew_; clear hg_ hnew_; (first | rw [← Ny329.out] at ho4 | (simp only [Int.reduceToNat] at ho4; rw [← Ny329.out] at ho4)); have n0_ := ak_ (Kd.R_lower ho4 (bz_ (bl_ HB))); have n1_ := ak_ (bt_ (bl_ HB) hb); clear HB; have HO331 := n0_; have HB := n1_; clear n0_ n1_; clear hb ho4))
   go_ret
   exact ⟨_, by first | rfl | (simp <;> rfl) | (simp [*] <;> rfl), by (with_reducible repeat (first | apply Kd.R_alloc | apply Kd.R_drewN | apply Kd.R_drew)); exact HO331.out, bl_ HB⟩
  ·rw [if_neg c2] at H
   have c2b0 : (a0 == 1) = false := beq_eq_false_iff_ne.mpr c2
   have c2b1 : (a0 != 1) = true := bne_iff_ne.mpr c2
   replace H := bind_eq_some_iff.mp H
   obtain ⟨t332, A50, H⟩ := H
   replace H : (if t332.length < 17592186044416 then (some (t332 ++ [a0])) else (none)) = some r := H
   have A5 := ak_ A50
   clear A50
   by_cases c6 : t332.length < 17592186044416
   ·rw [if_pos c6] at H
    have LMc6 := ak_ c6
    clear c6
    obtain ⟨y335, hy335⟩ : ∃ y_ : List Int, y_ = (t332 ++ [a0]) := ⟨_, rfl⟩
    replace H : (some y335) = some r := by first | (rw [hy335]; with_reducible exact H) | (have H2_ := (Option.bind_some _ _).symm.trans H; rw [hy335]; with_reducible exact H2_) | (have H2_ := (Option.bind_some _ _).symm.trans H; with_reducible exact H2_) | with_reducible exact H | (rw [hy335]; exact H) | exact H
    have Ny335 := ak_ hy335
    clear hy335
    obtain rfl := Option.some.inj H
    go_enter func34, ntmps34
    go_wp2_with (first | ((with_reducible refine gate_callee (f := 34) rfl ?_); refine goesL_ (some 8) rfl rfl func34 (by kernel_rfl) rfl #[.int .u64 (IntKind.u64.wrap (Int.tdiv a0 2))] rfl (by (try simp only [map_toArray, map_cons, map_nil]); first | done | rfl) ?_; (with_reducible refine (ih k (by omega) (IntKind.u64.wrap (Int.tdiv a0 2)) t332 _ A5.out).mono ?_); rintro e w7 ⟨v333, rfl, ho0, hb⟩; refine ⟨_, rfl, ?_⟩; have n0_ := ak_ (Kd.R_lower ho0 (bz_ (bl_ HB))); have n1_ := ak_ (bt_ (bl_ HB) hb); clear HB; have HO334 := n0_; have HB := n1_; clear n0_ n1_; (try clear hb); (try clear hk); (try clear ho0)) | ((with_reducible refine gate_builtin (b := .append) (xs := #[.tmp 8, .tmp 10]) rfl ?_); at_builtin; refine Kd.R_append (Kd.int .u64) (w0 := w) w.heap.size rfl (.tmp 8) (.tmp 10) 22 23 (.int .u64 0) 8 rfl underlying22 info23 rfl (by decide) (by omega) v333 t332 a0 [.int .u64 a0] (fun _ => True) (fun _ => False) rfl rfl ?aP (fun _ hk => hk.elim) ?aF ?aO ?aB ?aS ?aL ?_; (case aP => exact rfl); (case aB => exact (bl_ HB)); (case aF => exact (fun _ _ => trivial)); (case aO => exact (rl_ HO334)); (case aS => exact (bz_ (bl_ HB))); (case aL => have := LMc6.out; omega); intro v336 w8 ho hb hg hat; rw [← Ny335.out] at ho; have n0_ := ak_ (hb); have n1_ := ak_ (ho); clear HB; clear HO334; have HB := n0_; have HO337 := n1_; clear n0_ n1_; clear ho hb hg hat))
    go_ret
    exact ⟨_, by first | rfl | (simp <;> rfl) | (simp [*] <;> rfl), by (with_reducible repeat (first | apply Kd.R_alloc | apply Kd.R_drewN | apply Kd.R_drew)); exact HO337.out, bl_ HB⟩
   ·rw [if_neg c6] at H
    exact absurd H (by simp)
mutual
def medlarref09_Tree.l0 : Nat → Int → List Int → List Int → Int → Int → Option (List Int)
  | 0, _, _, _, _, _ => none
  | k + 1, x0, x1, x5, x13, x14 => if x14 < x13 then (medlarref09_Tree.l1 k x0 x1 x5 x14 x13 x14 x1 (x1.length : Int) 0) else (some x5)
def medlarref09_Tree.l1 : Nat → Int → List Int → List Int → Int → Int → Int → List Int → Int → Int → Option (List Int)
  | 0, _, _, _, _, _, _, _, _, _ => none
  | k + 1, x0, x1, x5, x6, x13, x14, x17, x18, x19 => if x19 < x18 then (if 0 ≤ x19 then (if x19 < (x17.length : Int) then ((medlarref01_Leaf.f k x0 (rd x17 x19)).bind fun bt339 => ((medlarref01_Chain.f k bt339.1).bind fun t341 => (if 0 ≤ x6 then (if x6 < (t341.length : Int) then (if (x5.length : Int) = 0 then (if x5.length < 17592186044416 then (medlarref09_Tree.l1 k x0 x1 (x5 ++ [rd t341 x6]) x6 x13 x14 x17 x18 (wrap64 (x19 + 1))) else (none)) else (if 0 ≤ (wrap64 ((x5.length : Int) - 1)) then (if (wrap64 ((x5.length : Int) - 1)) < (x5.length : Int) then (if (rd x5 (wrap64 ((x5.length : Int) - 1))) = (rd t341 x6) then (medlarref09_Tree.l1 k x0 x1 x5 x6 x13 x14 x17 x18 (wrap64 (x19 + 1))) else (if x5.length < 17592186044416 then (medlarref09_Tree.l1 k x0 x1 (x5 ++ [rd t341 x6]) x6 x13 x14 x17 x18 (wrap64 (x19 + 1))) else (none))) else (none)) else (none))) else (none)) else (none)))) else (none)) else (none)) else (medlarref09_Tree.l0 k x0 x1 x5 x13 (wrap64 (x14 + 1)))
end
def medlarref09_Tree.f (k : Nat) (a0 : Int) (l1 : List Int) : Option (List Int) := medlarref09_Tree.l0 k a0 l1 ([] : List Int) (wrap64 (a0 + 1)) 0
set_option maxHeartbeats 8000000 in
set_option maxRecDepth 100000 in
theorem medlarref09_Tree.calls (k : Nat) (a0 : Int) (A1 : Option Addr) (c1 : Nat) (l1 : List Int) (r : List Int) (w : World) (hr1 : Kd.C (Kd.int .u64) w A1 l1.length l1) (hc1 : l1.length ≤ c1) (h : medlarref09_Tree.f k a0 l1 = some r) :
   Calls Tryz.prog 79 #[.int .i64 a0, .slice A1 l1.length c1] w fun e w' => ∃ v0_ : Value, e = .returned (v0_) ∧ Kd.R (Kd.int .u64) 23 w' w.heap.size (fun _ => True) v0_ r ∧ Below w.heap.size w w' := by
  have HR1 := ak_ hr1
  have HC1 := ak_ hc1
  clear hr1 hc1
  have HB := ak_ (Below.refl w.heap.size w)
  have H : (medlarref09_Tree.l0 k a0 l1 ([] : List Int) (wrap64 (a0 + 1)) 0) = some r := h
  clear h
  have H' := ak_ H
  clear H
  go_enter func79, ntmps79
  go_wp2
  go_loopg [5, 14] k (fun kq v5 v14 w' => ∃ (x5_1 : List Int) (x14_1 : Int), v14 = .int .i64 x14_1 ∧ Aside0 (medlarref09_Tree.l0 kq a0 l1 x5_1 (wrap64 (a0 + 1)) x14_1 = some r) ∧ Aside0 (kq ≤ k) ∧ Aside0 (Kd.R (Kd.int .u64) 23 w' w.heap.size (fun _ => True) v5 x5_1) ∧ Aside0 (Below w.heap.size w w'))
  case atStart => exact ⟨(([] : List Int)), (0), (by first | rfl | (simp; done) | (simp [*]; done)), H', ⟨Nat.le_refl _⟩, ⟨by first | exact Kd.R_nil _ _ _ _ _ | exact Kd.N_nil _ _ _ _ _ | exact Kd.V_nil _ _ _ _ _ | exact Kd.Q_nil _ _ _ _ _ | exact Kd.S_nil _ _ _ _ _⟩, ⟨bl_ HB⟩⟩
  case round =>
   clear H'
   try clear c1
   try clear p2
   obtain ⟨x5_1, x14_1, rfl, HA, HK1, HO_5, HB⟩ := hrel
   cases gk with
   | zero => exact absurd HA.out (by simp [medlarref09_Tree.l0])
   | succ k1 =>
    have H := HA.out
    clear HA
    simp only [medlarref09_Tree.l0] at H
    by_cases c3 : x14_1 < (wrap64 (a0 + 1))
    ·rw [if_pos c3] at H
     have c3b0 := decide_eq_true c3
     clear c3
     have H' := ak_ H
     clear H
     go_wp2
     go_loopg [5, 19] k1 (fun kq v5 v19 w' => ∃ (x5_2 : List Int) (x19_2 : Int), v19 = .int .i64 x19_2 ∧ Aside0 (medlarref09_Tree.l1 kq a0 l1 x5_2 x14_1 (wrap64 (a0 + 1)) x14_1 l1 (l1.length : Int) x19_2 = some r) ∧ Aside0 (kq ≤ k1) ∧ Aside0 (Kd.R (Kd.int .u64) 23 w' w.heap.size (fun _ => True) v5 x5_2) ∧ Aside0 (Below w.heap.size w w'))
     case atStart => exact ⟨(x5_1), (0), (by first | rfl | (simp; done) | (simp [*]; done)), H', ⟨Nat.le_refl _⟩, ⟨rl_ HO_5⟩, ⟨bl_ HB⟩⟩
     case round =>
      clear H'
      try clear c1
      try clear p2
      try clear c3
      try clear c3b0
      try clear p2
      obtain ⟨x5_2, x19_2, rfl, HA, HK2, HO_5, HB⟩ := hrel
      cases gk with
      | zero => exact absurd HA.out (by simp [medlarref09_Tree.l1])
      | succ k2 =>
       have H := HA.out
       clear HA
       simp only [medlarref09_Tree.l1] at H
       by_cases c4 : x19_2 < (l1.length : Int)
       ·rw [if_pos c4] at H
        have c4b0 := decide_eq_true c4
        clear c4
        by_cases c5 : 0 ≤ x19_2
        ·rw [if_pos c5] at H
         have c5b0 := decide_eq_true c5
         clear c5
         by_cases c6 : x19_2 < (l1.length : Int)
         ·rw [if_pos c6] at H
          have c6b0 := decide_eq_true c6
          clear c6
          replace H := bind_eq_some_iff.mp H
          obtain ⟨⟨t339, t340⟩, A70, H⟩ := H
          replace H : ((medlarref01_Chain.f k2 t339).bind fun t341 => (if 0 ≤ x14_1 then (if x14_1 < (t341.length : Int) then (if (x5_2.length : Int) = 0 then (if x5_2.length < 17592186044416 then (medlarref09_Tree.l1 k2 a0 l1 (x5_2 ++ [rd t341 x14_1]) x14_1 (wrap64 (a0 + 1)) x14_1 l1 (l1.length : Int) (wrap64 (x19_2 + 1))) else (none)) else (if 0 ≤ (wrap64 ((x5_2.length : Int) - 1)) then (if (wrap64 ((x5_2.length : Int) - 1)) < (x5_2.length : Int) then (if (rd x5_2 (wrap64 ((x5_2.length : Int) - 1))) = (rd t341 x14_1) then (medlarref09_Tree.l1 k2 a0 l1 x5_2 x14_1 (wrap64 (a0 + 1)) x14_1 l1 (l1.length : Int) (wrap64 (x19_2 + 1))) else (if x5_2.length < 17592186044416 then (medlarref09_Tree.l1 k2 a0 l1 (x5_2 ++ [rd t341 x14_1]) x14_1 (wrap64 (a0 + 1)) x14_1 l1 (l1.length : Int) (wrap64 (x19_2 + 1))) else (none))) else (none)) else (none))) else (none)) else (none))) = some r := H
          have A7 := ak_ A70
          clear A70
          replace H := bind_eq_some_iff.mp H
          obtain ⟨t341, A80, H⟩ := H
          replace H : (if 0 ≤ x14_1 then (if x14_1 < (t341.length : Int) then (if (x5_2.length : Int) = 0 then (if x5_2.length < 17592186044416 then (medlarref09_Tree.l1 k2 a0 l1 (x5_2 ++ [rd t341 x14_1]) x14_1 (wrap64 (a0 + 1)) x14_1 l1 (l1.length : Int) (wrap64 (x19_2 + 1))) else (none)) else (if 0 ≤ (wrap64 ((x5_2.length : Int) - 1)) then (if (wrap64 ((x5_2.length : Int) - 1)) < (x5_2.length : Int) then (if (rd x5_2 (wrap64 ((x5_2.length : Int) - 1))) = (rd t341 x14_1) then (medlarref09_Tree.l1 k2 a0 l1 x5_2 x14_1 (wrap64 (a0 + 1)) x14_1 l1 (l1.length : Int) (wrap64 (x19_2 + 1))) else (if x5_2.length < 17592186044416 then (medlarref09_Tree.l1 k2 a0 l1 (x5_2 ++ [rd t341 x14_1]) x14_1 (wrap64 (a0 + 1)) x14_1 l1 (l1.length : Int) (wrap64 (x19_2 + 1))) else (none))) else (none)) else (none))) else (none)) else (none)) = some r := H
          have A8 := ak_ A80
          clear A80
          by_cases c9 : 0 ≤ x14_1
          ·rw [if_pos c9] at H
           have c9b0 := decide_eq_true c9
           clear c9
           by_cases c10 : x14_1 < (t341.length : Int)
           ·rw [if_pos c10] at H
            have c10b0 := decide_eq_true c10
            clear c10
            by_cases c11 : (x5_2.length : Int) = 0
            ·rw [if_pos c11] at H
             have c11b0 : ((x5_2.length : Int) == 0) = true := beq_iff_eq.mpr c11
             have c11b1 : ((x5_2.length : Int) != 0) = false := bne_eq_false_iff_eq.mpr c11
             clear c11
             by_cases c12 : x5_2.length < 17592186044416
             ·rw [if_pos c12] at H
              have LMc12 := ak_ c12
              clear c12
              obtain ⟨y345, hy345⟩ : ∃ y_ : List Int, y_ = (x5_2 ++ [rd t341 x14_1]) := ⟨_, rfl⟩
              replace H : (medlarref09_Tree.l1 k2 a0 l1 y345 x14_1 (wrap64 (a0 + 1)) x14_1 l1 (l1.length : Int) (wrap64 (x19_2 + 1))) = some r := by first | (rw [hy345]; with_reducible exact H) | (have H2_ := (Option.bind_some _ _).symm.trans H; rw [hy345]; with_reducible exact H2_) | (have H2_ := (Option.bind_some _ _).symm.trans H; with_reducible exact H2_) | with_reducible exact H | (rw [hy345]; exact H) | exact H
              have Ny345 := ak_ hy345
              clear hy345
              have H' := ak_ H
              clear H
              have p338 : 0 ≤ (x19_2 : Int) := od_ (by first | (with_reducible assumption) | assumption)
              have q338 : x19_2 < (l1.length : Int) := od_ (by first | (with_reducible assumption) | assumption)
              obtain ⟨ad338, e338, hx338_0⟩ := Kd.at_int HR1.out x19_2 p338 q338
              cases e338
              replace hx338_0 := (HB.out.cell (World.block_lt_of_cell? w _ hx338_0)).trans hx338_0
              replace p338 := eq_true p338
              replace q338 := eq_true q338
              go_wp2_with (first | ((with_reducible refine gate_callee (f := 33) rfl ?_); refine goesL_ (some 26) rfl rfl func33 (by kernel_rfl) rfl #[.int .i64 a0, .int .u64 (rd l1 x19_2)] rfl (by (try simp only [map_toArray, map_cons, map_nil]); first | done | rfl) ?_; (with_reducible refine (medlarref01_Leaf.calls k2 a0 (rd l1 x19_2) t339 t340 _ A7.out).mono ?_); rintro e w' ⟨rfl, ⟨nd, rfl⟩⟩; refine ⟨_, rfl, ?_⟩) | ((with_reducible refine gate_callee (f := 34) rfl ?_); refine goesL_ (some 30) rfl rfl func34 (by kernel_rfl) rfl #[.int .u64 t339] rfl (by (try simp only [map_toArray, map_cons, map_nil]); first | done | rfl) ?_; (with_reducible refine (medlarref01_Chain.calls k2 t339 t341 _ A8.out).mono ?_); rintro e w13 ⟨v342, rfl, ho0, hb⟩; refine ⟨_, rfl, ?_⟩; have n0_ := ak_ (Kd.R_elder' (rl_ HO_5) (Kd.R_base ho0) hb); have n1_ := ak_ (Kd.R_lower (Kd.R_new' ho0 (Kd.R_lt (rl_ HO_5))) (bz_ (bl_ HB))); have n2_ := ak_ (bt_ (bl_ HB) hb); clear HO_5; clear HB; have HO_5 := n0_; have HO343 := n1_; have HB := n2_; clear n0_ n1_ n2_; (try clear hb); (try clear hk); (try clear ho0); obtain ⟨Ao14, co14, eo14⟩ := Kd.R_slice HO343.out; subst eo14; have p344 : 0 ≤ (x14_1 : Int) := od_ (by first | (with_reducible assumption) | assumption); have q344 : x14_1 < (t341.length : Int) := od_ (by first | (with_reducible assumption) | assumption); obtain ⟨ad344, e344, hx344_0⟩ := Kd.at_int (Kd.R_reads' HO343.out).2.2 x14_1 p344 q344; cases e344; replace p344 := eq_true p344; replace q344 := eq_true q344; obtain ⟨Ao15, co15, eo15⟩ := Kd.R_slice HO_5.out; subst eo15) | ((with_reducible refine gate_builtin (b := .append) (xs := #[.tmp 47, .tmp 49]) rfl ?_); (try (refine gate_guard (by rfl) ?_; dsimp only)); at_builtin; refine Kd.R_append (Kd.int .u64) (w0 := w) w.heap.size rfl (.tmp 47) (.tmp 49) 22 23 (.int .u64 0) 8 rfl underlying22 info23 rfl (by decide) (by omega) (.slice Ao15 x5_2.length co15) x5_2 (rd t341 x14_1) [.int .u64 (rd t341 x14_1)] (fun k_ => some k_ ≠ (.slice (some ad344) t341.length co14 : Value).ownBlock) (fun _ => False) rfl rfl ?aP (fun _ hk => hk.elim) ?aF ?aO ?aB ?aS ?aL ?_; (case aP => exact rfl); (case aB => exact (bl_ HB)); (case aF => exact (fun k_ hk => Kd.fresh' (Kd.R_lt (rl_ HO343)) k_ hk)); (case aO => exact (by (with_reducible repeat (first | apply Kd.R_alloc | apply Kd.R_drewN | apply Kd.R_drew)); exact Kd.R_mono HO_5.out (fun _ hk => hk.2))); (case aS => exact (bz_ (bl_ HB))); (case aL => have := LMc12.out; omega); intro v346 w16 ho hb hg hat; rw [← Ny345.out] at ho; have n0_ := ak_ (Kd.R_after (ok := (fun _ => True)) (rl_ HO343) hg hat); have n1_ := ak_ (hb); have n2_ := ak_ (ho); clear HO343; clear HB; clear HO_5; have HO343 := n0_; have HB := n1_; have HO347 := n2_; clear n0_ n1_ n2_; clear ho hb hg hat))
              go_roundg k2
              case measure => have := HK1.out; have := HK2.out; omega
              case rel => exact ⟨(y345), (wrap64 (x19_2 + 1)), (by first | rfl | (simp; done) | (simp [*]; done)), H', ⟨by have := HK1.out; have := HK2.out; omega⟩, ⟨by (with_reducible repeat (first | apply Kd.R_alloc | apply Kd.R_drewN | apply Kd.R_drew)); exact Kd.R_mono HO347.out (fun _ hk => trivial)⟩, ⟨bl_ HB⟩⟩
             ·rw [if_neg c12] at H
              exact absurd H (by simp)
            ·rw [if_neg c11] at H
             have c11b0 : ((x5_2.length : Int) == 0) = false := beq_eq_false_iff_ne.mpr c11
             have c11b1 : ((x5_2.length : Int) != 0) = true := bne_iff_ne.mpr c11
             have c11b2 : ¬ (x5_2 = []) := fun h_ => c11 (by rw [h_]; rfl)
             obtain ⟨ji17, hji17⟩ : ∃ j_ : Int, (wrap64 ((x5_2.length : Int) - 1)) = j_ := ⟨_, rfl⟩
             replace H : (if 0 ≤ (ji17) then (if (ji17) < (x5_2.length : Int) then (if (rd x5_2 (ji17)) = (rd t341 x14_1) then (medlarref09_Tree.l1 k2 a0 l1 x5_2 x14_1 (wrap64 (a0 + 1)) x14_1 l1 (l1.length : Int) (wrap64 (x19_2 + 1))) else (if x5_2.length < 17592186044416 then (medlarref09_Tree.l1 k2 a0 l1 (x5_2 ++ [rd t341 x14_1]) x14_1 (wrap64 (a0 + 1)) x14_1 l1 (l1.length : Int) (wrap64 (x19_2 + 1))) else (none))) else (none)) else (none)) = some r := by first | (rw [hji17] at H; exact H) | (simp only [hji17] at H ⊢; exact H)
             (try rw [hji17] at A7)
             (try rw [hji17] at A8)
             have hji17w : (IntKind.i64.wrap ((x5_2.length : Int) - 1)) = ji17 := (i64_w _).trans hji17
             by_cases c18 : 0 ≤ (ji17)
             ·rw [if_pos c18] at H
              have c18b0 := decide_eq_true c18
              clear c18
              by_cases c19 : (ji17) < (x5_2.length : Int)
              ·rw [if_pos c19] at H
               have c19b0 := decide_eq_true c19
               clear c19
               by_cases c20 : (rd x5_2 (ji17)) = (rd t341 x14_1)
               ·rw [if_pos c20] at H
                have c20b0 : ((rd x5_2 (ji17)) == (rd t341 x14_1)) = true := beq_iff_eq.mpr c20
                have c20b1 : ((rd x5_2 (ji17)) != (rd t341 x14_1)) = false := bne_eq_false_iff_eq.mpr c20
                clear c20
                have H' := ak_ H
                clear H
                have p338 : 0 ≤ (x19_2 : Int) := od_ (by first | (with_reducible assumption) | assumption)
                have q338 : x19_2 < (l1.length : Int) := od_ (by first | (with_reducible assumption) | assumption)
                obtain ⟨ad338, e338, hx338_0⟩ := Kd.at_int HR1.out x19_2 p338 q338
                cases e338
                replace hx338_0 := (HB.out.cell (World.block_lt_of_cell? w _ hx338_0)).trans hx338_0
                replace p338 := eq_true p338
                replace q338 := eq_true q338
                go_wp2_with (first | ((with_reducible refine gate_callee (f := 33) rfl ?_); refine goesL_ (some 26) rfl rfl func33 (by kernel_rfl) rfl #[.int .i64 a0, .int .u64 (rd l1 x19_2)] rfl (by (try simp only [map_toArray, map_cons, map_nil]); first | done | rfl) ?_; (with_reducible refine (medlarref01_Leaf.calls k2 a0 (rd l1 x19_2) t339 t340 _ A7.out).mono ?_); rintro e w' ⟨rfl, ⟨nd, rfl⟩⟩; refine ⟨_, rfl, ?_⟩) | ((with_reducible refine gate_callee (f := 34) rfl ?_); refine goesL_ (some 30) rfl rfl func34 (by kernel_rfl) rfl #[.int .u64 t339] rfl (by (try simp only [map_toArray, map_cons, map_nil]); first | done | rfl) ?_; (with_reducible refine (medlarref01_Chain.calls k2 t339 t341 _ A8.out).mono ?_); rintro e w21 ⟨v342, rfl, ho0, hb⟩; refine ⟨_, rfl, ?_⟩; have n0_ := ak_ (Kd.R_elder' (rl_ HO_5) (Kd.R_base ho0) hb); have n1_ := ak_ (Kd.R_lower (Kd.R_new' ho0 (Kd.R_lt (rl_ HO_5))) (bz_ (bl_ HB))); have n2_ := ak_ (bt_ (bl_ HB) hb); clear HO_5; clear HB; have HO_5 := n0_; have HO343 := n1_; have HB := n2_; clear n0_ n1_ n2_; (try clear hb); (try clear hk); (try clear ho0); obtain ⟨Ao22, co22, eo22⟩ := Kd.R_slice HO343.out; subst eo22; have p344 : 0 ≤ (x14_1 : Int) := od_ (by first | (with_reducible assumption) | assumption); have q344 : x14_1 < (t341.length : Int) := od_ (by first | (with_reducible assumption) | assumption); obtain ⟨ad344, e344, hx344_0⟩ := Kd.at_int (Kd.R_reads' HO343.out).2.2 x14_1 p344 q344; cases e344; replace p344 := eq_true p344; replace q344 := eq_true q344; obtain ⟨Ao23, co23, eo23⟩ := Kd.R_slice HO_5.out; subst eo23; have p348 : 0 ≤ ((ji17) : Int) := od_ (by first | (with_reducible assumption) | assumption); have q348 : (ji17) < (x5_2.length : Int) := od_ (by first | (with_reducible assumption) | assumption); obtain ⟨ad348, e348, hx348_0⟩ := Kd.at_int (Kd.R_reads' HO_5.out).2.2 (ji17) p348 q348; cases e348; replace p348 := eq_true p348; replace q348 := eq_true q348))
                go_roundg k2
                case measure => have := HK1.out; have := HK2.out; omega
                case rel => exact ⟨(x5_2), (wrap64 (x19_2 + 1)), (by first | rfl | (simp; done) | (simp [*]; done)), H', ⟨by have := HK1.out; have := HK2.out; omega⟩, ⟨by (with_reducible repeat (first | apply Kd.R_alloc | apply Kd.R_drewN | apply Kd.R_drew)); exact Kd.R_mono HO_5.out (fun _ hk => trivial)⟩, ⟨bl_ HB⟩⟩
               ·rw [if_neg c20] at H
                have c20b0 : ((rd x5_2 (ji17)) == (rd t341 x14_1)) = false := beq_eq_false_iff_ne.mpr c20
                have c20b1 : ((rd x5_2 (ji17)) != (rd t341 x14_1)) = true := bne_iff_ne.mpr c20
                by_cases c24 : x5_2.length < 17592186044416
                ·rw [if_pos c24] at H
                 have LMc24 := ak_ c24
                 clear c24
                 obtain ⟨y349, hy349⟩ : ∃ y_ : List Int, y_ = (x5_2 ++ [rd t341 x14_1]) := ⟨_, rfl⟩
                 replace H : (medlarref09_Tree.l1 k2 a0 l1 y349 x14_1 (wrap64 (a0 + 1)) x14_1 l1 (l1.length : Int) (wrap64 (x19_2 + 1))) = some r := by first | (rw [hy349]; with_reducible exact H) | (have H2_ := (Option.bind_some _ _).symm.trans H; rw [hy349]; with_reducible exact H2_) | (have H2_ := (Option.bind_some _ _).symm.trans H; with_reducible exact H2_) | with_reducible exact H | (rw [hy349]; exact H) | exact H
                 have Ny349 := ak_ hy349
                 clear hy349
                 have H' := ak_ H
                 clear H
                 have p338 : 0 ≤ (x19_2 : Int) := od_ (by first | (with_reducible assumption) | assumption)
                 have q338 : x19_2 < (l1.length : Int) := od_ (by first | (with_reducible assumption) | assumption)
                 obtain ⟨ad338, e338, hx338_0⟩ := Kd.at_int HR1.out x19_2 p338 q338
                 cases e338
                 replace hx338_0 := (HB.out.cell (World.block_lt_of_cell? w _ hx338_0)).trans hx338_0
                 replace p338 := eq_true p338
                 replace q338 := eq_true q338
                 go_wp2_with (first | ((with_reducible refine gate_callee (f := 33) rfl ?_); refine goesL_ (some 26) rfl rfl func33 (by kernel_rfl) rfl #[.int .i64 a0, .int .u64 (rd l1 x19_2)] rfl (by (try simp only [map_toArray, map_cons, map_nil]); first | done | rfl) ?_; (with_reducible refine (medlarref01_Leaf.calls k2 a0 (rd l1 x19_2) t339 t340 _ A7.out).mono ?_); rintro e w' ⟨rfl, ⟨nd, rfl⟩⟩; refine ⟨_, rfl, ?_⟩) | ((with_reducible refine gate_callee (f := 34) rfl ?_); refine goesL_ (some 30) rfl rfl func34 (by kernel_rfl) rfl #[.int .u64 t339] rfl (by (try simp only [map_toArray, map_cons, map_nil]); first | done | rfl) ?_; (with_reducible refine (medlarref01_Chain.calls k2 t339 t341 _ A8.out).mono ?_); rintro e w25 ⟨v342, rfl, ho0, hb⟩; refine ⟨_, rfl, ?_⟩; have n0_ := ak_ (Kd.R_elder' (rl_ HO_5) (Kd.R_base ho0) hb); have n1_ := ak_ (Kd.R_lower (Kd.R_new' ho0 (Kd.R_lt (rl_ HO_5))) (bz_ (bl_ HB))); have n2_ := ak_ (bt_ (bl_ HB) hb); clear HO_5; clear HB; have HO_5 := n0_; have HO343 := n1_; have HB := n2_; clear n0_ n1_ n2_; (try clear hb); (try clear hk); (try clear ho0); obtain ⟨Ao26, co26, eo26⟩ := Kd.R_slice HO343.out; subst eo26; have p344 : 0 ≤ (x14_1 : Int) := od_ (by first | (with_reducible assumption) | assumption); have q344 : x14_1 < (t341.length : Int) := od_ (by first | (with_reducible assumption) | assumption); obtain ⟨ad344, e344, hx344_0⟩ := Kd.at_int (Kd.R_reads' HO343.out).2.2 x14_1 p344 q344; cases e344; replace p344 := eq_true p344; replace q344 := eq_true q344; obtain ⟨Ao27, co27, eo27⟩ := Kd.R_slice HO_5.out; subst eo27; have p348 : 0 ≤ ((ji17) : Int) := od_ (by first | (with_reducible assumption) | assumption); have q348 : (ji17) < (x5_2.length : Int) := od_ (by first | (with_reducible assumption) | assumption); obtain ⟨ad348, e348, hx348_0⟩ := Kd.at_int (Kd.R_reads' HO_5.out).2.2 (ji17) p348 q348; cases e348; replace p348 := eq_true p348; replace q348 := eq_true q348) | ((with_reducible refine gate_builtin (b := .append) (xs := #[.tmp 47, .tmp 49]) rfl ?_); (try (refine gate_guard (by rfl) ?_; dsimp only)); at_builtin; refine Kd.R_append (Kd.int .u64) (w0 := w) w.heap.size rfl (.tmp 47) (.tmp 49) 22 23 (.int .u64 0) 8 rfl underlying22 info23 rfl (by decide) (by omega) (.slice (some ad348) x5_2.length co27) x5_2 (rd t341 x14_1) [.int .u64 (rd t341 x14_1)] (fun k_ => some k_ ≠ (.slice (some ad344) t341.length co26 : Value).ownBlock) (fun _ => False) rfl rfl ?aP (fun _ hk => hk.elim) ?aF ?aO ?aB ?aS ?aL ?_; (case aP => exact rfl); (case aB => exact (bl_ HB)); (case aF => exact (fun k_ hk => Kd.fresh' (Kd.R_lt (rl_ HO343)) k_ hk)); (case aO => exact (by (with_reducible repeat (first | apply Kd.R_alloc | apply Kd.R_drewN | apply Kd.R_drew)); exact Kd.R_mono HO_5.out (fun _ hk => hk.2))); (case aS => exact (bz_ (bl_ HB))); (case aL => have := LMc24.out; omega); intro v350 w28 ho hb hg hat; rw [← Ny349.out] at ho; have n0_ := ak_ (Kd.R_after (ok := (fun _ => True)) (rl_ HO343) hg hat); have n1_ := ak_ (hb); have n2_ := ak_ (ho); clear HO343; clear HB; clear HO_5; have HO343 := n0_; have HB := n1_; have HO351 := n2_; clear n0_ n1_ n2_; clear ho hb hg hat))
                 go_roundg k2
                 case measure => have := HK1.out; have := HK2.out; omega
                 case rel => exact ⟨(y349), (wrap64 (x19_2 + 1)), (by first | rfl | (simp; done) | (simp [*]; done)), H', ⟨by have := HK1.out; have := HK2.out; omega⟩, ⟨by (with_reducible repeat (first | apply Kd.R_alloc | apply Kd.R_drewN | apply Kd.R_drew)); exact Kd.R_mono HO351.out (fun _ hk => trivial)⟩, ⟨bl_ HB⟩⟩
                ·rw [if_neg c24] at H
                 exact absurd H (by simp)
              ·rw [if_neg c19] at H
               exact absurd H (by simp)
             ·rw [if_neg c18] at H
              exact absurd H (by simp)
           ·rw [if_neg c10] at H
            exact absurd H (by simp)
          ·rw [if_neg c9] at H
           exact absurd H (by simp)
         ·rw [if_neg c6] at H
          exact absurd H (by simp)
        ·rw [if_neg c5] at H
         exact absurd H (by simp)
       ·rw [if_neg c4] at H
        have c4b0 := decide_eq_false c4
        clear c4
        have H' := ak_ H
        clear H
        go_wp2
        go_roundg k2
        case measure => have := HK1.out; have := HK2.out; omega
        case rel => exact ⟨(x5_2), (wrap64 (x14_1 + 1)), (by first | rfl | (simp; done) | (simp [*]; done)), H', ⟨by have := HK1.out; have := HK2.out; omega⟩, ⟨rl_ HO_5⟩, ⟨bl_ HB⟩⟩
    ·rw [if_neg c3] at H
     have c3b0 := decide_eq_false c3
     clear c3
     obtain rfl := Option.some.inj H
     go_wp2
     go_ret
     exact ⟨_, by first | rfl | (simp <;> rfl) | (simp [*] <;> rfl), by (with_reducible repeat (first | apply Kd.R_alloc | apply Kd.R_drewN | apply Kd.R_drew)); exact HO_5.out, bl_ HB⟩
def medlarref02_In.l0 : Nat → Int → List Int → Int → Int → Option (Bool)
  | 0, _, _, _, _ => none
  | k + 1, x1, x7, x8, x9 => if x9 < x8 then (if 0 ≤ x9 then (if x9 < (x7.length : Int) then (if (rd x7 x9) = x1 then (some true) else (medlarref02_In.l0 k x1 x7 x8 (wrap64 (x9 + 1)))) else (none)) else (none)) else (some false)
def medlarref02_In.f (k : Nat) (l0 : List Int) (a1 : Int) : Option (Bool) := medlarref02_In.l0 k a1 l0 (l0.length : Int) 0
set_option maxHeartbeats 8000000 in
set_option maxRecDepth 100000 in
theorem medlarref02_In.calls (k : Nat) (A0 : Option Addr) (c0 : Nat) (l0 : List Int) (a1 : Int) (r : Bool) (w : World) (hr0 : Kd.C (Kd.int .u64) w A0 l0.length l0) (hc0 : l0.length ≤ c0) (h : medlarref02_In.f k l0 a1 = some r) :
   Calls Tryz.prog 80 #[.slice A0 l0.length c0, .int .u64 a1] w fun e w' => e = .returned (.bool r) ∧ Drawn0 w w' := by
  have HR0 := ak_ hr0
  have HC0 := ak_ hc0
  clear hr0 hc0
  have H : (medlarref02_In.l0 k a1 l0 (l0.length : Int) 0) = some r := h
  clear h
  have H' := ak_ H
  clear H
  go_enter func80, ntmps80
  go_wp2
  go_loopg [9] k (fun kq v9 w' => ∃ (x9_1 : Int), v9 = .int .i64 x9_1 ∧ Aside0 (medlarref02_In.l0 kq a1 l0 (l0.length : Int) x9_1 = some r) ∧ Aside0 (kq ≤ k) ∧ Drawn0 w w')
  case atStart => exact ⟨(0), (by first | rfl | (simp; done) | (simp [*]; done)), H', ⟨Nat.le_refl _⟩, by repeat (first | exact Drawn0.refl _ | apply Drawn0.step)⟩
  case round =>
   clear H'
   try clear p2
   obtain ⟨x9_1, rfl, HA, HK1, ⟨m1, rfl⟩⟩ := hrel
   cases gk with
   | zero => exact absurd HA.out (by simp [medlarref02_In.l0])
   | succ k1 =>
    have H := HA.out
    clear HA
    simp only [medlarref02_In.l0] at H
    by_cases c3 : x9_1 < (l0.length : Int)
    ·rw [if_pos c3] at H
     have c3b0 := decide_eq_true c3
     clear c3
     by_cases c4 : 0 ≤ x9_1
     ·rw [if_pos c4] at H
      have c4b0 := decide_eq_true c4
      clear c4
      by_cases c5 : x9_1 < (l0.length : Int)
      ·rw [if_pos c5] at H
       have c5b0 := decide_eq_true c5
       clear c5
       by_cases c6 : (rd l0 x9_1) = a1
       ·rw [if_pos c6] at H
        have c6b0 : ((rd l0 x9_1) == a1) = true := beq_iff_eq.mpr c6
        have c6b1 : ((rd l0 x9_1) != a1) = false := bne_eq_false_iff_eq.mpr c6
        clear c6
        obtain rfl := Option.some.inj H
        have p352 : 0 ≤ (x9_1 : Int) := od_ (by first | (with_reducible assumption) | assumption)
        have q352 : x9_1 < (l0.length : Int) := od_ (by first | (with_reducible assumption) | assumption)
        obtain ⟨ad352, e352, hx352_0⟩ := Kd.at_int HR0.out x9_1 p352 q352
        cases e352
        replace p352 := eq_true p352
        replace q352 := eq_true q352
        go_wp2
        go_ret
        exact ⟨by first | rfl | (simp; done) | (simp [*]; done), by repeat (first | exact Drawn0.refl _ | apply Drawn0.step)⟩
       ·rw [if_neg c6] at H
        have c6b0 : ((rd l0 x9_1) == a1) = false := beq_eq_false_iff_ne.mpr c6
        have c6b1 : ((rd l0 x9_1) != a1) = true := bne_iff_ne.mpr c6
        have H' := ak_ H
        clear H
        have p352 : 0 ≤ (x9_1 : Int) := od_ (by first | (with_reducible assumption) | assumption)
        have q352 : x9_1 < (l0.length : Int) := od_ (by first | (with_reducible assumption) | assumption)
        obtain ⟨ad352, e352, hx352_0⟩ := Kd.at_int HR0.out x9_1 p352 q352
        cases e352
        replace p352 := eq_true p352
        replace q352 := eq_true q352
        go_wp2
        go_roundg k1
        case measure => have := HK1.out; omega
        case rel => exact ⟨(wrap64 (x9_1 + 1)), (by first | rfl | (simp; done) | (simp [*]; done)), H', ⟨by have := HK1.out; omega⟩, by repeat (first | exact Drawn0.refl _ | apply Drawn0.step)⟩
      ·rw [if_neg c5] at H
       exact absurd H (by simp)
     ·rw [if_neg c4] at H
      exact absurd H (by simp)
    ·rw [if_neg c3] at H
     have c3b0 := decide_eq_false c3
     clear c3
     obtain rfl := Option.some.inj H
     go_wp2
     go_ret
     exact ⟨by first | rfl | (simp; done) | (simp [*]; done), by repeat (first | exact Drawn0.refl _ | apply Drawn0.step)⟩
mutual
def medlarref09_Hang.l0 : Nat → Int → List Int → List Int → List Int → Int → Int → Option (List Int × Int)
  | 0, _, _, _, _, _, _ => none
  | k + 1, x0, x6, x7, x23, x24, x25 => if x25 < x24 then (if 0 ≤ x25 then (if x25 < (x23.length : Int) then (medlarref09_Hang.l1 k x0 x6 x7 (rd x23 x25) x23 x24 x25 0) else (none)) else (none)) else (some (x7, 0))
def medlarref09_Hang.l1 : Nat → Int → List Int → List Int → Int → List Int → Int → Int → Int → Option (List Int × Int)
  | 0, _, _, _, _, _, _, _, _ => none
  | k + 1, x0, x6, x7, x9, x23, x24, x25, x29 => if x29 < 2 then ((medlarref01_May.f k x0 (IntKind.u64.wrap ((IntKind.u64.wrap (2 * x9)) + x29))).bind fun t361 => (if t361 = true then ((medlarref02_In.f k x6 (IntKind.u64.wrap ((IntKind.u64.wrap (2 * x9)) + x29))).bind fun t362 => (if t362 = true then (medlarref09_Hang.l1 k x0 x6 x7 x9 x23 x24 x25 (IntKind.u64.wrap (x29 + 1))) else (if x7.length < 17592186044416 then (medlarref09_Hang.l1 k x0 x6 (x7 ++ [IntKind.u64.wrap ((IntKind.u64.wrap (2 * x9)) + x29)]) x9 x23 x24 x25 (IntKind.u64.wrap (x29 + 1))) else (none)))) else (medlarref09_Hang.l1 k x0 x6 x7 x9 x23 x24 x25 (IntKind.u64.wrap (x29 + 1))))) else (medlarref09_Hang.l0 k x0 x6 x7 x23 x24 (wrap64 (x25 + 1)))
end
def medlarref09_Hang.f (k : Nat) (a0 : Int) (l1 : List Int) : Option (List Int × Int) := (medlarref09_may.f k a0 l1 1).bind fun t353 => (if t353 = true then (if (l1.length : Int) = 0 then (some ((([1] : List Int)), 0)) else ((medlarref09_Tree.f k a0 l1).bind fun t357 => (medlarref09_Hang.l0 k a0 t357 ([] : List Int) t357 (t357.length : Int) 0))) else (some (([] : List Int), 1)))
set_option maxHeartbeats 8000000 in
set_option maxRecDepth 100000 in
theorem medlarref09_Hang.calls (k : Nat) (a0 : Int) (A1 : Option Addr) (c1 : Nat) (l1 : List Int) (r1 : List Int) (r2 : Int) (w : World) (hr1 : Kd.C (Kd.int .u64) w A1 l1.length l1) (hc1 : l1.length ≤ c1) (h : medlarref09_Hang.f k a0 l1 = some (r1, r2)) :
   Calls Tryz.prog 51 #[.int .i64 a0, .slice A1 l1.length c1] w fun e w' => ∃ v0_ : Value, e = .returned (.tuple #[v0_, .int .i64 r2]) ∧ Kd.R (Kd.int .u64) 23 w' w.heap.size (fun _ => True) v0_ r1 ∧ Below w.heap.size w w' := by
  have HR1 := ak_ hr1
  have HC1 := ak_ hc1
  clear hr1 hc1
  have HB := ak_ (Below.refl w.heap.size w)
  have H : ((medlarref09_may.f k a0 l1 1).bind fun t353 => (if t353 = true then (if (l1.length : Int) = 0 then (some ((([1] : List Int)), 0)) else ((medlarref09_Tree.f k a0 l1).bind fun t357 => (medlarref09_Hang.l0 k a0 t357 ([] : List Int) t357 (t357.length : Int) 0))) else (some (([] : List Int), 1)))) = some (r1, r2) := h
  clear h
  replace H := bind_eq_some_iff.mp H
  obtain ⟨t353, A30, H⟩ := H
  replace H : (if t353 = true then (if (l1.length : Int) = 0 then (some ((([1] : List Int)), 0)) else ((medlarref09_Tree.f k a0 l1).bind fun t357 => (medlarref09_Hang.l0 k a0 t357 ([] : List Int) t357 (t357.length : Int) 0))) else (some (([] : List Int), 1))) = some (r1, r2) := H
  have A3 := ak_ A30
  clear A30
  by_cases c4 : t353 = true
  ·subst c4
   have H1 : (if (l1.length : Int) = 0 then (some ((([1] : List Int)), 0)) else ((medlarref09_Tree.f k a0 l1).bind fun t357 => (medlarref09_Hang.l0 k a0 t357 ([] : List Int) t357 (t357.length : Int) 0))) = some (r1, r2) := by rw [if_pos rfl] at H; exact H
   clear H
   have H := H1
   clear H1
   by_cases c5 : (l1.length : Int) = 0
   ·rw [if_pos c5] at H
    have c5b0 : ((l1.length : Int) == 0) = true := beq_iff_eq.mpr c5
    have c5b1 : ((l1.length : Int) != 0) = false := bne_eq_false_iff_eq.mpr c5
    clear c5
    obtain ⟨y354, hy354⟩ : ∃ y_ : List Int, y_ = (([1] : List Int)) := ⟨_, rfl⟩
    replace H : (some (y354, 0)) = some (r1, r2) := by first | (rw [hy354]; with_reducible exact H) | (have H2_ := (Option.bind_some _ _).symm.trans H; rw [hy354]; with_reducible exact H2_) | (have H2_ := (Option.bind_some _ _).symm.trans H; with_reducible exact H2_) | with_reducible exact H | (rw [hy354]; exact H) | exact H
    have Ny354 := ak_ hy354
    clear hy354
    simp only [some.injEq, Prod.mk.injEq] at H
    obtain ⟨rfl, rfl⟩ := H
    go_enter func51, ntmps51
    go_wp2_with (first | ((with_reducible refine gate_callee (f := 78) rfl ?_); refine goesL_ (some 14) rfl rfl func78 (by kernel_rfl) rfl #[.int .i64 a0, .slice A1 l1.length c1, .int .u64 1] rfl (by (try simp only [map_toArray, map_cons, map_nil]); first | done | rfl) ?_; (with_reducible refine (medlarref09_may.calls k a0 _ _ l1 1 true _ ?side1 ?side2 A3.out).mono ?_); (case side1 => repeat (first | exact HR1.out | (with_reducible refine Kd.C_alloc ?_ _) | (with_reducible refine Kd.C_drewN ?_ _) | (with_reducible refine Kd.C_drew ?_))); (case side2 => exact HC1.out); rintro e w' ⟨rfl, ⟨nd, rfl⟩⟩; refine ⟨_, rfl, ?_⟩) | ((with_reducible refine gate_dst (N := 19) rfl ?_); refine Kd.R_lit (Kd.int .u64) _ 23 ?hg (N := 19) ?hd (xs := ([1] : List Int)) (inner := [.int .u64 1]) (ok := fun _ => True) (okp := fun _ => True) ?hr ?hp (fun _ hk => hk) trivial (Below.refl _ _) (Nat.le_refl _) (by simp) ?_; (case hd => rfl); (case hg => rfl); (case hr => first | (go_simp; done) | (go_simp; rfl)); (case hp => exact (Reps.one (show Kd.M (Kd.int .u64) _ _ _ 1 [.int .u64 1] from rfl) (Reps.none _ _))); intro v355 w6 ho7 hb hg_ hnew_; clear hg_ hnew_; (first | rw [← Ny354.out] at ho7 | (simp only [Int.reduceToNat] at ho7; rw [← Ny354.out] at ho7)); have n0_ := ak_ (Kd.R_lower ho7 (bz_ (bl_ HB))); have n1_ := ak_ (bt_ (bl_ HB) hb); clear HB; have HO356 := n0_; have HB := n1_; clear n0_ n1_; clear hb ho7))
    go_ret2
    exact ⟨_, by first | rfl | (simp <;> rfl) | (simp [*] <;> rfl), by (with_reducible repeat (first | apply Kd.R_alloc | apply Kd.R_drewN | apply Kd.R_drew)); exact HO356.out, bl_ HB⟩
   ·rw [if_neg c5] at H
    have c5b0 : ((l1.length : Int) == 0) = false := beq_eq_false_iff_ne.mpr c5
    have c5b1 : ((l1.length : Int) != 0) = true := bne_iff_ne.mpr c5
    have c5b2 : ¬ (l1 = []) := fun h_ => c5 (by rw [h_]; rfl)
    replace H := bind_eq_some_iff.mp H
    obtain ⟨t357, A80, H⟩ := H
    replace H : (medlarref09_Hang.l0 k a0 t357 ([] : List Int) t357 (t357.length : Int) 0) = some (r1, r2) := H
    have A8 := ak_ A80
    clear A80
    have H' := ak_ H
    clear H
    go_enter func51, ntmps51
    go_wp2_with (first | ((with_reducible refine gate_callee (f := 78) rfl ?_); refine goesL_ (some 14) rfl rfl func78 (by kernel_rfl) rfl #[.int .i64 a0, .slice A1 l1.length c1, .int .u64 1] rfl (by (try simp only [map_toArray, map_cons, map_nil]); first | done | rfl) ?_; (with_reducible refine (medlarref09_may.calls k a0 _ _ l1 1 true _ ?side1 ?side2 A3.out).mono ?_); (case side1 => repeat (first | exact HR1.out | (with_reducible refine Kd.C_alloc ?_ _) | (with_reducible refine Kd.C_drewN ?_ _) | (with_reducible refine Kd.C_drew ?_))); (case side2 => exact HC1.out); rintro e w' ⟨rfl, ⟨nd, rfl⟩⟩; refine ⟨_, rfl, ?_⟩) | ((with_reducible refine gate_callee (f := 79) rfl ?_); refine goesL_ (some 22) rfl rfl func79 (by kernel_rfl) rfl #[.int .i64 a0, .slice A1 l1.length c1] rfl (by (try simp only [map_toArray, map_cons, map_nil]); first | done | rfl) ?_; (with_reducible refine (medlarref09_Tree.calls k a0 _ _ l1 t357 _ ?side1 ?side2 A8.out).mono ?_); (case side1 => repeat (first | exact HR1.out | (with_reducible refine Kd.C_alloc ?_ _) | (with_reducible refine Kd.C_drewN ?_ _) | (with_reducible refine Kd.C_drew ?_))); (case side2 => exact HC1.out); rintro e w9 ⟨v358, rfl, ho0, hb⟩; refine ⟨_, rfl, ?_⟩; have n0_ := ak_ (Kd.R_lower ho0 (bz_ (bl_ HB))); have n1_ := ak_ (bt_ (bl_ HB) hb); clear HB; have HO359 := n0_; have HB := n1_; clear n0_ n1_; (try clear hb); (try clear hk); (try clear ho0); obtain ⟨Ao10, co10, eo10⟩ := Kd.R_slice HO359.out; subst eo10))
    go_loopg [7, 25] k (fun kq v7 v25 w' => ∃ (x7_1 : List Int) (x25_1 : Int), v25 = .int .i64 x25_1 ∧ Aside0 (medlarref09_Hang.l0 kq a0 t357 x7_1 t357 (t357.length : Int) x25_1 = some (r1, r2)) ∧ Aside0 (kq ≤ k) ∧ Aside0 (Kd.R (Kd.int .u64) 23 w' w.heap.size (fun k_ => some k_ ≠ (v7 : Value).ownBlock) (.slice Ao10 t357.length co10) t357) ∧ Aside0 (Kd.R (Kd.int .u64) 23 w' w.heap.size (fun k_ => some k_ ≠ ((.slice Ao10 t357.length co10) : Value).ownBlock ∧ some k_ ≠ ((.slice Ao10 t357.length co10) : Value).ownBlock) v7 x7_1) ∧ Aside0 (Kd.R (Kd.int .u64) 23 w' w.heap.size (fun k_ => some k_ ≠ (v7 : Value).ownBlock) (.slice Ao10 t357.length co10) t357) ∧ Aside0 (Below w.heap.size w w'))
    case atStart => exact ⟨(([] : List Int)), (0), (by first | rfl | (simp; done) | (simp [*]; done)), H', ⟨Nat.le_refl _⟩, ⟨by (with_reducible repeat (first | apply Kd.R_alloc | apply Kd.R_drewN | apply Kd.R_drew)); exact Kd.R_mono HO359.out (fun _ hk => (by simp [Value.ownBlock]))⟩, ⟨by first | exact Kd.R_nil _ _ _ _ _ | exact Kd.N_nil _ _ _ _ _ | exact Kd.V_nil _ _ _ _ _ | exact Kd.Q_nil _ _ _ _ _ | exact Kd.S_nil _ _ _ _ _⟩, ⟨by (with_reducible repeat (first | apply Kd.R_alloc | apply Kd.R_drewN | apply Kd.R_drew)); exact Kd.R_mono HO359.out (fun _ hk => (by simp [Value.ownBlock]))⟩, ⟨bl_ HB⟩⟩
    case round =>
     clear H'
     try clear c1
     try clear p2
     try clear c4
     try clear c5
     try clear c5b0
     try clear c5b1
     try clear c5b2
     try clear c7
     obtain ⟨x7_1, x25_1, rfl, HA, HK1, HO_6, HO_7, HO_23, HB⟩ := hrel
     cases gk with
     | zero => exact absurd HA.out (by simp [medlarref09_Hang.l0])
     | succ k1 =>
      have H := HA.out
      clear HA
      simp only [medlarref09_Hang.l0] at H
      by_cases c11 : x25_1 < (t357.length : Int)
      ·rw [if_pos c11] at H
       have c11b0 := decide_eq_true c11
       clear c11
       by_cases c12 : 0 ≤ x25_1
       ·rw [if_pos c12] at H
        have c12b0 := decide_eq_true c12
        clear c12
        by_cases c13 : x25_1 < (t357.length : Int)
        ·rw [if_pos c13] at H
         have c13b0 := decide_eq_true c13
         clear c13
         have H' := ak_ H
         clear H
         have p360 : 0 ≤ (x25_1 : Int) := od_ (by first | (with_reducible assumption) | assumption)
         have q360 : x25_1 < (t357.length : Int) := od_ (by first | (with_reducible assumption) | assumption)
         obtain ⟨ad360, e360, hx360_0⟩ := Kd.at_int (Kd.R_reads' HO_23.out).2.2 x25_1 p360 q360
         cases e360
         replace p360 := eq_true p360
         replace q360 := eq_true q360
         go_wp2
         go_loopg [7, 29] k1 (fun kq v7 v29 w' => ∃ (x7_2 : List Int) (x29_2 : Int), v29 = .int .u64 x29_2 ∧ Aside0 (medlarref09_Hang.l1 kq a0 t357 x7_2 (rd t357 x25_1) t357 (t357.length : Int) x25_1 x29_2 = some (r1, r2)) ∧ Aside0 (kq ≤ k1) ∧ Aside0 (Kd.R (Kd.int .u64) 23 w' w.heap.size (fun k_ => some k_ ≠ (v7 : Value).ownBlock) (.slice (some ad360) t357.length co10) t357) ∧ Aside0 (Kd.R (Kd.int .u64) 23 w' w.heap.size (fun k_ => some k_ ≠ ((.slice (some ad360) t357.length co10) : Value).ownBlock ∧ some k_ ≠ ((.slice (some ad360) t357.length co10) : Value).ownBlock) v7 x7_2) ∧ Aside0 (Kd.R (Kd.int .u64) 23 w' w.heap.size (fun k_ => some k_ ≠ (v7 : Value).ownBlock) (.slice (some ad360) t357.length co10) t357) ∧ Aside0 (Below w.heap.size w w'))
         case atStart => exact ⟨(x7_1), (0), (by first | rfl | (simp; done) | (simp [*]; done)), H', ⟨Nat.le_refl _⟩, ⟨rl_ HO_6⟩, ⟨rl_ HO_7⟩, ⟨rl_ HO_23⟩, ⟨bl_ HB⟩⟩
         case round =>
          clear H'
          try clear c1
          try clear p2
          try clear p3
          try clear q3
          try clear hx3
          try clear c4
          try clear c5
          try clear c5b0
          try clear c5b1
          try clear c5b2
          try clear c7
          try clear c11
          try clear c11b0
          try clear c12
          try clear c12b0
          try clear c13
          try clear c13b0
          try clear hx360_0
          try clear p2
          try clear p360
          try clear q360
          obtain ⟨x7_2, x29_2, rfl, HA, HK2, HO_6, HO_7, HO_23, HB⟩ := hrel
          cases gk with
          | zero => exact absurd HA.out (by simp [medlarref09_Hang.l1])
          | succ k2 =>
           have H := HA.out
           clear HA
           simp only [medlarref09_Hang.l1] at H
           by_cases c14 : x29_2 < 2
           ·rw [if_pos c14] at H
            have c14b0 := decide_eq_true c14
            clear c14
            replace H := bind_eq_some_iff.mp H
            obtain ⟨t361, A150, H⟩ := H
            replace H : (if t361 = true then ((medlarref02_In.f k2 t357 (IntKind.u64.wrap ((IntKind.u64.wrap (2 * (rd t357 x25_1))) + x29_2))).bind fun t362 => (if t362 = true then (medlarref09_Hang.l1 k2 a0 t357 x7_2 (rd t357 x25_1) t357 (t357.length : Int) x25_1 (IntKind.u64.wrap (x29_2 + 1))) else (if x7_2.length < 17592186044416 then (medlarref09_Hang.l1 k2 a0 t357 (x7_2 ++ [IntKind.u64.wrap ((IntKind.u64.wrap (2 * (rd t357 x25_1))) + x29_2)]) (rd t357 x25_1) t357 (t357.length : Int) x25_1 (IntKind.u64.wrap (x29_2 + 1))) else (none)))) else (medlarref09_Hang.l1 k2 a0 t357 x7_2 (rd t357 x25_1) t357 (t357.length : Int) x25_1 (IntKind.u64.wrap (x29_2 + 1)))) = some (r1, r2) := H
            have A15 := ak_ A150
            clear A150
            by_cases c16 : t361 = true
            ·subst c16
             have H1 : ((medlarref02_In.f k2 t357 (IntKind.u64.wrap ((IntKind.u64.wrap (2 * (rd t357 x25_1))) + x29_2))).bind fun t362 => (if t362 = true then (medlarref09_Hang.l1 k2 a0 t357 x7_2 (rd t357 x25_1) t357 (t357.length : Int) x25_1 (IntKind.u64.wrap (x29_2 + 1))) else (if x7_2.length < 17592186044416 then (medlarref09_Hang.l1 k2 a0 t357 (x7_2 ++ [IntKind.u64.wrap ((IntKind.u64.wrap (2 * (rd t357 x25_1))) + x29_2)]) (rd t357 x25_1) t357 (t357.length : Int) x25_1 (IntKind.u64.wrap (x29_2 + 1))) else (none)))) = some (r1, r2) := by rw [if_pos rfl] at H; exact H
             clear H
             have H := H1
             clear H1
             replace H := bind_eq_some_iff.mp H
             obtain ⟨t362, A170, H⟩ := H
             replace H : (if t362 = true then (medlarref09_Hang.l1 k2 a0 t357 x7_2 (rd t357 x25_1) t357 (t357.length : Int) x25_1 (IntKind.u64.wrap (x29_2 + 1))) else (if x7_2.length < 17592186044416 then (medlarref09_Hang.l1 k2 a0 t357 (x7_2 ++ [IntKind.u64.wrap ((IntKind.u64.wrap (2 * (rd t357 x25_1))) + x29_2)]) (rd t357 x25_1) t357 (t357.length : Int) x25_1 (IntKind.u64.wrap (x29_2 + 1))) else (none))) = some (r1, r2) := H
             have A17 := ak_ A170
             clear A170
             by_cases c18 : t362 = true
             ·subst c18
              have H1 : (medlarref09_Hang.l1 k2 a0 t357 x7_2 (rd t357 x25_1) t357 (t357.length : Int) x25_1 (IntKind.u64.wrap (x29_2 + 1))) = some (r1, r2) := by rw [if_pos rfl] at H; exact H
              clear H
              have H := H1
              clear H1
              have H' := ak_ H
              clear H
              go_wp2_with (first | ((with_reducible refine gate_callee (f := 50) rfl ?_); refine goesL_ (some 38) rfl rfl func50 (by kernel_rfl) rfl #[.int .i64 a0, .int .u64 (IntKind.u64.wrap ((IntKind.u64.wrap (2 * (rd t357 x25_1))) + x29_2))] rfl (by (try simp only [map_toArray, map_cons, map_nil]); first | done | rfl) ?_; (with_reducible refine (medlarref01_May.calls k2 a0 (IntKind.u64.wrap ((IntKind.u64.wrap (2 * (rd t357 x25_1))) + x29_2)) true _ A15.out).mono ?_); rintro e w' ⟨rfl, ⟨nd, rfl⟩⟩; refine ⟨_, rfl, ?_⟩) | (go_at_call 80; (with_reducible refine (medlarref02_In.calls k2 _ _ t357 (IntKind.u64.wrap ((IntKind.u64.wrap (2 * (rd t357 x25_1))) + x29_2)) true _ ?side1 ?side2 A17.out).mono ?_); (case side1 => repeat (first | exact (Kd.R_reads' HO_6.out).2.2 | (with_reducible refine Kd.C_alloc ?_ _) | (with_reducible refine Kd.C_drewN ?_ _) | (with_reducible refine Kd.C_drew ?_))); (case side2 => exact (Kd.R_reads' HO_6.out).2.1); rintro e w' ⟨rfl, ⟨nd, rfl⟩⟩))
              go_roundg k2
              case measure => have := HK1.out; have := HK2.out; omega
              case rel => exact ⟨(x7_2), (IntKind.u64.wrap (x29_2 + 1)), (by first | rfl | (simp; done) | (simp [*]; done)), H', ⟨by have := HK1.out; have := HK2.out; omega⟩, ⟨rl_ HO_6⟩, ⟨rl_ HO_7⟩, ⟨rl_ HO_23⟩, ⟨bl_ HB⟩⟩
             ·replace c18 := Bool.eq_false_iff.mpr c18
              subst c18
              have H1 : (if x7_2.length < 17592186044416 then (medlarref09_Hang.l1 k2 a0 t357 (x7_2 ++ [IntKind.u64.wrap ((IntKind.u64.wrap (2 * (rd t357 x25_1))) + x29_2)]) (rd t357 x25_1) t357 (t357.length : Int) x25_1 (IntKind.u64.wrap (x29_2 + 1))) else (none)) = some (r1, r2) := by rw [if_neg (show ¬ (false = true) by decide)] at H; exact H
              clear H
              have H := H1
              clear H1
              by_cases c19 : x7_2.length < 17592186044416
              ·rw [if_pos c19] at H
               have LMc19 := ak_ c19
               clear c19
               obtain ⟨y363, hy363⟩ : ∃ y_ : List Int, y_ = (x7_2 ++ [IntKind.u64.wrap ((IntKind.u64.wrap (2 * (rd t357 x25_1))) + x29_2)]) := ⟨_, rfl⟩
               replace H : (medlarref09_Hang.l1 k2 a0 t357 y363 (rd t357 x25_1) t357 (t357.length : Int) x25_1 (IntKind.u64.wrap (x29_2 + 1))) = some (r1, r2) := by first | (rw [hy363]; with_reducible exact H) | (have H2_ := (Option.bind_some _ _).symm.trans H; rw [hy363]; with_reducible exact H2_) | (have H2_ := (Option.bind_some _ _).symm.trans H; with_reducible exact H2_) | with_reducible exact H | (rw [hy363]; exact H) | exact H
               have Ny363 := ak_ hy363
               clear hy363
               have H' := ak_ H
               clear H
               go_wp2_with (first | ((with_reducible refine gate_callee (f := 50) rfl ?_); refine goesL_ (some 38) rfl rfl func50 (by kernel_rfl) rfl #[.int .i64 a0, .int .u64 (IntKind.u64.wrap ((IntKind.u64.wrap (2 * (rd t357 x25_1))) + x29_2))] rfl (by (try simp only [map_toArray, map_cons, map_nil]); first | done | rfl) ?_; (with_reducible refine (medlarref01_May.calls k2 a0 (IntKind.u64.wrap ((IntKind.u64.wrap (2 * (rd t357 x25_1))) + x29_2)) true _ A15.out).mono ?_); rintro e w' ⟨rfl, ⟨nd, rfl⟩⟩; refine ⟨_, rfl, ?_⟩) | (go_at_call 80; (with_reducible refine (medlarref02_In.calls k2 _ _ t357 (IntKind.u64.wrap ((IntKind.u64.wrap (2 * (rd t357 x25_1))) + x29_2)) false _ ?side1 ?side2 A17.out).mono ?_); (case side1 => repeat (first | exact (Kd.R_reads' HO_6.out).2.2 | (with_reducible refine Kd.C_alloc ?_ _) | (with_reducible refine Kd.C_drewN ?_ _) | (with_reducible refine Kd.C_drew ?_))); (case side2 => exact (Kd.R_reads' HO_6.out).2.1); rintro e w' ⟨rfl, ⟨nd, rfl⟩⟩) | ((with_reducible refine gate_builtin (b := .append) (xs := #[.tmp 45, .tmp 47]) rfl ?_); at_builtin; refine Kd.R_append (Kd.int .u64) (w0 := w) w.heap.size rfl (.tmp 45) (.tmp 47) 22 23 (.int .u64 0) 8 rfl underlying22 info23 rfl (by decide) (by omega) u7 x7_2 (IntKind.u64.wrap ((IntKind.u64.wrap (2 * (rd t357 x25_1))) + x29_2)) [.int .u64 (IntKind.u64.wrap ((IntKind.u64.wrap (2 * (rd t357 x25_1))) + x29_2))] (fun k_ => some k_ ≠ (.slice (some ad360) t357.length co10 : Value).ownBlock ∧ some k_ ≠ (.slice (some ad360) t357.length co10 : Value).ownBlock) (fun _ => False) rfl rfl ?aP (fun _ hk => hk.elim) ?aF ?aO ?aB ?aS ?aL ?_; (case aP => exact rfl); (case aB => exact (bl_ HB)); (case aF => exact (fun k_ hk => ⟨Kd.fresh' (Kd.R_lt (rl_ HO_6)) k_ hk, Kd.fresh' (Kd.R_lt (rl_ HO_23)) k_ hk⟩)); (case aO => exact (rl_ HO_7)); (case aS => exact (bz_ (bl_ HB))); (case aL => have := LMc19.out; omega); intro v364 w20 ho hb hg hat; rw [← Ny363.out] at ho; have n0_ := ak_ (Kd.R_after (ok := (fun _ => True)) (by (with_reducible repeat (first | apply Kd.R_alloc | apply Kd.R_drewN | apply Kd.R_drew)); exact Kd.R_mono HO_6.out (fun _ hk => ⟨trivial, hk⟩)) hg hat); have n1_ := ak_ (Kd.R_after (ok := (fun _ => True)) (by (with_reducible repeat (first | apply Kd.R_alloc | apply Kd.R_drewN | apply Kd.R_drew)); exact Kd.R_mono HO_23.out (fun _ hk => ⟨trivial, hk⟩)) hg hat); have n2_ := ak_ (hb); have n3_ := ak_ (ho); clear HO_6; clear HO_23; clear HB; clear HO_7; have HO_6 := n0_; have HO_23 := n1_; have HB := n2_; have HO365 := n3_; clear n0_ n1_ n2_ n3_; clear ho hb hg hat))
               go_roundg k2
               case measure => have := HK1.out; have := HK2.out; omega
               case rel => exact ⟨(y363), (IntKind.u64.wrap (x29_2 + 1)), (by first | rfl | (simp; done) | (simp [*]; done)), H', ⟨by have := HK1.out; have := HK2.out; omega⟩, ⟨by (with_reducible repeat (first | apply Kd.R_alloc | apply Kd.R_drewN | apply Kd.R_drew)); exact Kd.R_mono HO_6.out (fun _ hk => hk.2)⟩, ⟨rl_ HO365⟩, ⟨by (with_reducible repeat (first | apply Kd.R_alloc | apply Kd.R_drewN | apply Kd.R_drew)); exact Kd.R_mono HO_23.out (fun _ hk => hk.2)⟩, ⟨bl_ HB⟩⟩
              ·rw [if_neg c19] at H
               exact absurd H (by simp)
            ·replace c16 := Bool.eq_false_iff.mpr c16
             subst c16
             have H1 : (medlarref09_Hang.l1 k2 a0 t357 x7_2 (rd t357 x25_1) t357 (t357.length : Int) x25_1 (IntKind.u64.wrap (x29_2 + 1))) = some (r1, r2) := by rw [if_neg (show ¬ (false = true) by decide)] at H; exact H
             clear H
             have H := H1
             clear H1
             have H' := ak_ H
             clear H
             go_wp2_with (first | ((with_reducible refine gate_callee (f := 50) rfl ?_); refine goesL_ (some 38) rfl rfl func50 (by kernel_rfl) rfl #[.int .i64 a0, .int .u64 (IntKind.u64.wrap ((IntKind.u64.wrap (2 * (rd t357 x25_1))) + x29_2))] rfl (by (try simp only [map_toArray, map_cons, map_nil]); first | done | rfl) ?_; (with_reducible refine (medlarref01_May.calls k2 a0 (IntKind.u64.wrap ((IntKind.u64.wrap (2 * (rd t357 x25_1))) + x29_2)) false _ A15.out).mono ?_); rintro e w' ⟨rfl, ⟨nd, rfl⟩⟩; refine ⟨_, rfl, ?_⟩))
             go_roundg k2
             case measure => have := HK1.out; have := HK2.out; omega
             case rel => exact ⟨(x7_2), (IntKind.u64.wrap (x29_2 + 1)), (by first | rfl | (simp; done) | (simp [*]; done)), H', ⟨by have := HK1.out; have := HK2.out; omega⟩, ⟨rl_ HO_6⟩, ⟨rl_ HO_7⟩, ⟨rl_ HO_23⟩, ⟨bl_ HB⟩⟩
           ·rw [if_neg c14] at H
            have c14b0 := decide_eq_false c14
            clear c14
            have H' := ak_ H
            clear H
            go_wp2
            go_roundg k2
            case measure => have := HK1.out; have := HK2.out; omega
            case rel => exact ⟨(x7_2), (wrap64 (x25_1 + 1)), (by first | rfl | (simp; done) | (simp [*]; done)), H', ⟨by have := HK1.out; have := HK2.out; omega⟩, ⟨rl_ HO_6⟩, ⟨rl_ HO_7⟩, ⟨rl_ HO_23⟩, ⟨bl_ HB⟩⟩
        ·rw [if_neg c13] at H
         exact absurd H (by simp)
       ·rw [if_neg c12] at H
        exact absurd H (by simp)
      ·rw [if_neg c11] at H
       have c11b0 := decide_eq_false c11
       clear c11
       simp only [some.injEq, Prod.mk.injEq] at H
       obtain ⟨rfl, rfl⟩ := H
       go_wp2
       go_ret2
       exact ⟨_, by first | rfl | (simp <;> rfl) | (simp [*] <;> rfl), by (with_reducible repeat (first | apply Kd.R_alloc | apply Kd.R_drewN | apply Kd.R_drew)); exact Kd.R_mono HO_7.out (fun _ hk => trivial), bl_ HB⟩
  ·replace c4 := Bool.eq_false_iff.mpr c4
   subst c4
   have H1 : (some (([] : List Int), 1)) = some (r1, r2) := by rw [if_neg (show ¬ (false = true) by decide)] at H; exact H
   clear H
   have H := H1
   clear H1
   simp only [some.injEq, Prod.mk.injEq] at H
   obtain ⟨rfl, rfl⟩ := H
   go_enter func51, ntmps51
   go_wp2_with (first | ((with_reducible refine gate_callee (f := 78) rfl ?_); refine goesL_ (some 14) rfl rfl func78 (by kernel_rfl) rfl #[.int .i64 a0, .slice A1 l1.length c1, .int .u64 1] rfl (by (try simp only [map_toArray, map_cons, map_nil]); first | done | rfl) ?_; (with_reducible refine (medlarref09_may.calls k a0 _ _ l1 1 false _ ?side1 ?side2 A3.out).mono ?_); (case side1 => repeat (first | exact HR1.out | (with_reducible refine Kd.C_alloc ?_ _) | (with_reducible refine Kd.C_drewN ?_ _) | (with_reducible refine Kd.C_drew ?_))); (case side2 => exact HC1.out); rintro e w' ⟨rfl, ⟨nd, rfl⟩⟩; refine ⟨_, rfl, ?_⟩))
   go_ret2
   exact ⟨_, by first | rfl | (simp <;> rfl) | (simp [*] <;> rfl), by first | exact Kd.R_nil _ _ _ _ _ | exact Kd.N_nil _ _ _ _ _ | exact Kd.V_nil _ _ _ _ _ | exact Kd.Q_nil _ _ _ _ _ | exact Kd.S_nil _ _ _ _ _, bl_ HB⟩
def medlarref10_Cover.l0 : Nat → List (S25) → List Int → Int → Int → Option ((List (S25)) × Int)
  | 0, _, _, _, _ => none
  | k + 1, x8, x20, x21, x22 => if x22 < x21 then (if 0 ≤ x22 then (if x22 < (x20.length : Int) then (if x8.length < 8796093022208 then (medlarref10_Cover.l0 k (x8 ++ [(⟨rd x20 x22, 0⟩ : S25)]) x20 x21 (wrap64 (x22 + 1))) else (none)) else (none)) else (none)) else (some (x8, 0))
def medlarref10_Cover.f (k : Nat) (a0 : Int) (l1 : List Int) : Option ((List (S25)) × Int) := (medlarref09_Hang.f k a0 l1).bind fun bt366 => (if bt366.2 = 0 then (medlarref10_Cover.l0 k ([] : List (S25)) bt366.1 (bt366.1.length : Int) 0) else (some (([] : List (S25)), bt366.2)))
set_option maxHeartbeats 8000000 in
set_option maxRecDepth 100000 in
theorem medlarref10_Cover.calls (k : Nat) (a0 : Int) (A1 : Option Addr) (c1 : Nat) (l1 : List Int) (r1 : List (S25)) (r2 : Int) (w : World) (hr1 : Kd.C (Kd.int .u64) w A1 l1.length l1) (hc1 : l1.length ≤ c1) (h : medlarref10_Cover.f k a0 l1 = some (r1, r2)) :
   Calls Tryz.prog 20 #[.int .i64 a0, .slice A1 l1.length c1] w fun e w' => ∃ v0_ : Value, e = .returned (.tuple #[v0_, .int .i64 r2]) ∧ Kd.R k25 25 w' w.heap.size (fun _ => True) v0_ r1 ∧ Below w.heap.size w w' := by
  have hu25 := underlying25
  have HR1 := ak_ hr1
  have HC1 := ak_ hc1
  clear hr1 hc1
  have HB := ak_ (Below.refl w.heap.size w)
  have H : ((medlarref09_Hang.f k a0 l1).bind fun bt366 => (if bt366.2 = 0 then (medlarref10_Cover.l0 k ([] : List (S25)) bt366.1 (bt366.1.length : Int) 0) else (some (([] : List (S25)), bt366.2)))) = some (r1, r2) := h
  clear h
  replace H := bind_eq_some_iff.mp H
  obtain ⟨⟨t366, t367⟩, A30, H⟩ := H
  replace H : (if t367 = 0 then (medlarref10_Cover.l0 k ([] : List (S25)) t366 (t366.length : Int) 0) else (some (([] : List (S25)), t367))) = some (r1, r2) := H
  have A3 := ak_ A30
  clear A30
  by_cases c4 : t367 = 0
  ·rw [if_pos c4] at H
   have c4b0 : (t367 == 0) = true := beq_iff_eq.mpr c4
   have c4b1 : (t367 != 0) = false := bne_eq_false_iff_eq.mpr c4
   clear c4
   have H' := ak_ H
   clear H
   go_enter func20, ntmps20
   go_wp2_with (first | ((with_reducible refine gate_callee (f := 51) rfl ?_); refine goesL_ (some 14) rfl rfl func51 (by kernel_rfl) rfl #[.int .i64 a0, .slice A1 l1.length c1] rfl (by (try simp only [map_toArray, map_cons, map_nil]); first | done | rfl) ?_; (with_reducible refine (medlarref09_Hang.calls k a0 _ _ l1 t366 t367 _ ?side1 ?side2 A3.out).mono ?_); (case side1 => repeat (first | exact HR1.out | (with_reducible refine Kd.C_alloc ?_ _) | (with_reducible refine Kd.C_drewN ?_ _) | (with_reducible refine Kd.C_drew ?_))); (case side2 => exact HC1.out); rintro e w5 ⟨v368, rfl, ho0, hb⟩; refine ⟨_, rfl, ?_⟩; have n0_ := ak_ (Kd.R_lower ho0 (bz_ (bl_ HB))); have n1_ := ak_ (bt_ (bl_ HB) hb); clear HB; have HO369 := n0_; have HB := n1_; clear n0_ n1_; (try clear hb); (try clear hk); (try clear ho0); obtain ⟨Ao6, co6, eo6⟩ := Kd.R_slice HO369.out; subst eo6))
   go_loopg [8, 22] k (fun kq v8 v22 w' => ∃ (x8_1 : List (S25)) (x22_1 : Int), v22 = .int .i64 x22_1 ∧ Aside0 (medlarref10_Cover.l0 kq x8_1 t366 (t366.length : Int) x22_1 = some (r1, r2)) ∧ Aside0 (kq ≤ k) ∧ Aside0 (Kd.R k25 25 w' w.heap.size (fun _ => True) v8 x8_1) ∧ Aside0 (Kd.R (Kd.int .u64) 23 w' w.heap.size (fun _ => True) (.slice Ao6 t366.length co6) t366) ∧ Aside0 (Below w.heap.size w w'))
   case atStart => exact ⟨(([] : List (S25))), (0), (by first | rfl | (simp; done) | (simp [*]; done)), H', ⟨Nat.le_refl _⟩, ⟨by first | exact Kd.R_nil _ _ _ _ _ | exact Kd.N_nil _ _ _ _ _ | exact Kd.V_nil _ _ _ _ _ | exact Kd.Q_nil _ _ _ _ _ | exact Kd.S_nil _ _ _ _ _⟩, ⟨rl_ HO369⟩, ⟨bl_ HB⟩⟩
   case round =>
    clear H'
    try clear c1
    try clear c2
    try clear p2
    try clear c4
    try clear c4b0
    try clear c4b1
    try clear c5
    obtain ⟨x8_1, x22_1, rfl, HA, HK1, HO_8, HO_20, HB⟩ := hrel
    cases gk with
    | zero => exact absurd HA.out (by simp [medlarref10_Cover.l0])
    | succ k1 =>
     have H := HA.out
     clear HA
     simp only [medlarref10_Cover.l0] at H
     by_cases c7 : x22_1 < (t366.length : Int)
     ·rw [if_pos c7] at H
      have c7b0 := decide_eq_true c7
      clear c7
      by_cases c8 : 0 ≤ x22_1
      ·rw [if_pos c8] at H
       have c8b0 := decide_eq_true c8
       clear c8
       by_cases c9 : x22_1 < (t366.length : Int)
       ·rw [if_pos c9] at H
        have c9b0 := decide_eq_true c9
        clear c9
        by_cases c10 : x8_1.length < 8796093022208
        ·rw [if_pos c10] at H
         have LMc10 := ak_ c10
         clear c10
         obtain ⟨y371, hy371⟩ : ∃ y_ : List (S25), y_ = (x8_1 ++ [(⟨rd t366 x22_1, 0⟩ : S25)]) := ⟨_, rfl⟩
         replace H : (medlarref10_Cover.l0 k1 y371 t366 (t366.length : Int) (wrap64 (x22_1 + 1))) = some (r1, r2) := by first | (rw [hy371]; with_reducible exact H) | (have H2_ := (Option.bind_some _ _).symm.trans H; rw [hy371]; with_reducible exact H2_) | (have H2_ := (Option.bind_some _ _).symm.trans H; with_reducible exact H2_) | with_reducible exact H | (rw [hy371]; exact H) | exact H
         have Ny371 := ak_ hy371
         clear hy371
         have H' := ak_ H
         clear H
         have p370 : 0 ≤ (x22_1 : Int) := od_ (by first | (with_reducible assumption) | assumption)
         have q370 : x22_1 < (t366.length : Int) := od_ (by first | (with_reducible assumption) | assumption)
         obtain ⟨ad370, e370, hx370_0⟩ := Kd.at_int (Kd.R_reads' HO_20.out).2.2 x22_1 p370 q370
         cases e370
         replace p370 := eq_true p370
         replace q370 := eq_true q370
         go_wp2_with (first | ((with_reducible refine gate_builtin (b := .append) (xs := #[.tmp 26, .tmp 29]) rfl ?_); at_builtin; refine Kd.R_append k25 (w0 := w) w.heap.size rfl (.tmp 26) (.tmp 29) 27 25 (.agg #[(.int .u64 0), (.int .u64 0)]) 16 rfl underlying27 info25 rfl (by decide) (by omega) u8 x8_1 (⟨rd t366 x22_1, 0⟩ : S25) [.int .u64 (rd t366 x22_1), .int .u64 0] (fun _ => True) (fun _ => False) rfl rfl ?aP (fun _ hk => hk.elim) ?aF ?aO ?aB ?aS ?aL ?_; (case aP => exact k25_mkM _ _ _ (⟨rd t366 x22_1, 0⟩ : S25)); (case aB => exact (bl_ HB)); (case aF => exact (fun _ _ => trivial)); (case aO => exact (rl_ HO_8)); (case aS => exact (bz_ (bl_ HB))); (case aL => have := LMc10.out; omega); intro v372 w11 ho hb hg hat; rw [← Ny371.out] at ho; have n0_ := ak_ (Kd.R_over' (rl_ HO_20) (Kd.R_typed (rl_ HO_8)) (by decide) hg); have n1_ := ak_ (hb); have n2_ := ak_ (ho); clear HO_20; clear HB; clear HO_8; have HO_20 := n0_; have HB := n1_; have HO373 := n2_; clear n0_ n1_ n2_; clear ho hb hg hat))
         go_roundg k1
         case measure => have := HK1.out; omega
         case rel => exact ⟨(y371), (wrap64 (x22_1 + 1)), (by first | rfl | (simp; done) | (simp [*]; done)), H', ⟨by have := HK1.out; omega⟩, ⟨rl_ HO373⟩, ⟨rl_ HO_20⟩, ⟨bl_ HB⟩⟩
        ·rw [if_neg c10] at H
         exact absurd H (by simp)
       ·rw [if_neg c9] at H
        exact absurd H (by simp)
      ·rw [if_neg c8] at H
       exact absurd H (by simp)
     ·rw [if_neg c7] at H
      have c7b0 := decide_eq_false c7
      clear c7
      simp only [some.injEq, Prod.mk.injEq] at H
      obtain ⟨rfl, rfl⟩ := H
      go_wp2
      go_ret2
      exact ⟨_, by first | rfl | (simp <;> rfl) | (simp [*] <;> rfl), by (with_reducible repeat (first | apply Kd.R_alloc | apply Kd.R_drewN | apply Kd.R_drew)); exact HO_8.out, bl_ HB⟩
  ·rw [if_neg c4] at H
   have c4b0 : (t367 == 0) = false := beq_eq_false_iff_ne.mpr c4
   have c4b1 : (t367 != 0) = true := bne_iff_ne.mpr c4
   simp only [some.injEq, Prod.mk.injEq] at H
   obtain ⟨rfl, rfl⟩ := H
   go_enter func20, ntmps20
   go_wp2_with (first | ((with_reducible refine gate_callee (f := 51) rfl ?_); refine goesL_ (some 14) rfl rfl func51 (by kernel_rfl) rfl #[.int .i64 a0, .slice A1 l1.length c1] rfl (by (try simp only [map_toArray, map_cons, map_nil]); first | done | rfl) ?_; (with_reducible refine (medlarref09_Hang.calls k a0 _ _ l1 t366 t367 _ ?side1 ?side2 A3.out).mono ?_); (case side1 => repeat (first | exact HR1.out | (with_reducible refine Kd.C_alloc ?_ _) | (with_reducible refine Kd.C_drewN ?_ _) | (with_reducible refine Kd.C_drew ?_))); (case side2 => exact HC1.out); rintro e w12 ⟨v368, rfl, ho0, hb⟩; refine ⟨_, rfl, ?_⟩; have n0_ := ak_ (Kd.R_lower ho0 (bz_ (bl_ HB))); have n1_ := ak_ (bt_ (bl_ HB) hb); clear HB; have HO369 := n0_; have HB := n1_; clear n0_ n1_; (try clear hb); (try clear hk); (try clear ho0)))
   go_ret2
   exact ⟨_, by first | rfl | (simp <;> rfl) | (simp [*] <;> rfl), by first | exact Kd.R_nil _ _ _ _ _ | exact Kd.N_nil _ _ _ _ _ | exact Kd.V_nil _ _ _ _ _ | exact Kd.Q_nil _ _ _ _ _ | exact Kd.S_nil _ _ _ _ _, bl_ HB⟩
def medlarref08_Less.f (a0_0 : Int) (a0_1 : Int) (a1_0 : Int) (a1_1 : Int) : Option (Bool) := if a0_0 < a1_0 then (some true) else (if a0_0 = a1_0 then (some (decide (a0_1 < a1_1))) else (some false))
set_option maxHeartbeats 8000000 in
set_option maxRecDepth 100000 in
theorem medlarref08_Less.calls (a0_0 : Int) (a0_1 : Int) (a1_0 : Int) (a1_1 : Int) (r : Bool) (w : World) (h : medlarref08_Less.f a0_0 a0_1 a1_0 a1_1 = some r) :
   Calls Tryz.prog 57 #[.agg #[.int .u64 a0_0, .int .u64 a0_1], .agg #[.int .u64 a1_0, .int .u64 a1_1]] w fun e w' => e = .returned (.bool r) ∧ Below w.heap.size w w' := by
  have hu25 := underlying25
  have HB := ak_ (Below.refl w.heap.size w)
  have H : (if a0_0 < a1_0 then (some true) else (if a0_0 = a1_0 then (some (decide (a0_1 < a1_1))) else (some false))) = some r := h
  clear h
  by_cases c3 : a0_0 < a1_0
  ·rw [if_pos c3] at H
   have c3b0 := decide_eq_true c3
   clear c3
   obtain rfl := Option.some.inj H
   go_enter func57, ntmps57
   go_wp2_with (first | ((with_reducible refine gate_dst (N := 2) rfl ?_); refine box_event ?hg (N := 2) ?hd (cs := #[.int .u64 a0_0, .int .u64 a0_1]) (t := 25) ?hr ?_; (case hd => rfl); (case hg => rfl); (case hr => first | (go_simp; done) | (go_simp; rfl)); intro gb374 hg w4 hbox hb; have n0_ := ak_ (bt_ (bl_ HB) hb); have n1_ := ak_ (hbox); have n2_ := ak_ ((gs_ hg HB)); have n3_ := ak_ ((gs_ hg HB)); clear HB; have HB := n0_; have BK374 := n1_; have GW374 := n2_; have GE374 := n3_; clear n0_ n1_ n2_ n3_; clear hb hbox hg) | ((with_reducible refine gate_dst (N := 3) rfl ?_); refine box_event ?hg (N := 3) ?hd (cs := #[.int .u64 a1_0, .int .u64 a1_1]) (t := 25) ?hr ?_; (case hd => rfl); (case hg => rfl); (case hr => first | (go_simp; done) | (go_simp; rfl)); intro gb375 hg w5 hbox hb; have n0_ := ak_ (kb_ (g := gb374) (o := .cells #[.int .u64 a0_0, .int .u64 a0_1] 25 (0, 0)) (kl_ BK374) hb); have n1_ := ak_ (bt_ (by repeat (first | (with_reducible first | exact HB.out | apply ba_ | apply bn_ | apply bd_ | refine below_set ?_ GE374.out) | exact HB.out)) hb); have n2_ := ak_ (hbox); have n3_ := ak_ ((by rw [hg]; exact (bz_ (by repeat (first | (with_reducible first | exact HB.out | apply ba_ | apply bn_ | apply bd_ | refine below_set ?_ GE374.out) | exact HB.out))) : w.heap.size ≤ gb375)); have n4_ := ak_ ((by rw [hg]; exact (bz_ (by repeat (first | (with_reducible first | exact HB.out | apply ba_ | apply bn_ | apply bd_ | refine below_set ?_ GE374.out) | exact HB.out))) : w.heap.size ≤ gb375)); have n5_ := ak_ ((by rw [hg]; exact Nat.ne_of_lt (blk_lt (g := gb374) (o := .cells #[.int .u64 a0_0, .int .u64 a0_1] 25 (0, 0)) (kl_ BK374)) : gb374 ≠ gb375)); have n6_ := ak_ ((by rw [hg]; exact Nat.ne_of_gt (blk_lt (g := gb374) (o := .cells #[.int .u64 a0_0, .int .u64 a0_1] 25 (0, 0)) (kl_ BK374)) : gb375 ≠ gb374)); clear BK374; clear HB; have BK374 := n0_; have HB := n1_; have BK375 := n2_; have GW375 := n3_; have GE375 := n4_; have NB374_375 := n5_; have NB375_374 := n6_; clear n0_ n1_ n2_ n3_ n4_ n5_ n6_; clear hb hbox hg; have hnb6 := NB374_375.out; have hnc6 := NB375_374.out; have hcz7_0 : w5.cell? ⟨gb374, 0, none⟩ = some (.int .u64 a0_0) := (kc_ BK374.out 0).trans rfl; have hcz7_1 : w5.cell? ⟨gb374, 1, none⟩ = some (.int .u64 a0_1) := (kc_ BK374.out 1).trans rfl; have hfz7_0 := kf_ BK374.out 0; have hfz7_1 := kf_ BK374.out 1; have hcz8_0 : w5.cell? ⟨gb375, 0, none⟩ = some (.int .u64 a1_0) := (kc_ BK375.out 0).trans rfl; have hcz8_1 : w5.cell? ⟨gb375, 1, none⟩ = some (.int .u64 a1_1) := (kc_ BK375.out 1).trans rfl; have hfz8_0 := kf_ BK375.out 0; have hfz8_1 := kf_ BK375.out 1))
   go_ret
   exact ⟨by first | rfl | (simp <;> rfl) | (simp [*] <;> rfl), by repeat (first | (with_reducible first | exact HB.out | apply ba_ | apply bn_ | apply bd_ | refine below_set ?_ GE374.out | refine below_set ?_ GE375.out) | exact HB.out)⟩
  ·rw [if_neg c3] at H
   have c3b0 := decide_eq_false c3
   clear c3
   by_cases c9 : a0_0 = a1_0
   ·rw [if_pos c9] at H
    have c9b0 : (a0_0 == a1_0) = true := beq_iff_eq.mpr c9
    have c9b1 : (a0_0 != a1_0) = false := bne_eq_false_iff_eq.mpr c9
    clear c9
    obtain rfl := Option.some.inj H
    go_enter func57, ntmps57
    go_wp2_with (first | ((with_reducible refine gate_dst (N := 2) rfl ?_); refine box_event ?hg (N := 2) ?hd (cs := #[.int .u64 a0_0, .int .u64 a0_1]) (t := 25) ?hr ?_; (case hd => rfl); (case hg => rfl); (case hr => first | (go_simp; done) | (go_simp; rfl)); intro gb374 hg w10 hbox hb; have n0_ := ak_ (bt_ (bl_ HB) hb); have n1_ := ak_ (hbox); have n2_ := ak_ ((gs_ hg HB)); have n3_ := ak_ ((gs_ hg HB)); clear HB; have HB := n0_; have BK374 := n1_; have GW374 := n2_; have GE374 := n3_; clear n0_ n1_ n2_ n3_; clear hb hbox hg) | ((with_reducible refine gate_dst (N := 3) rfl ?_); refine box_event ?hg (N := 3) ?hd (cs := #[.int .u64 a1_0, .int .u64 a1_1]) (t := 25) ?hr ?_; (case hd => rfl); (case hg => rfl); (case hr => first | (go_simp; done) | (go_simp; rfl)); intro gb375 hg w11 hbox hb; have n0_ := ak_ (kb_ (g := gb374) (o := .cells #[.int .u64 a0_0, .int .u64 a0_1] 25 (0, 0)) (kl_ BK374) hb); have n1_ := ak_ (bt_ (by repeat (first | (with_reducible first | exact HB.out | apply ba_ | apply bn_ | apply bd_ | refine below_set ?_ GE374.out) | exact HB.out)) hb); have n2_ := ak_ (hbox); have n3_ := ak_ ((by rw [hg]; exact (bz_ (by repeat (first | (with_reducible first | exact HB.out | apply ba_ | apply bn_ | apply bd_ | refine below_set ?_ GE374.out) | exact HB.out))) : w.heap.size ≤ gb375)); have n4_ := ak_ ((by rw [hg]; exact (bz_ (by repeat (first | (with_reducible first | exact HB.out | apply ba_ | apply bn_ | apply bd_ | refine below_set ?_ GE374.out) | exact HB.out))) : w.heap.size ≤ gb375)); have n5_ := ak_ ((by rw [hg]; exact Nat.ne_of_lt (blk_lt (g := gb374) (o := .cells #[.int .u64 a0_0, .int .u64 a0_1] 25 (0, 0)) (kl_ BK374)) : gb374 ≠ gb375)); have n6_ := ak_ ((by rw [hg]; exact Nat.ne_of_gt (blk_lt (g := gb374) (o := .cells #[.int .u64 a0_0, .int .u64 a0_1] 25 (0, 0)) (kl_ BK374)) : gb375 ≠ gb374)); clear BK374; clear HB; have BK374 := n0_; have HB := n1_; have BK375 := n2_; have GW375 := n3_; have GE375 := n4_; have NB374_375 := n5_; have NB375_374 := n6_; clear n0_ n1_ n2_ n3_ n4_ n5_ n6_; clear hb hbox hg; have hnb12 := NB374_375.out; have hnc12 := NB375_374.out; have hcz13_0 : w11.cell? ⟨gb374, 0, none⟩ = some (.int .u64 a0_0) := (kc_ BK374.out 0).trans rfl; have hcz13_1 : w11.cell? ⟨gb374, 1, none⟩ = some (.int .u64 a0_1) := (kc_ BK374.out 1).trans rfl; have hfz13_0 := kf_ BK374.out 0; have hfz13_1 := kf_ BK374.out 1; have hcz14_0 : w11.cell? ⟨gb375, 0, none⟩ = some (.int .u64 a1_0) := (kc_ BK375.out 0).trans rfl; have hcz14_1 : w11.cell? ⟨gb375, 1, none⟩ = some (.int .u64 a1_1) := (kc_ BK375.out 1).trans rfl; have hfz14_0 := kf_ BK375.out 0; have hfz14_1 := kf_ BK375.out 1))
    go_ret
    exact ⟨by first | rfl | (simp <;> rfl) | (simp [*] <;> rfl), by repeat (first | (with_reducible first | exact HB.out | apply ba_ | apply bn_ | apply bd_ | refine below_set ?_ GE374.out | refine below_set ?_ GE375.out) | exact HB.out)⟩
   ·rw [if_neg c9] at H
    have c9b0 : (a0_0 == a1_0) = false := beq_eq_false_iff_ne.mpr c9
    have c9b1 : (a0_0 != a1_0) = true := bne_iff_ne.mpr c9
    obtain rfl := Option.some.inj H
    go_enter func57, ntmps57
    go_wp2_with (first | ((with_reducible refine gate_dst (N := 2) rfl ?_); refine box_event ?hg (N := 2) ?hd (cs := #[.int .u64 a0_0, .int .u64 a0_1]) (t := 25) ?hr ?_; (case hd => rfl); (case hg => rfl); (case hr => first | (go_simp; done) | (go_simp; rfl)); intro gb374 hg w15 hbox hb; have n0_ := ak_ (bt_ (bl_ HB) hb); have n1_ := ak_ (hbox); have n2_ := ak_ ((gs_ hg HB)); have n3_ := ak_ ((gs_ hg HB)); clear HB; have HB := n0_; have BK374 := n1_; have GW374 := n2_; have GE374 := n3_; clear n0_ n1_ n2_ n3_; clear hb hbox hg) | ((with_reducible refine gate_dst (N := 3) rfl ?_); refine box_event ?hg (N := 3) ?hd (cs := #[.int .u64 a1_0, .int .u64 a1_1]) (t := 25) ?hr ?_; (case hd => rfl); (case hg => rfl); (case hr => first | (go_simp; done) | (go_simp; rfl)); intro gb375 hg w16 hbox hb; have n0_ := ak_ (kb_ (g := gb374) (o := .cells #[.int .u64 a0_0, .int .u64 a0_1] 25 (0, 0)) (kl_ BK374) hb); have n1_ := ak_ (bt_ (by repeat (first | (with_reducible first | exact HB.out | apply ba_ | apply bn_ | apply bd_ | refine below_set ?_ GE374.out) | exact HB.out)) hb); have n2_ := ak_ (hbox); have n3_ := ak_ ((by rw [hg]; exact (bz_ (by repeat (first | (with_reducible first | exact HB.out | apply ba_ | apply bn_ | apply bd_ | refine below_set ?_ GE374.out) | exact HB.out))) : w.heap.size ≤ gb375)); have n4_ := ak_ ((by rw [hg]; exact (bz_ (by repeat (first | (with_reducible first | exact HB.out | apply ba_ | apply bn_ | apply bd_ | refine below_set ?_ GE374.out) | exact HB.out))) : w.heap.size ≤ gb375)); have n5_ := ak_ ((by rw [hg]; exact Nat.ne_of_lt (blk_lt (g := gb374) (o := .cells #[.int .u64 a0_0, .int .u64 a0_1] 25 (0, 0)) (kl_ BK374)) : gb374 ≠ gb375)); have n6_ := ak_ ((by rw [hg]; exact Nat.ne_of_gt (blk_lt (g := gb374) (o := .cells #[.int .u64 a0_0, .int .u64 a0_1] 25 (0, 0)) (kl_ BK374)) : gb375 ≠ gb374)); clear BK374; clear HB; have BK374 := n0_; have HB := n1_; have BK375 := n2_; have GW375 := n3_; have GE375 := n4_; have NB374_375 := n5_; have NB375_374 := n6_; clear n0_ n1_ n2_ n3_ n4_ n5_ n6_; clear hb hbox hg; have hnb17 := NB374_375.out; have hnc17 := NB375_374.out; have hcz18_0 : w16.cell? ⟨gb374, 0, none⟩ = some (.int .u64 a0_0) := (kc_ BK374.out 0).trans rfl; have hcz18_1 : w16.cell? ⟨gb374, 1, none⟩ = some (.int .u64 a0_1) := (kc_ BK374.out 1).trans rfl; have hfz18_0 := kf_ BK374.out 0; have hfz18_1 := kf_ BK374.out 1; have hcz19_0 : w16.cell? ⟨gb375, 0, none⟩ = some (.int .u64 a1_0) := (kc_ BK375.out 0).trans rfl; have hcz19_1 : w16.cell? ⟨gb375, 1, none⟩ = some (.int .u64 a1_1) := (kc_ BK375.out 1).trans rfl; have hfz19_0 := kf_ BK375.out 0; have hfz19_1 := kf_ BK375.out 1))
    go_ret
    exact ⟨by first | rfl | (simp <;> rfl) | (simp [*] <;> rfl), by repeat (first | (with_reducible first | exact HB.out | apply ba_ | apply bn_ | apply bd_ | refine below_set ?_ GE374.out | refine below_set ?_ GE375.out) | exact HB.out)⟩
end Go.Proofs.YtmffkfakcbopcaaGreat.MP
