-- written by a program of this session (wip/tools/mprint.sh) for this seat
import Derived.Test.YtoljdfgkkkpnbaaMPx0
import Derived.Test.YtoljdfgkkkpnbaaMPx3
import Derived.Test.YtoljdfgkkkpnbaaMPx5
import Derived.RangeFuncNested
import Derived.RangeFuncBound
import Derived.RangeFuncCalls
import Derived.RangeFuncLeaves
import Derived.Shelf.Abstract
import Derived.OwnWalkIn
import Derived.TacticsInMore
import Derived.LoopNIn
import Derived.LoopIn
import Derived.Maps.AppendAt
import Derived.RegionIn
import Derived.Sort.CutIn
namespace Go.Proofs.Ytoljdfgkkkpnbaa.MP
open Go.RowKit Go.Proofs.YtoljdfgkkkpnbaaW.PrintWords Go.Proofs.YtoljdfgkkkpnbaaW.PrintLast Go.Proofs.YtoljdfgkkkpnbaaW.PrintMore
attribute [local go_sem] max2_int min2_int max_two min_two max_three min_three max_four min_four   -- for this text's walks alone
set_option linter.unusedVariables false
set_option linter.unusedSimpArgs false

/-! ### bytes_Equal: function 55 -/
def bytes_Equal.f (l0 : List Int) (l1 : List Int) : Option (Bool) := some ((strOfNums l0).toList == (strOfNums l1).toList)
set_option maxHeartbeats 8000000 in
set_option maxRecDepth 100000 in
theorem bytes_Equal.calls (A0 : Option Addr) (c0 : Nat) (l0 : List Int) (A1 : Option Addr) (c1 : Nat) (l1 : List Int) (r : Bool) (w : World) (hr0 : Kd.C (Kd.int .u8) w A0 l0.length l0) (hc0 : l0.length ≤ c0) (hr1 : Kd.C (Kd.int .u8) w A1 l1.length l1) (hc1 : l1.length ≤ c1) (h : bytes_Equal.f l0 l1 = some r) :
    Calls Try.prog 55 #[.slice A0 l0.length c0, .slice A1 l1.length c1] w fun e w' => e = .returned (.bool r) ∧ Drawn0 w w' := by
  have HR0 := Aside0.mk hr0
  have HC0 := Aside0.mk hc0
  clear hr0 hc0
  have HR1 := Aside0.mk hr1
  have HC1 := Aside0.mk hc1
  clear hr1 hc1
  have H : (some ((strOfNums l0).toList == (strOfNums l1).toList)) = some r := h
  clear h
  obtain rfl := Option.some.inj H
  have hcv3 := Kd.C_string (P := Try.prog) (A := A0) (c := c0) Try.underlying35 Try.underlying5 Try.underlying9 HR0.out
  have hcv4 := Kd.C_string (P := Try.prog) (A := A1) (c := c1) Try.underlying35 Try.underlying5 Try.underlying9 HR1.out
  go_enter Try.func55, Try.ntmps55
  go_wp2
  go_ret
  exact ⟨by first | rfl | (simp; done) | (simp [*]; done), by repeat (first | exact Drawn0.refl _ | apply Drawn0.step)⟩

/-! ### image_Leaves: function 30 -/
section
open Go.Shelf
attribute [local go_sem] Oper.semAt_some
theorem sl_Chunk.calls (A : Option Addr) (n c : Nat) (w : World) : Calls Try.prog 69 #[.slice A n c, .int .i64 8] w fun e w' => e = .returned (.func (.func 110) #[] #[.pointer (some ⟨w.heap.size, 0, none⟩), .pointer (some ⟨w.heap.size + 1, 0, none⟩)]) ∧ w' = (w.alloc (.cells #[.slice A n c] 35)).alloc (.cells #[.int .i64 8] 3) := by
  have hmf : ∀ (fn : Fn) (first cap : Array Value) (w : World), (Instr.makeFunc fn first cap).run Try.prog w = .ok (.func fn first cap) w := fun _ _ _ _ => rfl
  have hb := blk_new (w.alloc (.cells #[.slice A n c] 35)) (.cells #[.int .i64 8] 3)
  have hz : (w.alloc (.cells #[.slice A n c] 35)).heap.size = w.heap.size + 1 := by simp
  rw [hz] at hb
  have y0 := (blk_cell hb 0).trans rfl
  go_enter Try.func69, Try.ntmps69
  go_wp2
  go_ret
  exact ⟨by simp, rfl⟩
/-- What stays: the elder blocks, and the two cells of the iterator. -/
def KpC (B b1 b2 : Nat) (X Y : World) : Prop := Below B X Y ∧ ∀ b, (b = b1 ∨ b = b2) → ∀ o, X.heap[b]? = some o → o.isCells = true → Y.heap[b]? = some o
theorem KpC.trans {B b1 b2 : Nat} {X Y Z : World} (h : KpC B b1 b2 X Y) (k : KpC B b1 b2 Y Z) : KpC B b1 b2 X Z := ⟨h.1.trans k.1, fun b hb o ho hc => k.2 b hb o (h.2 b hb o ho hc) hc⟩
theorem KpC.refl (B b1 b2 : Nat) (X : World) : KpC B b1 b2 X X := ⟨Below.refl _ _, fun _ _ _ h _ => h⟩
theorem KpC.of_below {B b1 b2 : Nat} {X Y : World} (hB : B ≤ X.heap.size) (h : Below X.heap.size X Y) : KpC B b1 b2 X Y := ⟨h.mono hB, fun b _ o ho _ => blk_below ho h⟩
set_option maxRecDepth 100000 in
set_option maxHeartbeats 4000000 in
theorem sl_chunk1_in (n : Nat) (hn : 1 ≤ n) (l Bs Bn : Nat) (ad : Addr) (m c : Nat) (hm : 8 * m ≤ 1000000) (hc : 8 * m ≤ c) (B : Nat) (J Jx : List (Fin m) → World → Prop)
    (W : World) (hJa : AbidesFrom W.heap.size J)
    (hY : ∀ pre x W, J pre W → pre.length < m → YieldAt Fence.wide (n - 1) Try.prog l #[.slice (some (ad.add (8 * x.val))) 8 8] W fun e W' =>
      (e = .returned (.bool true) ∧ J (pre ++ [x]) W' ∧ KpC B Bs Bn W W') ∨ (e = .returned (.bool false) ∧ Jx (pre ++ [x]) W'))
    (hB : B ≤ W.heap.size) (hBs : W.heap[Bs]? = some (.cells #[.slice (some ad) (8 * m) c] 35 (0, 0))) (hBn : W.heap[Bn]? = some (.cells #[.int .i64 8] 3 (0, 0))) (h0 : J [] W) :
    CallsIn Fence.wide n Try.prog 110 #[.func (.yield l) #[] #[], .pointer (some ⟨Bs, 0, none⟩), .pointer (some ⟨Bn, 0, none⟩)] W fun e W' => (∃ v, e = .returned v) ∧ ((∃ ys, ys.map Fin.val = List.range m ∧ J ys W') ∨ (∃ pre, True ∧ Jx pre W')) := by
  refine callsIn_of_wp Try.func110 rfl trivial ?_ rfl
  simp only [Try.ntmps110, List.size_toArray, List.length_cons, List.length_nil, Nat.reduceAdd, Nat.reduceSub, Array.replicate_succ, Array.replicate_zero, List.push_toArray, List.append_toArray, List.nil_append, List.cons_append]
  gi_wp2
  gi_loopw [4] (fun i wr => ∃ (k : Nat), k ≤ m ∧ i = .int .i64 (8 * k : Nat) ∧ (∃ pre : List (Fin m), pre.map Fin.val = List.range k ∧ J pre wr) ∧ KpC B Bs Bn W wr)
    (fun i _ => 8 * m - (intOf i).toNat)
  case atStart => exact ⟨0, Nat.zero_le _, rfl, ⟨[], rfl, h0⟩, KpC.refl _ _ _ _⟩
  case round =>
    obtain ⟨k, hk, rfl, ⟨pre, hpre, hJ⟩, hBr⟩ := hrel
    have b1 := hBr.2 Bs (.inl rfl) _ hBs rfl
    have b2 := hBr.2 Bn (.inr rfl) _ hBn rfl
    have y1 : wr.cell? ⟨Bs, 0, none⟩ = some (.slice (some ad) (8 * m) c) := (blk_cell b1 0).trans rfl
    have y2 : wr.cell? ⟨Bn, 0, none⟩ = some (.int .i64 8) := (blk_cell b2 0).trans rfl
    have HBr := Aside0.mk hBr
    by_cases hlt : k < m
    · have hkd : decide (((8 * k : Nat) : Int) < ((8 * m : Nat) : Int)) = true := decide_eq_true (by omega)
      gi_wp2
      gi_region
      have hJ2 : J pre wr.drew := hJa _ _ _ none hJ ⟨rfl, rfl, rfl, Nat.le_refl _, fun _ _ _ => rfl⟩ (fun r e => by cases e)
      obtain ⟨fn, tmps, assign, body, hy, hRn⟩ := hY pre ⟨k, hlt⟩ _ hJ2 (by have := congrArg List.length hpre; simp only [List.length_map, List.length_range] at this; omega)
      (try dsimp only at hy)
      obtain ⟨q, hq⟩ : ∃ q, q = 8 * k := ⟨_, rfl⟩
      have e1 : q + 8 ≤ c := by omega
      have e2 : q ≤ 1000000 := by omega
      rw [← hq] at hy hkd ⊢
      have HQ := Aside0.mk hq
      clear hq
      gi_wp2
      refine hRn.mono ?_
      rintro e W3 (⟨rfl, hJ3, hk3⟩ | ⟨rfl, hJx3⟩)
      · have c1 := hk3.2 Bn (.inr rfl) _ b2 rfl
        have c1c : W3.cell? ⟨Bn, 0, none⟩ = some (.int .i64 8) := (blk_cell c1 0).trans rfl
        clear c1
        gi_wp2
        go_roundw
        case rel => exact ⟨k + 1, by omega, by have := HQ.out; simp only [Value.int.injEq, true_and]; omega, ⟨_, by rw [List.map_append, hpre, List.range_succ]; rfl, hJ3⟩, HBr.out.trans ((KpC.of_below (Y := wr.drew) (Nat.le_trans hB HBr.out.1.size) (below_drew1 (Below.refl _ _))).trans hk3)⟩
        case measure => have := HQ.out; simp [intOf]; omega
      · gi_wp2
        refine bodyPost_ret (results_none rfl _ _ _) rfl ?_
        exact ⟨⟨_, rfl⟩, .inr ⟨_, trivial, hJx3⟩⟩
    · obtain rfl : k = m := by omega
      have hkd : decide (((8 * k : Nat) : Int) < ((8 * k : Nat) : Int)) = false := decide_eq_false (by omega)
      gi_wp2
      go_end0
      exact ⟨⟨_, rfl⟩, .inl ⟨_, hpre, hJ⟩⟩
end
section
open Go.Shelf
attribute [local go_sem] Oper.semAt_some
def chunk8 (b : List Int) (x : Nat) : List Int := (b.drop (7 + 8 * x)).take 8
def lv_step (num : Nat → Int) (s : List Int × Int) (x : Nat) : List Int × Int := (s.1 ++ [IntKind.u64.wrap (s.2 + num x)], IntKind.u64.wrap (IntKind.u64.wrap (s.2 + num x) + 1))
def lv (num : Nat → Int) (xs : List Nat) : List Int × Int := xs.foldl (lv_step num) ([], 0)
def image_Leaves.f (k : Nat) (l0 : List Int) : Option (Int × List Int × Int) :=
  if (l0.length : Int) > 65536 then some (0, [], 3) else
  if l0.length < 7 ∨ (l0.length - 7) % 8 ≠ 0 then some (0, [], 2) else
  if ((List.range ((l0.length - 7) / 8)).all fun x => (image_number.f k (chunk8 l0 x)).isSome) = true then
    (image_Set.f k (wrap64 (rd l0 2)) (lv (fun x => (image_number.f k (chunk8 l0 x)).getD 0) (List.range ((l0.length - 7) / 8))).1).bind fun q =>
      if q.2 = 0 then (if bytes_Equal.f q.1 l0 = some true then some (wrap64 (rd l0 2), (lv (fun x => (image_number.f k (chunk8 l0 x)).getD 0) (List.range ((l0.length - 7) / 8))).1, 0) else some (0, [], 2)) else some (0, [], 2)
  else none
theorem lv_snoc (num : Nat → Int) (xs : List Nat) (x : Nat) : lv num (xs ++ [x]) = lv_step num (lv num xs) x := by simp [lv]
theorem lv_len (num : Nat → Int) (xs : List Nat) : (lv num xs).1.length = xs.length := by
  have : ∀ (l : List Nat) (s : List Int × Int), (l.foldl (lv_step num) s).1.length = s.1.length + l.length := by
    intro l
    induction l with
    | nil => intro s; simp
    | cons x l ih => intro s; rw [List.foldl_cons, ih]; simp [lv_step]; omega
  rw [lv, this]; simp
theorem results_tct {fn : Func} {P : Program} {p u v : Tmp} {ty : TypeId} (h : fn.results = #[.tmp u, .cell p ty, .tmp v]) (tmps : Array Value) (w : World) (g : Nat) (x : Value)
    (hp : tmps.getD p undef = .pointer (some ⟨g, 0, none⟩)) (hl : (loadVar ty ⟨g, 0, none⟩).run P w = .ok x w) : (results fn tmps).run P w = .ok (.tuple #[tmps.getD u undef, x, tmps.getD v undef]) w := by
  have hp' : tmps[p]?.getD undef = .pointer (some ⟨g, 0, none⟩) := by simpa using hp
  simp [results, h, hp', asAddr, hl]
theorem load22 (w : World) (a : Addr) (x : Value) (h : w.cell? a = some x) : (loadVar 53 a).run Try.prog w = .ok x w := by
  have hu := Try.underlying53
  simp [loadVar, hu, h]
theorem chunk_C {W : World} {b : List Int} {ad : Addr} {x : Nat} (hC : Kd.C (Kd.int .u8) W (some ad) b.length b) (h : 7 + 8 * (x + 1) ≤ b.length) :
    Kd.C (Kd.int .u8) W (some ((⟨ad.block, ad.off + 7, none⟩ : Addr).add (8 * x))) (chunk8 b x).length (chunk8 b x) := by
  obtain ⟨_, h2, h3⟩ := hC
  have hl : (chunk8 b x).length = 8 := by simp [chunk8]; omega
  refine ⟨rfl, by omega, fun _ => ⟨_, rfl, fun j p hj => ?_⟩⟩
  obtain ⟨ad1, e, h4⟩ := h3 (by omega)
  cases e
  have hj8 : j < 8 := by
    have := (List.getElem?_eq_some_iff.1 hj).1; omega
  have hb : b[7 + 8 * x + j]? = some p := by
    have := hj
    unfold chunk8 at this
    rw [List.getElem?_take, if_pos hj8, List.getElem?_drop] at this
    exact this
  obtain ⟨c, e1, e2, e3⟩ := h4 _ p hb
  refine ⟨c, e1, e2, fun i u hu => ?_⟩
  have := e3 i u hu
  have e : ((⟨ad.block, ad.off + 7, none⟩ : Addr).add (8 * x)).add (j * (Kd.int .u8).sz + i) = ad.add ((7 + 8 * x + j) * (Kd.int .u8).sz + i) := by
    rw [Addr.add_add, show (Kd.int .u8).sz = 1 from rfl]
    unfold Addr.add
    rw [if_neg (show ¬ (7 + 8 * x + j) * 1 + i = 0 by omega)]
    split
    · rename_i z; simp only [Addr.mk.injEq, true_and, and_true]; omega
    · simp only [Addr.mk.injEq, true_and, and_true]; omega
  rw [e]; exact this
/-- What the rounds keep: the sum's boxes, and the iterator's. -/
def JL (w : World) (num : Nat → Int) (m Bs Bc : Nat) (vs vc : Value) (pre : List (Fin m)) (W : World) : Prop :=
  ((∃ v, Boxed W w.heap.size 53 v ∧ W.ownsRow w.heap.size 23 1 v pre.length ((lv num (pre.map Fin.val)).1.map (Value.int .u64)) ∧ some (w.heap.size + 1) ≠ v.ownBlock) ∧ Boxed W (w.heap.size + 1) 23 (.int .u64 (lv num (pre.map Fin.val)).2) ∧ Boxed W Bs 35 vs ∧ Boxed W Bc 3 vc) ∧ Below w.heap.size w W
theorem jl_own (w : World) (num : Nat → Int) (m Bs Bc : Nat) (vs vc : Value) (B0 : Nat) (h : w.heap.size ≤ B0) : OwnFrom B0 (JL w num m Bs Bc vs vc) :=
  OwnFrom.and (OwnFrom.and (Own.from (fun s X Y row hs hg hr => holdsRow_own w.heap.size w.heap.size 53 23 1 (fun pre : List (Fin m) => pre.length) (fun pre => (lv num (pre.map Fin.val)).1.map (Value.int .u64)) (fun _ v => some (w.heap.size + 1) ≠ v.ownBlock) s X Y row hs hg hr) _)
    (OwnFrom.and (Own.from (boxed_own (w.heap.size + 1) 23 (fun pre : List (Fin m) => .int .u64 (lv num (pre.map Fin.val)).2)) _)
      (OwnFrom.and (Own.from (boxed_own Bs 35 (fun _ : List (Fin m) => vs)) _) (Own.from (boxed_own Bc 3 (fun _ : List (Fin m) => vc)) _)))) (ownFrom_below (Nat.le_refl _) h)
theorem kp_boxed {B b1 b2 : Nat} {X Y : World} {t1 t2 : TypeId} {v1 v2 : Value} (h : Below B X Y) (x1 : Boxed X b1 t1 v1) (x2 : Boxed X b2 t2 v2) (y1 : Boxed Y b1 t1 v1) (y2 : Boxed Y b2 t2 v2) : KpC B b1 b2 X Y := by
  refine ⟨h, fun b hb o ho _ => ?_⟩
  rcases hb with rfl | rfl
  · rw [show X.heap[b]? = _ from x1] at ho; rw [← ho]; exact y1
  · rw [show X.heap[b]? = _ from x2] at ho; rw [← ho]; exact y2
theorem kp_putObj {B b1 b2 : Nat} {n0 : Nat} (hn : B ≤ n0) (W : World) (l : Nat) (o o' : Obj) (hl : n0 ≤ l) (h : W.heap[l]? = some o) (hc : o.isCells = false) (hw : o.isWalk = false) : KpC B b1 b2 W (W.putObj l o') := by
  refine ⟨(Below.refl B W).grown (grownBy_putObj' W l o') (by have := (Array.getElem?_eq_some_iff.1 h).1; omega) (fun k e => by cases e; omega), fun b _ ob hob hcb => ?_⟩
  rw [World.putObj_heap_other (fun e => by subst e; rw [h] at hob; cases hob; rw [hc] at hcb; cases hcb)]
  exact hob
theorem wpIn_append_run {F : Fence} {n : Nat} {P : Program} {o : Oper} {a : Act} {w w' : World} {K : Act → World → Prop} {Q : Exit → Act → World → Prop} {v xv v' : Value} (s x : Operand) (t : TypeId) (hop : o.op = Op.call { callee := Callee.builtin Builtin.append, args := #[s, x], argTypes := #[t, t] })
    (hs : a.eval s = v) (hx : a.eval x = xv) (hrun : (Builtin.append_ #[t, t] o.type #[v, xv]).run P w = .ok v' w') (hK : K (a.put o.dst v') w') : Oper.wpIn F n P o a w K Q := by
  unfold Oper.wpIn
  refine ⟨?_, ?_⟩
  · simp [Oper.about, hop, resolve, Target.leads, Sem.run_pure]
  · rw [Oper.semAt_eq _ _ _ (by rw [hop]; intro c hc'; cases hc')]
    simp [execOp, hop, resolve, invoke, builtin, hs, hx, hrun, Result.andThen]
    exact hK
theorem opIn_in {F : Fence} {n : Nat} {P : Program} {o : Oper} {a : Act} {w : World} {K : Act → World → Prop} {Q : Exit → Act → World → Prop} (l : Nat) (hro : F.round = none) (hd : ∀ c, o.op ≠ .defer c) (h : Oper.wpIn F n P o a w K Q) : Oper.wpIn (F.inRound l) n P o a w K Q := by
  refine ⟨h.1, ?_⟩
  have h2 := h.2
  rw [hro, Oper.semAt_eq _ _ _ hd] at h2
  rw [Fence.inRound_round, Oper.semAt_some _ _ _ hd]
  exact h2
theorem opsIn_in {F : Fence} {n : Nat} {P : Program} {ops : Array Oper} {Q : Exit → Act → World → Prop} (l : Nat) (hro : F.round = none) (hd : (ops.toList.all fun o => match o.op with | .defer _ => false | _ => true) = true) : ∀ (is : List Nat) (a : Act) (w : World), wpOpsIn F n P ops Q is a w → wpOpsIn (F.inRound l) n P ops Q is a w
  | [], _, _, h => h
  | i :: is, a, w, h => by
    rw [wpOpsIn_cons] at h ⊢
    unfold wpOpIn at h ⊢
    cases e : ops[i]? with
    | none => rw [e] at h; exact opsIn_in l hro hd is a w h
    | some o =>
      rw [e] at h
      dsimp only at h ⊢
      by_cases c : Region.wanted o (yielded ops a.tmps) = true
      · rw [if_pos c] at h ⊢
        exact opIn_in l hro (fun c z => by have hm := List.all_eq_true.1 hd o (Array.mem_toList_iff.2 (Array.mem_of_getElem? e)); rw [z] at hm; cases hm) (Oper.wpIn_mono (fun a w => opsIn_in l hro hd is a w) h)
      · rw [if_neg c] at h ⊢
        exact ⟨h.1, opsIn_in l hro hd is _ w h.2⟩
theorem region_in {F : Fence} {n : Nat} {P : Program} {id : Nat} {ops : Array Oper} {Q : Exit → Act → World → Prop} {a : Act} {w : World} (l : Nat) (hro : F.round = none) (hm : P.follows .mixedOrders = true) (hd : (ops.toList.all fun o => match o.op with | .defer _ => false | _ => true) = true)
    (h : wpAnyIn F n P .any ops Q ops.size (Array.replicate ops.size false) a w.drew) : (Code.region id ops true).wpIn (F.inRound l) n P Q a w :=
  wpIn_region_draw fun t => by
    simp only [Region.schedule, hm, Bool.true_or, if_true]
    exact opsIn_in l hro hd _ _ _ (wpAnyIn_sound ops.size t _ a _ h)
theorem lv_leave (w : World) {W3 : World} {tmps : Array Value} {D : Nat} {v : Value} {r1 r3 : Int} {r2 : List Int} (hK : W3.heap[D]? = some (.deferred (some []))) (hbo : Boxed W3 w.heap.size 53 v)
    (hrow : W3.ownsRow w.heap.size 23 1 v r2.length (r2.map (Value.int .u64))) (hB : Below w.heap.size w W3) (hD : w.heap.size ≤ D) (h2 : tmps.getD 2 undef = .int .i64 r1)
    (h3 : tmps.getD 3 undef = .pointer (some ⟨w.heap.size, 0, none⟩)) (h4 : tmps.getD 4 undef = .int .i64 r3) :
    bodyPostM Fence.wide 5 Try.prog Try.f30 (fun e w' => ∃ v1_, e = Ending.returned (Value.tuple #[.int .i64 r1, v1_, .int .i64 r3]) ∧ (Kd.int .u64).R 23 w' w.heap.size (fun _ => True) v1_ r2 ∧ Below w.heap.size w w') Exit.ret
      { tmps := tmps, defers := [{ target := Target.collected D, args := #[] }] } W3 := by
  have hne : some w.heap.size ≠ some D := fun e => by
    have e : w.heap.size = D := by simpa using e
    rw [← e, show W3.heap[w.heap.size]? = _ from hbo] at hK; cases hK
  have hbo' : Boxed (W3.putObj D (.deferred none)) w.heap.size 53 v := hbo.kept (grownBy_putObj' W3 D _) hne
  refine ⟨by simp, .inl ⟨_, _, rfl, run_takeDeferred hK, ?_⟩⟩
  exact ⟨_, results_tct rfl _ _ w.heap.size v h3 (load22 _ _ _ hbo'.cell), v, by rw [h2, h4], Kd.R_of_own (ownsRow_putObj hrow _ hK rfl) (fun _ _ => trivial), hB.trans (belowK_b (w := w) (Nat.le_refl _) W3 D _ _ hD hK rfl rfl)⟩
theorem setCell_kept {W : World} {b D : Nat} {o : Obj} {t : TypeId} {x : Value} (v : Value) (hb : Boxed W b t x) (ho : W.heap[D]? = some o) (hc : o.isCells = false) : (W.setCell ⟨b, 0, none⟩ v).heap[D]? = some o := by
  refine ((grownBy_setCell' W b v).block D (Array.getElem?_eq_some_iff.1 ho).1 (fun e => ?_)).trans ho
  have e : D = b := by simpa using e
  rw [e, show W.heap[b]? = _ from hb] at ho; cases ho; cases hc
theorem row_below {W W' : World} {base : Nat} {e : TypeId} {size n : Nat} {v : Value} {xs : List Value} (h : W.ownsRow base e size v n xs) (hb : Below W.heap.size W W') : W'.ownsRow base e size v n xs := by
  refine own_move h (fun k hk => ?_)
  rcases h.2 with ⟨rfl, _⟩ | ⟨g, cap, cur, rfl, _, hgb, _⟩
  · simp [Value.ownBlock] at hk
  · obtain rfl : g = k := by simpa [Value.ownBlock] using hk
    exact hb.block _ (Array.getElem?_eq_some_iff.1 hgb).1
set_option maxRecDepth 100000 in
set_option maxHeartbeats 8000000 in
theorem image_Leaves.calls (k : Nat) (A0 : Option Addr) (c0 : Nat) (l0 : List Int) (r1 : Int) (r2 : List Int) (r3 : Int) (w : World) (hr0 : Kd.C (Kd.int .u8) w A0 l0.length l0) (hc0 : l0.length ≤ c0) (h : image_Leaves.f k l0 = some (r1, r2, r3)) :
    Calls Try.prog 30 #[.slice A0 l0.length c0] w fun e w' => ∃ v1_ : Value, e = .returned (.tuple #[.int .i64 r1, v1_, .int .i64 r3]) ∧ Kd.R (Kd.int .u64) 23 w' w.heap.size (fun _ => True) v1_ r2 ∧ Below w.heap.size w w' := by
  have HR0 := Aside0.mk hr0
  have HC0 := Aside0.mk hc0
  clear hr0 hc0
  have HB := Aside0.mk (Below.refl w.heap.size w)
  unfold image_Leaves.f at h
  by_cases c2 : (l0.length : Int) > 65536
  · rw [if_pos c2] at h
    have c2b0 : decide (65536 < (l0.length : Int)) = true := decide_eq_true c2
    have c2b1 : decide (65536 < l0.length) = true := decide_eq_true (by omega)
    simp only [Option.some.injEq, Prod.mk.injEq] at h
    obtain ⟨rfl, rfl, rfl⟩ := h
    go_enter Try.func30, Try.ntmps30
    go_wp2
    refine bodyPost_ret (results_tct rfl _ _ w.heap.size _ rfl (load22 _ _ _ (Boxed.new w 53 (.slice none 0 0)).cell)) rfl ?_
    exact ⟨_, rfl, Kd.R_nil _ _ _ _ _, by repeat (first | (with_reducible first | exact HB.out | apply below_alloc | apply pw_below_drewN | apply below_drew1) | exact HB.out)⟩
  · rw [if_neg c2] at h
    have c2b0 : decide (65536 < (l0.length : Int)) = false := decide_eq_false c2
    have c2b1 : decide (65536 < l0.length) = false := decide_eq_false (by omega)
    by_cases c3 : l0.length < 7 ∨ (l0.length - 7) % 8 ≠ 0
    · rw [if_pos c3] at h
      simp only [Option.some.injEq, Prod.mk.injEq] at h
      obtain ⟨rfl, rfl, rfl⟩ := h
      by_cases c4 : l0.length < 7
      · have c4b0 : decide ((l0.length : Int) < 7) = true := decide_eq_true (by omega)
        have c4b1 : decide (l0.length < 7) = true := decide_eq_true (by omega)
        go_enter Try.func30, Try.ntmps30
        go_wp2
        refine bodyPost_ret (results_tct rfl _ _ w.heap.size _ rfl (load22 _ _ _ (Boxed.new w 53 (.slice none 0 0)).cell)) rfl ?_
        exact ⟨_, rfl, Kd.R_nil _ _ _ _ _, by repeat (first | (with_reducible first | exact HB.out | apply below_alloc | apply pw_below_drewN | apply below_drew1) | exact HB.out)⟩
      · have c4b0 : decide ((l0.length : Int) < 7) = false := decide_eq_false (by omega)
        have c4b1 : decide (l0.length < 7) = false := decide_eq_false (by omega)
        have c5 : ((Int.tmod (wrap64 ((l0.length : Int) - 7)) 8) != 0) = true := by
          rw [show wrap64 ((l0.length : Int) - 7) = ((l0.length - 7 : Nat) : Int) by unfold wrap64; omega, Int.tmod_eq_emod_of_nonneg (by omega)]
          simp only [bne_iff_ne, ne_eq]; omega
        go_enter Try.func30, Try.ntmps30
        go_wp2
        refine bodyPost_ret (results_tct rfl _ _ w.heap.size _ rfl (load22 _ _ _ (Boxed.new w 53 (.slice none 0 0)).cell)) rfl ?_
        exact ⟨_, rfl, Kd.R_nil _ _ _ _ _, by repeat (first | (with_reducible first | exact HB.out | apply below_alloc | apply pw_below_drewN | apply below_drew1) | exact HB.out)⟩
    · rw [if_neg c3] at h
      obtain ⟨m, hm⟩ : ∃ m, l0.length = 7 + 8 * m := ⟨(l0.length - 7) / 8, by omega⟩
      have em : (l0.length - 7) / 8 = m := by omega
      rw [em] at h
      by_cases ca : ((List.range m).all fun x => (image_number.f k (chunk8 l0 x)).isSome) = true
      · rw [if_pos ca] at h
        obtain ⟨num, hnum⟩ : ∃ num : Nat → Int, num = fun x => (image_number.f k (chunk8 l0 x)).getD 0 := ⟨_, rfl⟩
        rw [← hnum] at h
        have NUM := Aside0.mk (show ∀ x, x < m → image_number.f k (chunk8 l0 x) = some (num x) by
          intro x hx
          have := List.all_eq_true.1 ca x (List.mem_range.2 hx)
          rw [hnum]
          obtain ⟨y, hy⟩ := Option.isSome_iff_exists.1 this
          simp only [hy, Option.getD_some])
        clear hnum ca
        have H := Aside0.mk h
        clear h
        obtain ⟨ad, e1, hx2⟩ := Kd.at_int (Kd.C_alloc HR0.out (.cells #[.slice none 0 0] 53)) 2 (by omega) (by omega)
        cases e1
        rw [show Int.toNat 2 = 2 from rfl] at hx2
        have c4b0 : decide ((l0.length : Int) < 7) = false := decide_eq_false (by omega)
        have c4b1 : decide (l0.length < 7) = false := decide_eq_false (by omega)
        have c5 : ((Int.tmod (wrap64 ((l0.length : Int) - 7)) 8) != 0) = false := by
          rw [show wrap64 ((l0.length : Int) - 7) = ((l0.length - 7 : Nat) : Int) by unfold wrap64; omega, Int.tmod_eq_emod_of_nonneg (by omega)]
          simp only [bne_eq_false_iff_eq]; omega
        have c6 : 7 ≤ l0.length := by omega
        have c7 : 2 < l0.length := by omega
        have c8 := HC0.out
        have bO := Boxed.new w 53 (.slice none 0 0)
        have HM := Aside0.mk hm
        have C2 := Aside0.mk c2
        clear hm em c3 c2
        refine (callsIn_wide (n := 5)).1 ?_
        refine callsIn_of_wp_marks Try.func30 rfl trivial ?_ rfl
        simp only [Try.ntmps30, List.size_toArray, List.length_cons, List.length_nil, Nat.reduceAdd, Nat.reduceSub, Array.replicate_succ, Array.replicate_zero, List.push_toArray, List.append_toArray, List.nil_append, List.cons_append]
        gi_upto_region 5 with (fail)
        generalize hW0 : w.alloc (.cells #[.slice none 0 0] 53) = W0 at *
        have HB0 : Below w.heap.size w W0 := by rw [← hW0]; exact below_alloc HB.out _
        have hz0 : W0.heap.size = w.heap.size + 1 := by rw [← hW0]; simp
        clear hW0
        have hx2b : W0.cell? { block := ad.block, off := ad.off + 2 } = some (.int .u8 (rd l0 2)) := hx2
        gi_upto_region 7 with (fail)
        have bN := Boxed.new W0 23 (.int .u64 0)
        rw [hz0] at bN
        have bO1 := bO.alloc (.cells #[.int .u64 0] 23)
        have hb1 := below_alloc HB0 (.cells #[.int .u64 0] 23)
        have hz1 : (W0.alloc (.cells #[.int .u64 0] 23)).heap.size = w.heap.size + 2 := by simp [hz0]
        generalize W0.alloc (.cells #[.int .u64 0] 23) = W1 at *
        have HB1 := Aside0.mk hb1
        clear hb1 HB0 bO hz0 hx2 hx2b
        have e8 : l0.length - 7 = 8 * m := by have := HM.out; omega
        gi_wp2_with (gi_at_call 69; refine ⟨trivial, callsIn_wide.2 ((sl_Chunk.calls _ _ _ _).mono ?_)⟩; rintro e w2 ⟨rfl, rfl⟩)
        all_goals refine ⟨trivial, callsIn_wide.2 ((sl_Chunk.calls _ _ _ _).mono ?_)⟩
        all_goals rintro e w2 ⟨rfl, rfl⟩
        all_goals obtain ⟨X7, hX7⟩ : ∃ X : Addr, X = if c0 = 7 then ad else ⟨ad.block, ad.off + 7, none⟩ := ⟨_, rfl⟩
        all_goals obtain ⟨c7, hc7⟩ : ∃ c, c = c0 - 7 := ⟨_, rfl⟩
        all_goals first
          | (rw [show Value.slice (some ad) (8 * m) 0 = Value.slice (some X7) (8 * m) c7 by (have z : c0 = 7 := (by omega)); rw [hX7, hc7]; simp [z]])
          | (rw [show Value.slice (some ⟨ad.block, ad.off + 7, none⟩) (8 * m) (c0 - 7) = Value.slice (some X7) (8 * m) c7 by rw [hX7, hc7, if_neg (by omega)]])
        all_goals
          have hX : ∀ W, Below w.heap.size w W → ∀ x, x < m → Kd.C (Kd.int .u8) W (some (X7.add (8 * x))) (chunk8 l0 x).length (chunk8 l0 x) := fun W hW x hx => by
            have z := HM.out
            have z2 := HC0.out
            rw [hX7, if_neg (by omega)]
            exact chunk_C (Kd.C_below HR0.out hW) (by omega)
          have hcm : 8 * m ≤ c7 := by have := HM.out; have := HC0.out; omega
          clear hX7 hc7
          have HX := Aside0.mk hX
          clear hX
          have hbs := blk_below (blk_new W1 (.cells #[.slice (some X7) (8 * m) c7] 35)) (below_alloc (Below.refl _ _) (.cells #[.int .i64 8] 3))
          have hbc := blk_new (W1.alloc (.cells #[.slice (some X7) (8 * m) c7] 35)) (.cells #[.int .i64 8] 3)
          have hz2 : (W1.alloc (.cells #[.slice (some X7) (8 * m) c7] 35)).heap.size = W1.heap.size + 1 := by simp
          have hz3 : ((W1.alloc (.cells #[.slice (some X7) (8 * m) c7] 35)).alloc (.cells #[.int .i64 8] 3)).heap.size = W1.heap.size + 2 := by simp
          rw [hz2] at hbc
          have bO2 := (bO1.alloc (.cells #[.slice (some X7) (8 * m) c7] 35)).alloc (.cells #[.int .i64 8] 3)
          have bN2 := (bN.alloc (.cells #[.slice (some X7) (8 * m) c7] 35)).alloc (.cells #[.int .i64 8] 3)
          have hb2 := below_alloc (below_alloc HB1.out (.cells #[.slice (some X7) (8 * m) c7] 35)) (.cells #[.int .i64 8] 3)
          generalize (W1.alloc (.cells #[.slice (some X7) (8 * m) c7] 35)).alloc (.cells #[.int .i64 8] 3) = W2 at *
          have HB2 := Aside0.mk hb2
          have HZ1 := Aside0.mk hz1
          have HZ3 := Aside0.mk hz3
          clear hb2 bO1 bN hz2 hz1 hz3
          dsimp only
          gi_wp2
          generalize hA : Act.mk _ _ = A1
          refine wpIn_rangeFunc_ownH (α := Fin m) (encs := fun x => #[.slice (some (X7.add (8 * x.val))) 8 8]) (Kp := KpC w.heap.size W1.heap.size (W1.heap.size + 1))
            (S := fun ys => ys.map Fin.val = List.range m) (Sp := fun _ => True) (N := m) (w0 := W2) rfl (by omega) (gf := 110) (lb := #[.pointer (some ⟨W1.heap.size, 0, none⟩), .pointer (some ⟨W1.heap.size + 1, 0, none⟩)]) (by rw [← hA]; rfl) trivial (enters_of Try.func110 (by kernel_rfl) rfl)
            (fun l J Jx W hW hJa _ hY h0 => sl_chunk1_in (5 - 1) (by omega) l W1.heap.size (W1.heap.size + 1) X7 m c7 (by have := HM.out; have := C2.out; omega) hcm w.heap.size J Jx W hJa hY (by have := hW.size; have := HZ1.out; have := HZ3.out; omega) (blk_below hbs hW) (blk_below hbc hW) h0)
            (fun h1 h2 => h1.trans h2)
            (fun W l o o' h1 h2 h3 h4 => kp_putObj (n0 := W2.heap.size) (by have := HZ1.out; have := HZ3.out; omega) W l o o' h1 h2 h3 h4)
            (Below.refl _ _) (fun _ => rfl)
            (JL w num m W1.heap.size (W1.heap.size + 1) (.slice (some X7) (8 * m) c7) (.int .i64 8))
            (fun _ _ _ => False)
            (jl_own w num m _ _ _ _ _ (by have := HZ1.out; have := HZ3.out; omega))
            (fun _ _ _ _ _ hs _ _ => hs)
            ⟨⟨⟨_, bO2, World.ownsRow_nil _ _ _ _, by simp [Value.ownBlock]⟩, bN2, hbs, hbc⟩, HB2.out⟩
            (fun x a' W => a' = { tmps := (A1.tmps.setIfInBounds 32 (.slice (some (X7.add (8 * x.val))) 8 8)).setIfInBounds 6 (.slice (some (X7.add (8 * x.val))) 8 8), defers := [] })
            ?hAx ?assign ?body ?done ?stop
          case hAx => exact fun x a' _ X Y row h _ _ => h
          case stop =>
            rintro D c pre W hD _ h _
            exact h.elim
          case assign =>
            intro l pre x W K hI hK
            subst hA
            gi_wp2
            exact hK _ _ ((KeepsOthers.refl _).from _) (KpC.refl _ _ _ _) hI rfl
          case body =>
            rintro l pre x a' W hl ⟨r, hr⟩ ⟨⟨⟨v, hbo, hrow, hvn⟩, hbn, hbs1, hbc1⟩, hB⟩ rfl hltN
            subst hA
            simp only [List.setIfInBounds_toArray, List.set_cons_zero, List.set_cons_succ]
            have hl8 : (chunk8 l0 x.val).length = 8 := by have := HM.out; have := x.isLt; simp [chunk8]; omega
            have hcall := image_number.calls k _ 8 _ _ W (HX.out W hB x.val x.isLt) (by omega) (NUM.out x.val x.isLt)
            rw [hl8] at hcall
            have HCL := Aside0.mk hcall
            have HL8 := Aside0.mk hl8
            clear hcall hl8
            gi_wp2
            refine ⟨trivial, CallsIn.inRound l (callsIn_wide.2 (HCL.out.mono ?_))⟩
            rintro e w4 ⟨rfl, nd, rfl⟩
            dsimp only
            gi_wp2
            refine region_in (F := Fence.wide) l rfl (by kernel_rfl) (by kernel_rfl) ?_
            have kd : KeepsOthers W (W.drewN nd).drew := ⟨Nat.le_refl _, fun _ _ h _ => h⟩
            have bd : Below w.heap.size W (W.drewN nd).drew := below_drew1 (pw_below_drewN (Below.refl _ _) nd)
            have hbo' : Boxed (W.drewN nd).drew w.heap.size 53 v := hbo
            have hbn' : Boxed (W.drewN nd).drew (w.heap.size + 1) 23 _ := hbn
            have hbs' : Boxed (W.drewN nd).drew W1.heap.size 35 _ := hbs1
            have hbc' : Boxed (W.drewN nd).drew (W1.heap.size + 1) 3 _ := hbc1
            have hrow' : (W.drewN nd).drew.ownsRow w.heap.size 23 1 v pre.length _ := row_below hrow (below_drew1 (pw_below_drewN (Below.refl _ _) nd))
            have hszd : w.heap.size ≤ (W.drewN nd).drew.heap.size := hB.size
            generalize (W.drewN nd).drew = Wd at *
            obtain ⟨u, hu⟩ : ∃ u, u = IntKind.u64.wrap ((lv num (pre.map Fin.val)).2 + num x.val) := ⟨_, rfl⟩
            have hpl : pre.length + 1 ≤ 1000000 := by have := HM.out; have := C2.out; omega
            obtain ⟨i0, hi0, hz0_, hz1_, hz2_⟩ : ∃ i0, Try.prog.info? 23 = some i0 ∧ i0.zero = some (.int .u64 0) ∧ i0.size = 1 ∧ i0.bytes = 8 := ⟨_, rfl, rfl, rfl, rfl⟩
            obtain ⟨v', w1, happ, hown', hgrow, _, hob⟩ := run_append_own_at (P := Try.prog) (Wd.alloc (.cells #[.int .u64 u] 23)) w.heap.size 53 53 23 i0 (.int .u64 0) 1 8 Try.underlying53 hi0 hz0_ hz1_ hz2_ rfl (by decide) v _ _ (hrow'.alloc _) ⟨Wd.heap.size, 0, none⟩ 1 1 [.int .u64 u] rfl (cell_one_new Wd (.int .u64 u) 23) (by simp [Value.oneCell']) (by unfold maxLen; omega) (by omega) (by simp; omega)
            obtain ⟨g', cap', rfl⟩ := ownsRow_succ hown'
            obtain ⟨hv1, hv2, hr2, hk2, hb2⟩ := hbo'.appended (by decide) hrow' hszd (Nat.le_refl _) hown' hgrow
            have hnb : some (w.heap.size + 1) ≠ (Value.slice (some ⟨g', 0, none⟩) (pre.length + 1) cap').ownBlock := by
              rcases hob with e | e
              · rw [e]; exact hvn
              · rw [e]; have := hbn'.lt; simp; omega
            have hbn1 : Boxed w1 (w.heap.size + 1) 23 _ := (hbn'.alloc _).kept hgrow hvn
            have hbn2 := hbn1.other (B' := w.heap.size) (by omega) (.slice (some ⟨g', 0, none⟩) (pre.length + 1) cap')
            have zs := HZ1.out
            have hbs2 := (((hbs'.alloc (.cells #[.int .u64 u] 23)).kept hgrow (hbs'.not_row (by decide) hrow')).other (B' := w.heap.size) (by omega) (.slice (some ⟨g', 0, none⟩) (pre.length + 1) cap')).other (B' := w.heap.size + 1) (by omega) (.int .u64 (IntKind.u64.wrap (u + 1)))
            have hbc2 := (((hbc'.alloc (.cells #[.int .u64 u] 23)).kept hgrow (hbc'.not_row (by decide) hrow')).other (B' := w.heap.size) (by omega) (.slice (some ⟨g', 0, none⟩) (pre.length + 1) cap')).other (B' := w.heap.size + 1) (by omega) (.int .u64 (IntKind.u64.wrap (u + 1)))
            clear zs
            have hbF := bd.trans (hb2.setCell (p := ⟨w.heap.size + 1, 0, none⟩) (Nat.le_succ _) (.int .u64 (IntKind.u64.wrap (u + 1))))
            have HKF := Aside0.mk ((kd.trans (hk2.trans (KeepsOthers.setCell _ ⟨w.heap.size + 1, 0, none⟩ (.int .u64 (IntKind.u64.wrap (u + 1)))))).from W2.heap.size)
            have HKP := Aside0.mk (kp_boxed hbF hbs1 hbc1 hbs2 hbc2)
            have HJ : Aside0 (JL w num m W1.heap.size (W1.heap.size + 1) (.slice (some X7) (8 * m) c7) (.int .i64 8) (pre ++ [x]) ((w1.setCell ⟨w.heap.size, 0, none⟩ (.slice (some ⟨g', 0, none⟩) (pre.length + 1) cap')).setCell ⟨w.heap.size + 1, 0, none⟩ (.int .u64 (IntKind.u64.wrap (u + 1))))) := by
              refine ⟨⟨⟨_, hv2.other (by omega) _, ?_, hnb⟩, ?_, hbs2, hbc2⟩, hB.trans hbF⟩
              · have e : (lv num ((pre ++ [x]).map Fin.val)).1.map (Value.int .u64) = (lv num (pre.map Fin.val)).1.map (Value.int .u64) ++ [.int .u64 u] := by
                  rw [List.map_append, List.map_singleton, lv_snoc, lv_step, List.map_append, hu]; rfl
                rw [e, List.length_append, List.length_singleton]
                exact hr2.kept (grownBy_setCell' _ (w.heap.size + 1) _) (.inr hnb.symm)
              · have e : (lv num ((pre ++ [x]).map Fin.val)).2 = IntKind.u64.wrap (u + 1) := by
                  rw [List.map_append, List.map_singleton, lv_snoc, lv_step, hu]
                rw [e]
                exact hbn2.set _
            have hu' := hu.symm
            have hc0 := hbo'.cell
            have hn0 := hbn'.cell
            have hc0a := (hbo'.alloc (.cells #[.int .u64 u] 23)).cell
            have hn0a := (hbn'.alloc (.cells #[.int .u64 u] 23)).cell
            have hc1 := hv1.cell
            have hf1 := hv1.frozen
            have hn1 := hbn1.cell
            have hn2 := hbn2.cell
            have hf2 := hbn2.frozen
            generalize (lv num (pre.map Fin.val)).2 = q at *
            generalize (lv num (pre.map Fin.val)).1.map (Value.int .u64) = lsv at *
            generalize num x.val = nx at *
            clear hu hob hnb hbn1 hbn2 hbs2 hbc2 hbF hv1 hv2 hr2 hk2 hb2 hown' hgrow hi0 hz0_ hz1_ hz2_ kd bd hbo' hbn' hbs' hbc' hrow' hbo hbn hbs1 hbc1 hrow hvn hB HCL HL8 H hpl hszd
            refine wpAnyIn_take (i := 2) (v := ?_) rfl rfl (by kernel_rfl) (by kernel_rfl) (by kernel_rfl) (fun _ _ _ h => h) ⟨Or.inl ⟨by rfl, ?_⟩, fun _ => rfl⟩ ?_
            rotate_left; (focus (intro w'; go_simp; with_reducible rfl))
            refine wpAnyIn_take (i := 7) (v := ?_) rfl rfl (by kernel_rfl) (by kernel_rfl) (by kernel_rfl) (fun _ _ _ h => h) ⟨Or.inl ⟨by rfl, ?_⟩, fun _ => rfl⟩ ?_
            rotate_left; (focus (intro w'; go_simp; with_reducible rfl))
            refine wpAnyIn_ready (rs := [0, 1, 6]) (by kernel_rfl) (by simp) ?_
            refine AllReadyIn.cons rfl (fun K hK => ?_) ?_
            · go_simp
              refine hK _ _ ?_; clear hK K
              refine wpAnyIn_ready (rs := [1, 6]) (by kernel_rfl) (by simp) ?_
              refine AllReadyIn.cons rfl (fun K hK => ?_) ?_
              · go_simp
                refine hK _ _ ?_; clear hK K
                refine wpAnyIn_take (i := 3) (v := ?_) rfl rfl (by kernel_rfl) (by kernel_rfl) (by kernel_rfl) (fun _ _ _ h => h) ⟨Or.inl ⟨by rfl, ?_⟩, fun _ => rfl⟩ ?_
                rotate_left; (focus (intro w'; go_simp; with_reducible rfl))
                refine wpAnyIn_ready (rs := [4, 6]) (by kernel_rfl) (by simp) ?_
                refine AllReadyIn.cons rfl (fun K hK => ?_) ?_
                · go_simp
                  refine hK _ _ ?_; clear hK K
                  refine wpAnyIn_ready (rs := [5, 6]) (by kernel_rfl) (by simp) ?_
                  refine AllReadyIn.cons rfl (fun K hK => ?_) ?_
                  · rw [if_pos (show Region.wanted _ _ = true from rfl)]; refine wpIn_append_run (.tmp 35) (.tmp 39) 53 rfl rfl rfl happ ?_
                    refine hK _ _ ?_; clear hK K
                    refine wpAnyIn_ready (rs := [6, 10]) (by kernel_rfl) (by simp) ?_
                    refine AllReadyIn.cons rfl (fun K hK => ?_) ?_
                    · go_simp
                      refine hK _ _ ?_; clear hK K
                      refine wpAnyIn_take (i := 8) (v := ?_) rfl rfl (by kernel_rfl) (by kernel_rfl) (by kernel_rfl) (fun _ _ _ h => h) ⟨Or.inl ⟨by rfl, ?_⟩, fun _ => rfl⟩ ?_
                      rotate_left; (focus (intro w'; go_simp; with_reducible rfl))
                      refine wpAnyIn_take (i := 9) (v := ?_) rfl rfl (by kernel_rfl) (by kernel_rfl) (by kernel_rfl) (fun _ _ _ h => h) ⟨Or.inl ⟨by rfl, ?_⟩, fun _ => rfl⟩ ?_
                      rotate_left; (focus (intro w'; go_simp; with_reducible rfl))
                      refine wpAnyIn_ready (rs := [10]) (by kernel_rfl) (by simp) ?_
                      refine AllReadyIn.cons rfl (fun K hK => ?_) ?_
                      · go_simp
                        refine hK _ _ ?_; clear hK K
                        refine wpAnyIn_ready (rs := [11]) (by kernel_rfl) (by simp) ?_
                        refine AllReadyIn.cons rfl (fun K hK => ?_) ?_
                        · go_simp
                          refine hK _ _ ?_; clear hK K
                          refine wpAnyIn_done (by kernel_rfl) ?_ _
                          exact ⟨HKF.out, HKP.out, HJ.out⟩
                        exact AllReadyIn.nil
                      exact AllReadyIn.nil
                    refine AllReadyIn.cons rfl (fun K hK => ?_) ?_
                    · go_simp
                      refine hK _ _ ?_; clear hK K
                      refine wpAnyIn_ready (rs := [6]) (by kernel_rfl) (by simp) ?_
                      refine AllReadyIn.cons rfl (fun K hK => ?_) ?_
                      · go_simp
                        refine hK _ _ ?_; clear hK K
                        refine wpAnyIn_take (i := 8) (v := ?_) rfl rfl (by kernel_rfl) (by kernel_rfl) (by kernel_rfl) (fun _ _ _ h => h) ⟨Or.inl ⟨by rfl, ?_⟩, fun _ => rfl⟩ ?_
                        rotate_left; (focus (intro w'; go_simp; with_reducible rfl))
                        refine wpAnyIn_take (i := 9) (v := ?_) rfl rfl (by kernel_rfl) (by kernel_rfl) (by kernel_rfl) (fun _ _ _ h => h) ⟨Or.inl ⟨by rfl, ?_⟩, fun _ => rfl⟩ ?_
                        rotate_left; (focus (intro w'; go_simp; with_reducible rfl))
                        refine wpAnyIn_ready (rs := [11]) (by kernel_rfl) (by simp) ?_
                        refine AllReadyIn.cons rfl (fun K hK => ?_) ?_
                        · go_simp
                          refine hK _ _ ?_; clear hK K
                          refine wpAnyIn_done (by kernel_rfl) ?_ _
                          exact ⟨HKF.out, HKP.out, HJ.out⟩
                        exact AllReadyIn.nil
                      exact AllReadyIn.nil
                    exact AllReadyIn.nil
                  refine AllReadyIn.cons rfl (fun K hK => ?_) ?_
                  · go_simp
                    refine hK _ _ ?_; clear hK K
                    refine wpAnyIn_take (i := 8) (v := ?_) rfl rfl (by kernel_rfl) (by kernel_rfl) (by kernel_rfl) (fun _ _ _ h => h) ⟨Or.inl ⟨by rfl, ?_⟩, fun _ => rfl⟩ ?_
                    rotate_left; (focus (intro w'; go_simp; with_reducible rfl))
                    refine wpAnyIn_take (i := 9) (v := ?_) rfl rfl (by kernel_rfl) (by kernel_rfl) (by kernel_rfl) (fun _ _ _ h => h) ⟨Or.inl ⟨by rfl, ?_⟩, fun _ => rfl⟩ ?_
                    rotate_left; (focus (intro w'; go_simp; with_reducible rfl))
                    refine wpAnyIn_ready (rs := [5]) (by kernel_rfl) (by simp) ?_
                    refine AllReadyIn.cons rfl (fun K hK => ?_) ?_
                    · rw [if_pos (show Region.wanted _ _ = true from rfl)]; refine wpIn_append_run (.tmp 35) (.tmp 39) 53 rfl rfl rfl happ ?_
                      refine hK _ _ ?_; clear hK K
                      refine wpAnyIn_ready (rs := [10]) (by kernel_rfl) (by simp) ?_
                      refine AllReadyIn.cons rfl (fun K hK => ?_) ?_
                      · go_simp
                        refine hK _ _ ?_; clear hK K
                        refine wpAnyIn_ready (rs := [11]) (by kernel_rfl) (by simp) ?_
                        refine AllReadyIn.cons rfl (fun K hK => ?_) ?_
                        · go_simp
                          refine hK _ _ ?_; clear hK K
                          refine wpAnyIn_done (by kernel_rfl) ?_ _
                          exact ⟨HKF.out, HKP.out, HJ.out⟩
                        exact AllReadyIn.nil
                      exact AllReadyIn.nil
                    exact AllReadyIn.nil
                  exact AllReadyIn.nil
                refine AllReadyIn.cons rfl (fun K hK => ?_) ?_
                · go_simp
                  refine hK _ _ ?_; clear hK K
                  refine wpAnyIn_take (i := 8) (v := ?_) rfl rfl (by kernel_rfl) (by kernel_rfl) (by kernel_rfl) (fun _ _ _ h => h) ⟨Or.inl ⟨by rfl, ?_⟩, fun _ => rfl⟩ ?_
                  rotate_left; (focus (intro w'; go_simp; with_reducible rfl))
                  refine wpAnyIn_take (i := 9) (v := ?_) rfl rfl (by kernel_rfl) (by kernel_rfl) (by kernel_rfl) (fun _ _ _ h => h) ⟨Or.inl ⟨by rfl, ?_⟩, fun _ => rfl⟩ ?_
                  rotate_left; (focus (intro w'; go_simp; with_reducible rfl))
                  refine wpAnyIn_ready (rs := [4]) (by kernel_rfl) (by simp) ?_
                  refine AllReadyIn.cons rfl (fun K hK => ?_) ?_
                  · go_simp
                    refine hK _ _ ?_; clear hK K
                    refine wpAnyIn_ready (rs := [5]) (by kernel_rfl) (by simp) ?_
                    refine AllReadyIn.cons rfl (fun K hK => ?_) ?_
                    · rw [if_pos (show Region.wanted _ _ = true from rfl)]; refine wpIn_append_run (.tmp 35) (.tmp 39) 53 rfl rfl rfl happ ?_
                      refine hK _ _ ?_; clear hK K
                      refine wpAnyIn_ready (rs := [10]) (by kernel_rfl) (by simp) ?_
                      refine AllReadyIn.cons rfl (fun K hK => ?_) ?_
                      · go_simp
                        refine hK _ _ ?_; clear hK K
                        refine wpAnyIn_ready (rs := [11]) (by kernel_rfl) (by simp) ?_
                        refine AllReadyIn.cons rfl (fun K hK => ?_) ?_
                        · go_simp
                          refine hK _ _ ?_; clear hK K
                          refine wpAnyIn_done (by kernel_rfl) ?_ _
                          exact ⟨HKF.out, HKP.out, HJ.out⟩
                        exact AllReadyIn.nil
                      exact AllReadyIn.nil
                    exact AllReadyIn.nil
                  exact AllReadyIn.nil
                exact AllReadyIn.nil
              refine AllReadyIn.cons rfl (fun K hK => ?_) ?_
              · go_simp
                refine hK _ _ ?_; clear hK K
                refine wpAnyIn_take (i := 8) (v := ?_) rfl rfl (by kernel_rfl) (by kernel_rfl) (by kernel_rfl) (fun _ _ _ h => h) ⟨Or.inl ⟨by rfl, ?_⟩, fun _ => rfl⟩ ?_
                rotate_left; (focus (intro w'; go_simp; with_reducible rfl))
                refine wpAnyIn_take (i := 9) (v := ?_) rfl rfl (by kernel_rfl) (by kernel_rfl) (by kernel_rfl) (fun _ _ _ h => h) ⟨Or.inl ⟨by rfl, ?_⟩, fun _ => rfl⟩ ?_
                rotate_left; (focus (intro w'; go_simp; with_reducible rfl))
                refine wpAnyIn_ready (rs := [1]) (by kernel_rfl) (by simp) ?_
                refine AllReadyIn.cons rfl (fun K hK => ?_) ?_
                · go_simp
                  refine hK _ _ ?_; clear hK K
                  refine wpAnyIn_take (i := 3) (v := ?_) rfl rfl (by kernel_rfl) (by kernel_rfl) (by kernel_rfl) (fun _ _ _ h => h) ⟨Or.inl ⟨by rfl, ?_⟩, fun _ => rfl⟩ ?_
                  rotate_left; (focus (intro w'; go_simp; with_reducible rfl))
                  refine wpAnyIn_ready (rs := [4]) (by kernel_rfl) (by simp) ?_
                  refine AllReadyIn.cons rfl (fun K hK => ?_) ?_
                  · go_simp
                    refine hK _ _ ?_; clear hK K
                    refine wpAnyIn_ready (rs := [5]) (by kernel_rfl) (by simp) ?_
                    refine AllReadyIn.cons rfl (fun K hK => ?_) ?_
                    · rw [if_pos (show Region.wanted _ _ = true from rfl)]; refine wpIn_append_run (.tmp 35) (.tmp 39) 53 rfl rfl rfl happ ?_
                      refine hK _ _ ?_; clear hK K
                      refine wpAnyIn_ready (rs := [10]) (by kernel_rfl) (by simp) ?_
                      refine AllReadyIn.cons rfl (fun K hK => ?_) ?_
                      · go_simp
                        refine hK _ _ ?_; clear hK K
                        refine wpAnyIn_ready (rs := [11]) (by kernel_rfl) (by simp) ?_
                        refine AllReadyIn.cons rfl (fun K hK => ?_) ?_
                        · go_simp
                          refine hK _ _ ?_; clear hK K
                          refine wpAnyIn_done (by kernel_rfl) ?_ _
                          exact ⟨HKF.out, HKP.out, HJ.out⟩
                        exact AllReadyIn.nil
                      exact AllReadyIn.nil
                    exact AllReadyIn.nil
                  exact AllReadyIn.nil
                exact AllReadyIn.nil
              exact AllReadyIn.nil
            refine AllReadyIn.cons rfl (fun K hK => ?_) ?_
            · go_simp
              refine hK _ _ ?_; clear hK K
              refine wpAnyIn_take (i := 3) (v := ?_) rfl rfl (by kernel_rfl) (by kernel_rfl) (by kernel_rfl) (fun _ _ _ h => h) ⟨Or.inl ⟨by rfl, ?_⟩, fun _ => rfl⟩ ?_
              rotate_left; (focus (intro w'; go_simp; with_reducible rfl))
              refine wpAnyIn_ready (rs := [0, 4, 6]) (by kernel_rfl) (by simp) ?_
              refine AllReadyIn.cons rfl (fun K hK => ?_) ?_
              · go_simp
                refine hK _ _ ?_; clear hK K
                refine wpAnyIn_ready (rs := [4, 6]) (by kernel_rfl) (by simp) ?_
                refine AllReadyIn.cons rfl (fun K hK => ?_) ?_
                · go_simp
                  refine hK _ _ ?_; clear hK K
                  refine wpAnyIn_ready (rs := [5, 6]) (by kernel_rfl) (by simp) ?_
                  refine AllReadyIn.cons rfl (fun K hK => ?_) ?_
                  · rw [if_pos (show Region.wanted _ _ = true from rfl)]; refine wpIn_append_run (.tmp 35) (.tmp 39) 53 rfl rfl rfl happ ?_
                    refine hK _ _ ?_; clear hK K
                    refine wpAnyIn_ready (rs := [6, 10]) (by kernel_rfl) (by simp) ?_
                    refine AllReadyIn.cons rfl (fun K hK => ?_) ?_
                    · go_simp
                      refine hK _ _ ?_; clear hK K
                      refine wpAnyIn_take (i := 8) (v := ?_) rfl rfl (by kernel_rfl) (by kernel_rfl) (by kernel_rfl) (fun _ _ _ h => h) ⟨Or.inl ⟨by rfl, ?_⟩, fun _ => rfl⟩ ?_
                      rotate_left; (focus (intro w'; go_simp; with_reducible rfl))
                      refine wpAnyIn_take (i := 9) (v := ?_) rfl rfl (by kernel_rfl) (by kernel_rfl) (by kernel_rfl) (fun _ _ _ h => h) ⟨Or.inl ⟨by rfl, ?_⟩, fun _ => rfl⟩ ?_
                      rotate_left; (focus (intro w'; go_simp; with_reducible rfl))
                      refine wpAnyIn_ready (rs := [10]) (by kernel_rfl) (by simp) ?_
                      refine AllReadyIn.cons rfl (fun K hK => ?_) ?_
                      · go_simp
                        refine hK _ _ ?_; clear hK K
                        refine wpAnyIn_ready (rs := [11]) (by kernel_rfl) (by simp) ?_
                        refine AllReadyIn.cons rfl (fun K hK => ?_) ?_
                        · go_simp
                          refine hK _ _ ?_; clear hK K
                          refine wpAnyIn_done (by kernel_rfl) ?_ _
                          exact ⟨HKF.out, HKP.out, HJ.out⟩
                        exact AllReadyIn.nil
                      exact AllReadyIn.nil
                    refine AllReadyIn.cons rfl (fun K hK => ?_) ?_
                    · go_simp
                      refine hK _ _ ?_; clear hK K
                      refine wpAnyIn_ready (rs := [6]) (by kernel_rfl) (by simp) ?_
                      refine AllReadyIn.cons rfl (fun K hK => ?_) ?_
                      · go_simp
                        refine hK _ _ ?_; clear hK K
                        refine wpAnyIn_take (i := 8) (v := ?_) rfl rfl (by kernel_rfl) (by kernel_rfl) (by kernel_rfl) (fun _ _ _ h => h) ⟨Or.inl ⟨by rfl, ?_⟩, fun _ => rfl⟩ ?_
                        rotate_left; (focus (intro w'; go_simp; with_reducible rfl))
                        refine wpAnyIn_take (i := 9) (v := ?_) rfl rfl (by kernel_rfl) (by kernel_rfl) (by kernel_rfl) (fun _ _ _ h => h) ⟨Or.inl ⟨by rfl, ?_⟩, fun _ => rfl⟩ ?_
                        rotate_left; (focus (intro w'; go_simp; with_reducible rfl))
                        refine wpAnyIn_ready (rs := [11]) (by kernel_rfl) (by simp) ?_
                        refine AllReadyIn.cons rfl (fun K hK => ?_) ?_
                        · go_simp
                          refine hK _ _ ?_; clear hK K
                          refine wpAnyIn_done (by kernel_rfl) ?_ _
                          exact ⟨HKF.out, HKP.out, HJ.out⟩
                        exact AllReadyIn.nil
                      exact AllReadyIn.nil
                    exact AllReadyIn.nil
                  refine AllReadyIn.cons rfl (fun K hK => ?_) ?_
                  · go_simp
                    refine hK _ _ ?_; clear hK K
                    refine wpAnyIn_take (i := 8) (v := ?_) rfl rfl (by kernel_rfl) (by kernel_rfl) (by kernel_rfl) (fun _ _ _ h => h) ⟨Or.inl ⟨by rfl, ?_⟩, fun _ => rfl⟩ ?_
                    rotate_left; (focus (intro w'; go_simp; with_reducible rfl))
                    refine wpAnyIn_take (i := 9) (v := ?_) rfl rfl (by kernel_rfl) (by kernel_rfl) (by kernel_rfl) (fun _ _ _ h => h) ⟨Or.inl ⟨by rfl, ?_⟩, fun _ => rfl⟩ ?_
                    rotate_left; (focus (intro w'; go_simp; with_reducible rfl))
                    refine wpAnyIn_ready (rs := [5]) (by kernel_rfl) (by simp) ?_
                    refine AllReadyIn.cons rfl (fun K hK => ?_) ?_
                    · rw [if_pos (show Region.wanted _ _ = true from rfl)]; refine wpIn_append_run (.tmp 35) (.tmp 39) 53 rfl rfl rfl happ ?_
                      refine hK _ _ ?_; clear hK K
                      refine wpAnyIn_ready (rs := [10]) (by kernel_rfl) (by simp) ?_
                      refine AllReadyIn.cons rfl (fun K hK => ?_) ?_
                      · go_simp
                        refine hK _ _ ?_; clear hK K
                        refine wpAnyIn_ready (rs := [11]) (by kernel_rfl) (by simp) ?_
                        refine AllReadyIn.cons rfl (fun K hK => ?_) ?_
                        · go_simp
                          refine hK _ _ ?_; clear hK K
                          refine wpAnyIn_done (by kernel_rfl) ?_ _
                          exact ⟨HKF.out, HKP.out, HJ.out⟩
                        exact AllReadyIn.nil
                      exact AllReadyIn.nil
                    exact AllReadyIn.nil
                  exact AllReadyIn.nil
                refine AllReadyIn.cons rfl (fun K hK => ?_) ?_
                · go_simp
                  refine hK _ _ ?_; clear hK K
                  refine wpAnyIn_take (i := 8) (v := ?_) rfl rfl (by kernel_rfl) (by kernel_rfl) (by kernel_rfl) (fun _ _ _ h => h) ⟨Or.inl ⟨by rfl, ?_⟩, fun _ => rfl⟩ ?_
                  rotate_left; (focus (intro w'; go_simp; with_reducible rfl))
                  refine wpAnyIn_take (i := 9) (v := ?_) rfl rfl (by kernel_rfl) (by kernel_rfl) (by kernel_rfl) (fun _ _ _ h => h) ⟨Or.inl ⟨by rfl, ?_⟩, fun _ => rfl⟩ ?_
                  rotate_left; (focus (intro w'; go_simp; with_reducible rfl))
                  refine wpAnyIn_ready (rs := [4]) (by kernel_rfl) (by simp) ?_
                  refine AllReadyIn.cons rfl (fun K hK => ?_) ?_
                  · go_simp
                    refine hK _ _ ?_; clear hK K
                    refine wpAnyIn_ready (rs := [5]) (by kernel_rfl) (by simp) ?_
                    refine AllReadyIn.cons rfl (fun K hK => ?_) ?_
                    · rw [if_pos (show Region.wanted _ _ = true from rfl)]; refine wpIn_append_run (.tmp 35) (.tmp 39) 53 rfl rfl rfl happ ?_
                      refine hK _ _ ?_; clear hK K
                      refine wpAnyIn_ready (rs := [10]) (by kernel_rfl) (by simp) ?_
                      refine AllReadyIn.cons rfl (fun K hK => ?_) ?_
                      · go_simp
                        refine hK _ _ ?_; clear hK K
                        refine wpAnyIn_ready (rs := [11]) (by kernel_rfl) (by simp) ?_
                        refine AllReadyIn.cons rfl (fun K hK => ?_) ?_
                        · go_simp
                          refine hK _ _ ?_; clear hK K
                          refine wpAnyIn_done (by kernel_rfl) ?_ _
                          exact ⟨HKF.out, HKP.out, HJ.out⟩
                        exact AllReadyIn.nil
                      exact AllReadyIn.nil
                    exact AllReadyIn.nil
                  exact AllReadyIn.nil
                exact AllReadyIn.nil
              refine AllReadyIn.cons rfl (fun K hK => ?_) ?_
              · go_simp
                refine hK _ _ ?_; clear hK K
                refine wpAnyIn_ready (rs := [0, 6]) (by kernel_rfl) (by simp) ?_
                refine AllReadyIn.cons rfl (fun K hK => ?_) ?_
                · go_simp
                  refine hK _ _ ?_; clear hK K
                  refine wpAnyIn_ready (rs := [5, 6]) (by kernel_rfl) (by simp) ?_
                  refine AllReadyIn.cons rfl (fun K hK => ?_) ?_
                  · rw [if_pos (show Region.wanted _ _ = true from rfl)]; refine wpIn_append_run (.tmp 35) (.tmp 39) 53 rfl rfl rfl happ ?_
                    refine hK _ _ ?_; clear hK K
                    refine wpAnyIn_ready (rs := [6, 10]) (by kernel_rfl) (by simp) ?_
                    refine AllReadyIn.cons rfl (fun K hK => ?_) ?_
                    · go_simp
                      refine hK _ _ ?_; clear hK K
                      refine wpAnyIn_take (i := 8) (v := ?_) rfl rfl (by kernel_rfl) (by kernel_rfl) (by kernel_rfl) (fun _ _ _ h => h) ⟨Or.inl ⟨by rfl, ?_⟩, fun _ => rfl⟩ ?_
                      rotate_left; (focus (intro w'; go_simp; with_reducible rfl))
                      refine wpAnyIn_take (i := 9) (v := ?_) rfl rfl (by kernel_rfl) (by kernel_rfl) (by kernel_rfl) (fun _ _ _ h => h) ⟨Or.inl ⟨by rfl, ?_⟩, fun _ => rfl⟩ ?_
                      rotate_left; (focus (intro w'; go_simp; with_reducible rfl))
                      refine wpAnyIn_ready (rs := [10]) (by kernel_rfl) (by simp) ?_
                      refine AllReadyIn.cons rfl (fun K hK => ?_) ?_
                      · go_simp
                        refine hK _ _ ?_; clear hK K
                        refine wpAnyIn_ready (rs := [11]) (by kernel_rfl) (by simp) ?_
                        refine AllReadyIn.cons rfl (fun K hK => ?_) ?_
                        · go_simp
                          refine hK _ _ ?_; clear hK K
                          refine wpAnyIn_done (by kernel_rfl) ?_ _
                          exact ⟨HKF.out, HKP.out, HJ.out⟩
                        exact AllReadyIn.nil
                      exact AllReadyIn.nil
                    refine AllReadyIn.cons rfl (fun K hK => ?_) ?_
                    · go_simp
                      refine hK _ _ ?_; clear hK K
                      refine wpAnyIn_ready (rs := [6]) (by kernel_rfl) (by simp) ?_
                      refine AllReadyIn.cons rfl (fun K hK => ?_) ?_
                      · go_simp
                        refine hK _ _ ?_; clear hK K
                        refine wpAnyIn_take (i := 8) (v := ?_) rfl rfl (by kernel_rfl) (by kernel_rfl) (by kernel_rfl) (fun _ _ _ h => h) ⟨Or.inl ⟨by rfl, ?_⟩, fun _ => rfl⟩ ?_
                        rotate_left; (focus (intro w'; go_simp; with_reducible rfl))
                        refine wpAnyIn_take (i := 9) (v := ?_) rfl rfl (by kernel_rfl) (by kernel_rfl) (by kernel_rfl) (fun _ _ _ h => h) ⟨Or.inl ⟨by rfl, ?_⟩, fun _ => rfl⟩ ?_
                        rotate_left; (focus (intro w'; go_simp; with_reducible rfl))
                        refine wpAnyIn_ready (rs := [11]) (by kernel_rfl) (by simp) ?_
                        refine AllReadyIn.cons rfl (fun K hK => ?_) ?_
                        · go_simp
                          refine hK _ _ ?_; clear hK K
                          refine wpAnyIn_done (by kernel_rfl) ?_ _
                          exact ⟨HKF.out, HKP.out, HJ.out⟩
                        exact AllReadyIn.nil
                      exact AllReadyIn.nil
                    exact AllReadyIn.nil
                  refine AllReadyIn.cons rfl (fun K hK => ?_) ?_
                  · go_simp
                    refine hK _ _ ?_; clear hK K
                    refine wpAnyIn_take (i := 8) (v := ?_) rfl rfl (by kernel_rfl) (by kernel_rfl) (by kernel_rfl) (fun _ _ _ h => h) ⟨Or.inl ⟨by rfl, ?_⟩, fun _ => rfl⟩ ?_
                    rotate_left; (focus (intro w'; go_simp; with_reducible rfl))
                    refine wpAnyIn_take (i := 9) (v := ?_) rfl rfl (by kernel_rfl) (by kernel_rfl) (by kernel_rfl) (fun _ _ _ h => h) ⟨Or.inl ⟨by rfl, ?_⟩, fun _ => rfl⟩ ?_
                    rotate_left; (focus (intro w'; go_simp; with_reducible rfl))
                    refine wpAnyIn_ready (rs := [5]) (by kernel_rfl) (by simp) ?_
                    refine AllReadyIn.cons rfl (fun K hK => ?_) ?_
                    · rw [if_pos (show Region.wanted _ _ = true from rfl)]; refine wpIn_append_run (.tmp 35) (.tmp 39) 53 rfl rfl rfl happ ?_
                      refine hK _ _ ?_; clear hK K
                      refine wpAnyIn_ready (rs := [10]) (by kernel_rfl) (by simp) ?_
                      refine AllReadyIn.cons rfl (fun K hK => ?_) ?_
                      · go_simp
                        refine hK _ _ ?_; clear hK K
                        refine wpAnyIn_ready (rs := [11]) (by kernel_rfl) (by simp) ?_
                        refine AllReadyIn.cons rfl (fun K hK => ?_) ?_
                        · go_simp
                          refine hK _ _ ?_; clear hK K
                          refine wpAnyIn_done (by kernel_rfl) ?_ _
                          exact ⟨HKF.out, HKP.out, HJ.out⟩
                        exact AllReadyIn.nil
                      exact AllReadyIn.nil
                    exact AllReadyIn.nil
                  exact AllReadyIn.nil
                refine AllReadyIn.cons rfl (fun K hK => ?_) ?_
                · go_simp
                  refine hK _ _ ?_; clear hK K
                  refine wpAnyIn_take (i := 8) (v := ?_) rfl rfl (by kernel_rfl) (by kernel_rfl) (by kernel_rfl) (fun _ _ _ h => h) ⟨Or.inl ⟨by rfl, ?_⟩, fun _ => rfl⟩ ?_
                  rotate_left; (focus (intro w'; go_simp; with_reducible rfl))
                  refine wpAnyIn_take (i := 9) (v := ?_) rfl rfl (by kernel_rfl) (by kernel_rfl) (by kernel_rfl) (fun _ _ _ h => h) ⟨Or.inl ⟨by rfl, ?_⟩, fun _ => rfl⟩ ?_
                  rotate_left; (focus (intro w'; go_simp; with_reducible rfl))
                  refine wpAnyIn_ready (rs := [0]) (by kernel_rfl) (by simp) ?_
                  refine AllReadyIn.cons rfl (fun K hK => ?_) ?_
                  · go_simp
                    refine hK _ _ ?_; clear hK K
                    refine wpAnyIn_ready (rs := [5]) (by kernel_rfl) (by simp) ?_
                    refine AllReadyIn.cons rfl (fun K hK => ?_) ?_
                    · rw [if_pos (show Region.wanted _ _ = true from rfl)]; refine wpIn_append_run (.tmp 35) (.tmp 39) 53 rfl rfl rfl happ ?_
                      refine hK _ _ ?_; clear hK K
                      refine wpAnyIn_ready (rs := [10]) (by kernel_rfl) (by simp) ?_
                      refine AllReadyIn.cons rfl (fun K hK => ?_) ?_
                      · go_simp
                        refine hK _ _ ?_; clear hK K
                        refine wpAnyIn_ready (rs := [11]) (by kernel_rfl) (by simp) ?_
                        refine AllReadyIn.cons rfl (fun K hK => ?_) ?_
                        · go_simp
                          refine hK _ _ ?_; clear hK K
                          refine wpAnyIn_done (by kernel_rfl) ?_ _
                          exact ⟨HKF.out, HKP.out, HJ.out⟩
                        exact AllReadyIn.nil
                      exact AllReadyIn.nil
                    exact AllReadyIn.nil
                  exact AllReadyIn.nil
                exact AllReadyIn.nil
              refine AllReadyIn.cons rfl (fun K hK => ?_) ?_
              · go_simp
                refine hK _ _ ?_; clear hK K
                refine wpAnyIn_take (i := 8) (v := ?_) rfl rfl (by kernel_rfl) (by kernel_rfl) (by kernel_rfl) (fun _ _ _ h => h) ⟨Or.inl ⟨by rfl, ?_⟩, fun _ => rfl⟩ ?_
                rotate_left; (focus (intro w'; go_simp; with_reducible rfl))
                refine wpAnyIn_take (i := 9) (v := ?_) rfl rfl (by kernel_rfl) (by kernel_rfl) (by kernel_rfl) (fun _ _ _ h => h) ⟨Or.inl ⟨by rfl, ?_⟩, fun _ => rfl⟩ ?_
                rotate_left; (focus (intro w'; go_simp; with_reducible rfl))
                refine wpAnyIn_ready (rs := [0, 4]) (by kernel_rfl) (by simp) ?_
                refine AllReadyIn.cons rfl (fun K hK => ?_) ?_
                · go_simp
                  refine hK _ _ ?_; clear hK K
                  refine wpAnyIn_ready (rs := [4]) (by kernel_rfl) (by simp) ?_
                  refine AllReadyIn.cons rfl (fun K hK => ?_) ?_
                  · go_simp
                    refine hK _ _ ?_; clear hK K
                    refine wpAnyIn_ready (rs := [5]) (by kernel_rfl) (by simp) ?_
                    refine AllReadyIn.cons rfl (fun K hK => ?_) ?_
                    · rw [if_pos (show Region.wanted _ _ = true from rfl)]; refine wpIn_append_run (.tmp 35) (.tmp 39) 53 rfl rfl rfl happ ?_
                      refine hK _ _ ?_; clear hK K
                      refine wpAnyIn_ready (rs := [10]) (by kernel_rfl) (by simp) ?_
                      refine AllReadyIn.cons rfl (fun K hK => ?_) ?_
                      · go_simp
                        refine hK _ _ ?_; clear hK K
                        refine wpAnyIn_ready (rs := [11]) (by kernel_rfl) (by simp) ?_
                        refine AllReadyIn.cons rfl (fun K hK => ?_) ?_
                        · go_simp
                          refine hK _ _ ?_; clear hK K
                          refine wpAnyIn_done (by kernel_rfl) ?_ _
                          exact ⟨HKF.out, HKP.out, HJ.out⟩
                        exact AllReadyIn.nil
                      exact AllReadyIn.nil
                    exact AllReadyIn.nil
                  exact AllReadyIn.nil
                refine AllReadyIn.cons rfl (fun K hK => ?_) ?_
                · go_simp
                  refine hK _ _ ?_; clear hK K
                  refine wpAnyIn_ready (rs := [0]) (by kernel_rfl) (by simp) ?_
                  refine AllReadyIn.cons rfl (fun K hK => ?_) ?_
                  · go_simp
                    refine hK _ _ ?_; clear hK K
                    refine wpAnyIn_ready (rs := [5]) (by kernel_rfl) (by simp) ?_
                    refine AllReadyIn.cons rfl (fun K hK => ?_) ?_
                    · rw [if_pos (show Region.wanted _ _ = true from rfl)]; refine wpIn_append_run (.tmp 35) (.tmp 39) 53 rfl rfl rfl happ ?_
                      refine hK _ _ ?_; clear hK K
                      refine wpAnyIn_ready (rs := [10]) (by kernel_rfl) (by simp) ?_
                      refine AllReadyIn.cons rfl (fun K hK => ?_) ?_
                      · go_simp
                        refine hK _ _ ?_; clear hK K
                        refine wpAnyIn_ready (rs := [11]) (by kernel_rfl) (by simp) ?_
                        refine AllReadyIn.cons rfl (fun K hK => ?_) ?_
                        · go_simp
                          refine hK _ _ ?_; clear hK K
                          refine wpAnyIn_done (by kernel_rfl) ?_ _
                          exact ⟨HKF.out, HKP.out, HJ.out⟩
                        exact AllReadyIn.nil
                      exact AllReadyIn.nil
                    exact AllReadyIn.nil
                  exact AllReadyIn.nil
                exact AllReadyIn.nil
              exact AllReadyIn.nil
            refine AllReadyIn.cons rfl (fun K hK => ?_) ?_
            · go_simp
              refine hK _ _ ?_; clear hK K
              refine wpAnyIn_take (i := 8) (v := ?_) rfl rfl (by kernel_rfl) (by kernel_rfl) (by kernel_rfl) (fun _ _ _ h => h) ⟨Or.inl ⟨by rfl, ?_⟩, fun _ => rfl⟩ ?_
              rotate_left; (focus (intro w'; go_simp; with_reducible rfl))
              refine wpAnyIn_take (i := 9) (v := ?_) rfl rfl (by kernel_rfl) (by kernel_rfl) (by kernel_rfl) (fun _ _ _ h => h) ⟨Or.inl ⟨by rfl, ?_⟩, fun _ => rfl⟩ ?_
              rotate_left; (focus (intro w'; go_simp; with_reducible rfl))
              refine wpAnyIn_ready (rs := [0, 1]) (by kernel_rfl) (by simp) ?_
              refine AllReadyIn.cons rfl (fun K hK => ?_) ?_
              · go_simp
                refine hK _ _ ?_; clear hK K
                refine wpAnyIn_ready (rs := [1]) (by kernel_rfl) (by simp) ?_
                refine AllReadyIn.cons rfl (fun K hK => ?_) ?_
                · go_simp
                  refine hK _ _ ?_; clear hK K
                  refine wpAnyIn_take (i := 3) (v := ?_) rfl rfl (by kernel_rfl) (by kernel_rfl) (by kernel_rfl) (fun _ _ _ h => h) ⟨Or.inl ⟨by rfl, ?_⟩, fun _ => rfl⟩ ?_
                  rotate_left; (focus (intro w'; go_simp; with_reducible rfl))
                  refine wpAnyIn_ready (rs := [4]) (by kernel_rfl) (by simp) ?_
                  refine AllReadyIn.cons rfl (fun K hK => ?_) ?_
                  · go_simp
                    refine hK _ _ ?_; clear hK K
                    refine wpAnyIn_ready (rs := [5]) (by kernel_rfl) (by simp) ?_
                    refine AllReadyIn.cons rfl (fun K hK => ?_) ?_
                    · rw [if_pos (show Region.wanted _ _ = true from rfl)]; refine wpIn_append_run (.tmp 35) (.tmp 39) 53 rfl rfl rfl happ ?_
                      refine hK _ _ ?_; clear hK K
                      refine wpAnyIn_ready (rs := [10]) (by kernel_rfl) (by simp) ?_
                      refine AllReadyIn.cons rfl (fun K hK => ?_) ?_
                      · go_simp
                        refine hK _ _ ?_; clear hK K
                        refine wpAnyIn_ready (rs := [11]) (by kernel_rfl) (by simp) ?_
                        refine AllReadyIn.cons rfl (fun K hK => ?_) ?_
                        · go_simp
                          refine hK _ _ ?_; clear hK K
                          refine wpAnyIn_done (by kernel_rfl) ?_ _
                          exact ⟨HKF.out, HKP.out, HJ.out⟩
                        exact AllReadyIn.nil
                      exact AllReadyIn.nil
                    exact AllReadyIn.nil
                  exact AllReadyIn.nil
                exact AllReadyIn.nil
              refine AllReadyIn.cons rfl (fun K hK => ?_) ?_
              · go_simp
                refine hK _ _ ?_; clear hK K
                refine wpAnyIn_take (i := 3) (v := ?_) rfl rfl (by kernel_rfl) (by kernel_rfl) (by kernel_rfl) (fun _ _ _ h => h) ⟨Or.inl ⟨by rfl, ?_⟩, fun _ => rfl⟩ ?_
                rotate_left; (focus (intro w'; go_simp; with_reducible rfl))
                refine wpAnyIn_ready (rs := [0, 4]) (by kernel_rfl) (by simp) ?_
                refine AllReadyIn.cons rfl (fun K hK => ?_) ?_
                · go_simp
                  refine hK _ _ ?_; clear hK K
                  refine wpAnyIn_ready (rs := [4]) (by kernel_rfl) (by simp) ?_
                  refine AllReadyIn.cons rfl (fun K hK => ?_) ?_
                  · go_simp
                    refine hK _ _ ?_; clear hK K
                    refine wpAnyIn_ready (rs := [5]) (by kernel_rfl) (by simp) ?_
                    refine AllReadyIn.cons rfl (fun K hK => ?_) ?_
                    · rw [if_pos (show Region.wanted _ _ = true from rfl)]; refine wpIn_append_run (.tmp 35) (.tmp 39) 53 rfl rfl rfl happ ?_
                      refine hK _ _ ?_; clear hK K
                      refine wpAnyIn_ready (rs := [10]) (by kernel_rfl) (by simp) ?_
                      refine AllReadyIn.cons rfl (fun K hK => ?_) ?_
                      · go_simp
                        refine hK _ _ ?_; clear hK K
                        refine wpAnyIn_ready (rs := [11]) (by kernel_rfl) (by simp) ?_
                        refine AllReadyIn.cons rfl (fun K hK => ?_) ?_
                        · go_simp
                          refine hK _ _ ?_; clear hK K
                          refine wpAnyIn_done (by kernel_rfl) ?_ _
                          exact ⟨HKF.out, HKP.out, HJ.out⟩
                        exact AllReadyIn.nil
                      exact AllReadyIn.nil
                    exact AllReadyIn.nil
                  exact AllReadyIn.nil
                refine AllReadyIn.cons rfl (fun K hK => ?_) ?_
                · go_simp
                  refine hK _ _ ?_; clear hK K
                  refine wpAnyIn_ready (rs := [0]) (by kernel_rfl) (by simp) ?_
                  refine AllReadyIn.cons rfl (fun K hK => ?_) ?_
                  · go_simp
                    refine hK _ _ ?_; clear hK K
                    refine wpAnyIn_ready (rs := [5]) (by kernel_rfl) (by simp) ?_
                    refine AllReadyIn.cons rfl (fun K hK => ?_) ?_
                    · rw [if_pos (show Region.wanted _ _ = true from rfl)]; refine wpIn_append_run (.tmp 35) (.tmp 39) 53 rfl rfl rfl happ ?_
                      refine hK _ _ ?_; clear hK K
                      refine wpAnyIn_ready (rs := [10]) (by kernel_rfl) (by simp) ?_
                      refine AllReadyIn.cons rfl (fun K hK => ?_) ?_
                      · go_simp
                        refine hK _ _ ?_; clear hK K
                        refine wpAnyIn_ready (rs := [11]) (by kernel_rfl) (by simp) ?_
                        refine AllReadyIn.cons rfl (fun K hK => ?_) ?_
                        · go_simp
                          refine hK _ _ ?_; clear hK K
                          refine wpAnyIn_done (by kernel_rfl) ?_ _
                          exact ⟨HKF.out, HKP.out, HJ.out⟩
                        exact AllReadyIn.nil
                      exact AllReadyIn.nil
                    exact AllReadyIn.nil
                  exact AllReadyIn.nil
                exact AllReadyIn.nil
              exact AllReadyIn.nil
            exact AllReadyIn.nil
          case done =>
            rintro D ys W hD hys ⟨⟨⟨v, hbo, hrow, _⟩, hbn, _, _⟩, hB⟩ hK
            subst hA
            have hym : ys.length = m := by have := congrArg List.length hys; simpa using this
            rw [hys, hym] at hrow
            have ll : (lv num (List.range m)).1.length = m := by rw [lv_len, List.length_range]
            have h9 := H.out
            have hmx : m ≤ 1000000 := by have := HM.out; have := C2.out; omega
            clear H
            generalize (lv num (List.range m)).1 = ls at hrow ll h9
            have ho : Kd.R (Kd.int .u64) 23 W w.heap.size (fun _ => True) v ls := Kd.R_of_own (by rw [ll]; exact hrow) (fun _ _ => trivial)
            rw [← ll] at hrow
            have LL := Aside0.mk ll
            clear ll
            obtain ⟨A2, c2, rfl, hc2, hC2⟩ := Kd.R_reads ho
            obtain ⟨⟨t1, t2⟩, hS, hH⟩ := Option.bind_eq_some_iff.mp h9
            dsimp only at hH
            have HS := Aside0.mk hS
            have HC2 := Aside0.mk hC2
            have HBO := Aside0.mk hbo
            have HROW := Aside0.mk hrow
            have HK := Aside0.mk hK
            have HBW := Aside0.mk hB
            have HD := Aside0.mk hD
            have hcell := hbo.cell
            obtain ⟨eb, heb⟩ : ∃ eb, bytes_Equal.f t1 l0 = some eb := ⟨_, rfl⟩
            have HEB := Aside0.mk heb
            rw [heb] at hH
            clear hS hC2 hbo hrow hK hB hD heb ho hym hys hbn h9
            by_cases d1 : t2 = 0
            · subst d1
              rw [if_pos rfl] at hH
              cases eb
              · rw [if_neg (by simp)] at hH
                simp only [Option.some.injEq, Prod.mk.injEq] at hH
                obtain ⟨rfl, rfl, rfl⟩ := hH
                gi_wp2
                refine ⟨trivial, callsIn_wide.2 ((image_Set.calls k _ _ _ _ _ _ _ HC2.out hc2 HS.out).mono ?_)⟩
                rintro e w3 ⟨v0, rfl, ho, hb⟩
                have HB3 := Aside0.mk hb
                obtain ⟨A3, c3, rfl, hc3, hC3⟩ := Kd.R_reads ho
                have hsz := HBW.out.size
                have hBf := HBW.out.trans (HB3.out.mono hsz)
                have HBF := Aside0.mk hBf
                have HC3 := Aside0.mk hC3
                have HCB := Aside0.mk (Kd.C_below HR0.out hBf)
                clear hb ho hcell hC3 hsz hBf
                dsimp only
                gi_wp2
                refine ⟨trivial, callsIn_wide.2 ((bytes_Equal.calls _ _ _ _ _ _ _ _ HC3.out hc3 HCB.out (by have := HC0.out; omega) HEB.out).mono ?_)⟩
                rintro e w4 ⟨rfl, nd, rfl⟩
                have hbo3 : Boxed (w3.drewN nd) w.heap.size 53 _ := blk_below HBO.out (pw_below_drewN HB3.out nd)
                have hc4 := hbo3.cell
                have hf4 := hbo3.frozen
                have hk3 : (w3.drewN nd).heap[D]? = some (.deferred (some [])) := blk_below HK.out (pw_below_drewN HB3.out nd)
                have HK3 := Aside0.mk hk3
                have HBO3 := Aside0.mk hbo3
                clear hk3 hbo3
                dsimp only
                gi_wp2
                exact lv_leave w (setCell_kept _ HBO3.out HK3.out rfl) (HBO3.out.set _) (World.ownsRow_nil _ _ _ _) ((pw_below_drewN HBF.out nd).setCell (p := ⟨w.heap.size, 0, none⟩) (Nat.le_refl _) _) (by have := HZ1.out; have := HZ3.out; have := HD.out; omega) rfl rfl rfl
              · rw [if_pos rfl] at hH
                simp only [Option.some.injEq, Prod.mk.injEq] at hH
                obtain ⟨rfl, rfl, rfl⟩ := hH
                gi_wp2
                refine ⟨trivial, callsIn_wide.2 ((image_Set.calls k _ _ _ _ _ _ _ HC2.out hc2 HS.out).mono ?_)⟩
                rintro e w3 ⟨v0, rfl, ho, hb⟩
                have HB3 := Aside0.mk hb
                obtain ⟨A3, c3, rfl, hc3, hC3⟩ := Kd.R_reads ho
                have hsz := HBW.out.size
                have hBf := HBW.out.trans (HB3.out.mono hsz)
                have HBF := Aside0.mk hBf
                have HC3 := Aside0.mk hC3
                have HCB := Aside0.mk (Kd.C_below HR0.out hBf)
                clear hb ho hcell hC3 hsz hBf
                dsimp only
                gi_wp2
                refine ⟨trivial, callsIn_wide.2 ((bytes_Equal.calls _ _ _ _ _ _ _ _ HC3.out hc3 HCB.out (by have := HC0.out; omega) HEB.out).mono ?_)⟩
                rintro e w4 ⟨rfl, nd, rfl⟩
                have hbo3 : Boxed (w3.drewN nd) w.heap.size 53 _ := blk_below HBO.out (pw_below_drewN HB3.out nd)
                have hc4 := hbo3.cell
                have hf4 := hbo3.frozen
                have hk3 : (w3.drewN nd).heap[D]? = some (.deferred (some [])) := blk_below HK.out (pw_below_drewN HB3.out nd)
                have HK3 := Aside0.mk hk3
                have HBO3 := Aside0.mk hbo3
                clear hk3 hbo3
                dsimp only
                gi_wp2
                generalize hW4 : w3.drewN nd = W4 at *
                have hbf4 : Below w.heap.size w W4 := by rw [← hW4]; exact pw_below_drewN HBF.out nd
                have HBF4 := Aside0.mk hbf4
                have hrow4 : W4.ownsRow w.heap.size 23 1 _ _ _ := row_below HROW.out (by rw [← hW4]; exact pw_below_drewN HB3.out nd)
                have HROW4 := Aside0.mk hrow4
                clear hrow4 hbf4
                clear hW4
                gi_region
                gi_wp2
                exact lv_leave w (setCell_kept _ HBO3.out HK3.out rfl) (HBO3.out.set _) (row_below (W := W4.setCell ⟨w.heap.size, 0, none⟩ _) (HROW4.out.kept (grownBy_setCell' W4 w.heap.size _) (.inr (HBO3.out.not_row (by decide) HROW4.out).symm)) (below_drew1 (Below.refl _ _))) (below_drew1 (HBF4.out.setCell (p := ⟨w.heap.size, 0, none⟩) (Nat.le_refl _) _)) (by have := HZ1.out; have := HZ3.out; have := HD.out; omega) rfl rfl rfl
            · rw [if_neg d1] at hH
              simp only [Option.some.injEq, Prod.mk.injEq] at hH
              obtain ⟨rfl, rfl, rfl⟩ := hH
              have d2 : (t2 != 0) = true := by simpa using d1
              gi_wp2
              refine ⟨trivial, callsIn_wide.2 ((image_Set.calls k _ _ _ _ _ _ _ HC2.out hc2 HS.out).mono ?_)⟩
              rintro e w3 ⟨v0, rfl, ho, hb⟩
              have HB3 := Aside0.mk hb
              have hbo3 : Boxed w3 w.heap.size 53 _ := blk_below HBO.out hb
              have hc3 := hbo3.cell
              have hf3 := hbo3.frozen
              clear hb ho hcell
              dsimp only
              gi_wp2
              refine ⟨trivial, ?_⟩
              gi_wp2
              have hsz := HBW.out.size
              have hBf := HBW.out.trans (HB3.out.mono hsz)
              exact lv_leave w (setCell_kept _ hbo3 (blk_below HK.out HB3.out) rfl) (hbo3.set _) (World.ownsRow_nil _ _ _ _) (hBf.setCell (p := ⟨w.heap.size, 0, none⟩) (Nat.le_refl _) _) (by have := HZ1.out; have := HZ3.out; have := HD.out; omega) rfl rfl rfl
      · rw [if_neg ca] at h; cases h
end
theorem lv_congr (f g : Nat → Int) (xs : List Nat) (h : ∀ x ∈ xs, f x = g x) : lv f xs = lv g xs := by
  unfold lv
  generalize (([], 0) : List Int × Int) = s
  induction xs generalizing s with
  | nil => rfl
  | cons x l ih =>
    rw [List.foldl_cons, List.foldl_cons, show lv_step f s x = lv_step g s x by unfold lv_step; rw [h x List.mem_cons_self]]
    exact ih (fun y hy => h y (List.mem_cons_of_mem _ hy)) _
theorem image_Leaves.mono : ∀ a0 k, LeO (image_Leaves.f k a0) (image_Leaves.f (k + 1) a0) := by
  intro l0 k r h
  unfold image_Leaves.f at h ⊢
  by_cases c2 : (l0.length : Int) > 65536
  · rw [if_pos c2] at h ⊢; exact h
  rw [if_neg c2] at h ⊢
  by_cases c3 : l0.length < 7 ∨ (l0.length - 7) % 8 ≠ 0
  · rw [if_pos c3] at h ⊢; exact h
  rw [if_neg c3] at h ⊢
  generalize (l0.length - 7) / 8 = m at h ⊢
  by_cases ca : ((List.range m).all fun x => (image_number.f k (chunk8 l0 x)).isSome) = true
  · rw [if_pos ca] at h
    have e : ∀ x ∈ List.range m, image_number.f (k + 1) (chunk8 l0 x) = image_number.f k (chunk8 l0 x) := fun x hx => by
      obtain ⟨y, hy⟩ := Option.isSome_iff_exists.1 (List.all_eq_true.1 ca x hx)
      rw [hy]; exact image_number.mono _ _ _ hy
    have ca' : ((List.range m).all fun x => (image_number.f (k + 1) (chunk8 l0 x)).isSome) = true := List.all_eq_true.2 fun x hx => by
      rw [e x hx]; exact List.all_eq_true.1 ca x hx
    have el : lv (fun x => (image_number.f (k + 1) (chunk8 l0 x)).getD 0) (List.range m) = lv (fun x => (image_number.f k (chunk8 l0 x)).getD 0) (List.range m) := lv_congr _ _ _ fun x hx => by rw [e x hx]
    rw [if_pos ca', el]
    obtain ⟨q, hq, h⟩ := Option.bind_eq_some_iff.mp h
    exact Option.bind_eq_some_iff.mpr ⟨q, image_Set.mono _ _ _ _ hq, h⟩
  · rw [if_neg ca] at h; cases h

end Go.Proofs.Ytoljdfgkkkpnbaa.MP
