-- written by a program of this session (wip/tools/mprint.sh) for this seat
import Derived.Test.YtoljdfgkkkpnbaaMPx0
import Derived.Test.YtoljdfgkkkpnbaaMPx1
import Derived.Test.YtoljdfgkkkpnbaaMPx3
import Derived.Test.YtoljdfgkkkpnbaaMPx4
import Derived.RangeFuncNested
import Derived.RangeFuncBound
import Derived.RangeFuncCalls
import Derived.RangeFuncLeaves
import Derived.Shelf.Abstract
import Derived.OwnWalkIn
import Derived.TacticsInMore
import Derived.LoopNIn
import Derived.LoopIn
import Derived.Maps.AppendAt
import Derived.RegionIn
import Derived.Sort.CutIn
import Derived.Lib.SliceRun
import Derived.WalkMore
import Derived.Deep.RegionHeld3
namespace Go.Proofs.Ytoljdfgkkkpnbaa.MP
open Go.RowKit Go.Proofs.YtoljdfgkkkpnbaaW.PrintWords Go.Proofs.YtoljdfgkkkpnbaaW.PrintLast Go.Proofs.YtoljdfgkkkpnbaaW.PrintMore
open Option (bind_eq_some_iff some.injEq)
open _root_.Go.Proofs.Try
open List (setIfInBounds_toArray set_cons_zero set_cons_succ map_toArray map_cons map_nil length_drop length_take)
attribute [local go_sem] max2_int min2_int max_two min_two max_three min_three max_four min_four
set_option linter.unusedVariables false
set_option linter.unusedSimpArgs false
attribute [local go_sem high] eqA65
section
open Go.Shelf
attribute [local go_sem] Oper.semAt_some
theorem s6_Chunk.calls (A : Option Addr) (n c : Nat) (w : World) : Calls Try.prog 69 #[.slice A n c, .int .i64 16] w fun e w' => e = .returned (.func (.func 110) #[] #[.pointer (some ⟨w.heap.size, 0, none⟩), .pointer (some ⟨w.heap.size + 1, 0, none⟩)]) ∧ w' = (w.alloc (.cells #[.slice A n c] 35)).alloc (.cells #[.int .i64 16] 3) := by
  have hmf : ∀ (fn : Fn) (first cap : Array Value) (w : World), (Instr.makeFunc fn first cap).run Try.prog w = .ok (.func fn first cap) w := fun _ _ _ _ => rfl
  have hb := blk_new (w.alloc (.cells #[.slice A n c] 35)) (.cells #[.int .i64 16] 3)
  have hz : (w.alloc (.cells #[.slice A n c] 35)).heap.size = w.heap.size + 1 := by simp
  rw [hz] at hb
  have y0 := (kc_ hb 0).trans rfl
  go_enter func69, ntmps69
  go_wp2
  go_ret
  exact ⟨by simp, rfl⟩
def Kp6 (B b1 b2 : Nat) (X Y : World) : Prop := Below B X Y ∧ ∀ b, (b = b1 ∨ b = b2) → ∀ o, X.heap[b]? = some o → o.isCells = true → Y.heap[b]? = some o
theorem Kp6.trans {B b1 b2 : Nat} {X Y Z : World} (h : Kp6 B b1 b2 X Y) (k : Kp6 B b1 b2 Y Z) : Kp6 B b1 b2 X Z := ⟨h.1.trans k.1, fun b hb o ho hc => k.2 b hb o (h.2 b hb o ho hc) hc⟩
theorem Kp6.refl (B b1 b2 : Nat) (X : World) : Kp6 B b1 b2 X X := ⟨Below.refl _ _, fun _ _ _ h _ => h⟩
theorem Kp6.of_below {B b1 b2 : Nat} {X Y : World} (hB : B ≤ X.heap.size) (h : Below X.heap.size X Y) : Kp6 B b1 b2 X Y := ⟨h.mono hB, fun b _ o ho _ => kb_ ho h⟩
set_option maxRecDepth 100000 in
set_option maxHeartbeats 4000000 in
theorem s6_chunk1_in (n : Nat) (hn : 1 ≤ n) (l Bs Bn : Nat) (ad : Addr) (m c : Nat) (hm : 16 * m ≤ 1000000) (hc : 16 * m ≤ c) (B : Nat) (J Jx : List (Fin m) → World → Prop)
   (W : World) (hJa : AbidesFrom W.heap.size J)
   (hY : ∀ pre x W, J pre W → pre.length < m → YieldAt Fence.wide (n - 1) Try.prog l #[.slice (some (ad.add (16 * x.val))) 16 16] W fun e W' =>
    (e = .returned (.bool true) ∧ J (pre ++ [x]) W' ∧ Kp6 B Bs Bn W W') ∨ (e = .returned (.bool false) ∧ Jx (pre ++ [x]) W'))
   (hB : B ≤ W.heap.size) (hBs : W.heap[Bs]? = some (.cells #[.slice (some ad) (16 * m) c] 35 (0, 0))) (hBn : W.heap[Bn]? = some (.cells #[.int .i64 16] 3 (0, 0))) (h0 : J [] W) :
   CallsIn Fence.wide n Try.prog 110 #[.func (.yield l) #[] #[], .pointer (some ⟨Bs, 0, none⟩), .pointer (some ⟨Bn, 0, none⟩)] W fun e W' => (∃ v, e = .returned v) ∧ ((∃ ys, ys.map Fin.val = List.range m ∧ J ys W') ∨ (∃ pre, True ∧ Jx pre W')) := by
  refine callsIn_of_wp func110 rfl trivial ?_ rfl
  simp only [ntmps110, List.size_toArray, List.length_cons, List.length_nil, Nat.reduceAdd, Nat.reduceSub, Array.replicate_succ, Array.replicate_zero, List.push_toArray, List.append_toArray, List.nil_append, List.cons_append]
  gi_wp2
  gi_loopw [4] (fun i wr => ∃ (k : Nat), k ≤ m ∧ i = .int .i64 (16 * k : Nat) ∧ (∃ pre : List (Fin m), pre.map Fin.val = List.range k ∧ J pre wr) ∧ Kp6 B Bs Bn W wr)
   (fun i _ => 16 * m - (intOf i).toNat)
  case atStart => exact ⟨0, Nat.zero_le _, rfl, ⟨[], rfl, h0⟩, Kp6.refl _ _ _ _⟩
  case round =>
   obtain ⟨k, hk, rfl, ⟨pre, hpre, hJ⟩, hBr⟩ := hrel
   have b1 := hBr.2 Bs (.inl rfl) _ hBs rfl
   have b2 := hBr.2 Bn (.inr rfl) _ hBn rfl
   have y1 : wr.cell? ⟨Bs, 0, none⟩ = some (.slice (some ad) (16 * m) c) := (kc_ b1 0).trans rfl
   have y2 : wr.cell? ⟨Bn, 0, none⟩ = some (.int .i64 16) := (kc_ b2 0).trans rfl
   have HBr := ak_ hBr
   by_cases hlt : k < m
   ·have hkd : decide (((16 * k : Nat) : Int) < ((16 * m : Nat) : Int)) = true := decide_eq_true (by omega)
    gi_wp2
    gi_region
    have hJ2 : J pre wr.drew := hJa _ _ _ none hJ ⟨rfl, rfl, rfl, Nat.le_refl _, fun _ _ _ => rfl⟩ (fun r e => by cases e)
    obtain ⟨fn, tmps, assign, body, hy, hRn⟩ := hY pre ⟨k, hlt⟩ _ hJ2 (by have := congrArg List.length hpre; simp only [List.length_map, List.length_range] at this; omega)
    (try dsimp only at hy)
    obtain ⟨q, hq⟩ : ∃ q, q = 16 * k := ⟨_, rfl⟩
    have e1 : q + 16 ≤ c := by omega
    have e2 : q ≤ 1000000 := by omega
    rw [← hq] at hy hkd ⊢
    have HQ := ak_ hq
    clear hq
    gi_wp2
    refine hRn.mono ?_
    rintro e W3 (⟨rfl, hJ3, hk3⟩ | ⟨rfl, hJx3⟩)
    ·have c1 := hk3.2 Bn (.inr rfl) _ b2 rfl
     have c1c : W3.cell? ⟨Bn, 0, none⟩ = some (.int .i64 16) := (kc_ c1 0).trans rfl
     clear c1
     gi_wp2
     go_roundw
     case rel => exact ⟨k + 1, by omega, by have := HQ.out; simp only [Value.int.injEq, true_and]; omega, ⟨_, by rw [List.map_append, hpre, List.range_succ]; rfl, hJ3⟩, HBr.out.trans ((Kp6.of_below (Y := wr.drew) (Nat.le_trans hB HBr.out.1.size) (bd_ (Below.refl _ _))).trans hk3)⟩
     case measure => have := HQ.out; simp [intOf]; omega
    ·gi_wp2
     refine bodyPost_ret (results_none rfl _ _ _) rfl ?_
     exact ⟨⟨_, rfl⟩, .inr ⟨_, trivial, hJx3⟩⟩
   ·obtain rfl : k = m := by omega
    have hkd : decide (((16 * k : Nat) : Int) < ((16 * k : Nat) : Int)) = false := decide_eq_false (by omega)
    gi_wp2
    go_end0
    exact ⟨⟨_, rfl⟩, .inl ⟨_, hpre, hJ⟩⟩
end
theorem k6_putObj {B b1 b2 : Nat} {n0 : Nat} (hn : B ≤ n0) (W : World) (l : Nat) (o o' : Obj) (hl : n0 ≤ l) (h : W.heap[l]? = some o) (hc : o.isCells = false) (hw : o.isWalk = false) : Kp6 B b1 b2 W (W.putObj l o') := by
  refine ⟨(Below.refl B W).grown (grownBy_putObj' W l o') (by have := (Array.getElem?_eq_some_iff.1 h).1; omega) (fun k e => by cases e; omega), fun b _ ob hob hcb => ?_⟩
  rw [World.putObj_heap_other (fun e => by subst e; rw [h] at hob; cases hob; rw [hc] at hcb; cases hcb)]
  exact hob
theorem k6_low {B b1 b2 : Nat} {X Y : World} (h : Below B X Y) (h1 : b1 < B) (h2 : b2 < B) : Kp6 B b1 b2 X Y :=
  ⟨h, fun b hb o ho _ => by rcases hb with rfl | rfl; exact (h.block _ h1).trans ho; exact (h.block _ h2).trans ho⟩
def pc6 (ad : Addr) (k : Nat) : Value := .slice (some (ad.add (16 * k))) 16 16
def App6 (w : World) (B : Nat) (ad : Addr) (m : Nat) (pre : List (Fin m)) (W : World) : Prop := (∃ v, Boxed W B 111 v ∧ W.ownsRow w.heap.size 35 1 v pre.length (pre.map fun x => pc6 ad x.val) ∧ True) ∧ Below w.heap.size w W
theorem app6_own (w : World) (B : Nat) (ad : Addr) (m : Nat) (B0 : Nat) (h : w.heap.size ≤ B0) : OwnFrom B0 (App6 w B ad m) :=
  OwnFrom.and (Own.from (fun s X Y row hs hg hr => holdsRow_own w.heap.size B 111 35 1 (fun pre : List (Fin m) => pre.length) (fun pre => pre.map fun x => pc6 ad x.val) (fun _ _ => True) s X Y row hs hg hr) _) (ownFrom_below (Nat.le_refl _) h)
theorem one_new6 (W : World) (a : Value) (ty : TypeId) : ∀ j u, [a][j]? = some u → (W.alloc (.cells #[a] ty)).cell? ((⟨W.heap.size, 0, none⟩ : Addr).add j) = some u := by
  intro j u hj
  rw [add_plain]
  match j with
  | 0 => simp at hj; subst hj; simp
  | j + 1 => simp at hj
theorem info_p6 : (Try.prog.info? 35).map (fun i => (i.zero, i.size, i.bytes)) = some (some (.slice none 0 0), 1, 24) := by kernel_rfl
section
open Go.Shelf
attribute [local go_sem] Oper.semAt_some
set_option maxHeartbeats 8000000 in
set_option maxRecDepth 100000 in
theorem s6_AppendSeq.calls (Bs Bn : Nat) (ad : Addr) (m c : Nat) (hm : 16 * m ≤ 1000000) (hc : 16 * m ≤ c) (w : World) (hBs : w.heap[Bs]? = some (.cells #[.slice (some ad) (16 * m) c] 35 (0, 0))) (hBn : w.heap[Bn]? = some (.cells #[.int .i64 16] 3 (0, 0))) :
   Calls Try.prog 113 #[.slice none 0 0, .func (.func 110) #[] #[.pointer (some ⟨Bs, 0, none⟩), .pointer (some ⟨Bn, 0, none⟩)]] w fun e w' => ∃ v0_ : Value, e = .returned v0_ ∧ w'.ownsRow w.heap.size 35 1 v0_ m ((List.range m).map (pc6 ad)) ∧ Below w.heap.size w w' := by
  have HM := ak_ hm
  have HC := ak_ hc
  have HBS := ak_ hBs
  have HBN := ak_ hBn
  have hlt1 : Bs < w.heap.size := blk_lt hBs
  have hlt2 : Bn < w.heap.size := blk_lt hBn
  clear hm hc hBs hBn
  refine (callsIn_wide (n := 5)).1 ?_
  refine callsIn_of_wp_marks func113 rfl trivial ?_ rfl
  simp only [ntmps113, List.size_toArray, List.length_cons, List.length_nil, Nat.reduceAdd, Nat.reduceSub, Array.replicate_succ, Array.replicate_zero, List.push_toArray, List.append_toArray, List.nil_append, List.cons_append]
  have bO := Boxed.new w 111 (.slice none 0 0)
  have hb2 : Below w.heap.size w (w.alloc (.cells #[.slice none 0 0] 111)) := ba_ (Below.refl _ _) _
  obtain ⟨W0, hW0⟩ : ∃ W0, w.alloc (.cells #[.slice none 0 0] 111) = W0 := ⟨_, rfl⟩
  have hz0 : W0.heap.size = w.heap.size + 1 := by rw [← hW0]; simp
  gi_wp2
  rw [hW0] at bO hb2
  have HB3 := ak_ hb2
  have hs0 := ak_ (kb_ HBS.out hb2)
  have hn0 := ak_ (kb_ HBN.out hb2)
  clear hb2
  refine wpIn_rangeFunc_ownH (α := Fin m) (encs := fun x => #[(.slice (some (ad.add (16 * x.val))) 16 16)]) (Kp := Kp6 w.heap.size Bs Bn)
   (S := fun ys => ys.map Fin.val = List.range m) (Sp := fun _ => True) (N := m) (w0 := W0) rfl (by omega) (gf := 110) (lb := #[.pointer (some ⟨Bs, 0, none⟩), .pointer (some ⟨Bn, 0, none⟩)]) rfl trivial (enters_of func110 (by kernel_rfl) rfl)
   (fun l J Jx W hW hJa _ hY h0 => s6_chunk1_in (5 - 1) (by omega) l Bs Bn ad m c HM.out HC.out w.heap.size J Jx W hJa hY (by have := hW.size; omega) (kb_ hs0.out hW) (kb_ hn0.out hW) h0)
   (fun h1 h2 => h1.trans h2)
   (fun W l o o' h1 h2 h3 h4 => k6_putObj (n0 := W0.heap.size) (by omega) W l o o' h1 h2 h3 h4)
   (Below.refl _ _) (fun _ => rfl)
   (App6 w w.heap.size ad m)
   (fun _ _ _ => False)
   (app6_own w _ _ _ _ (by omega))
   (fun _ _ _ _ _ hs _ _ => hs)
   ⟨⟨_, bO, World.ownsRow_nil _ _ _ _, trivial⟩, HB3.out⟩
   (fun x a' W => a' = { tmps := #[.slice none 0 0, .func (.func 110) #[] #[.pointer (some ⟨Bs, 0, none⟩), .pointer (some ⟨Bn, 0, none⟩)], .pointer (some ⟨w.heap.size, 0, none⟩), undef, .slice none 0 0, (.slice (some (ad.add (16 * x.val))) 16 16), .func (.func 110) #[] #[.pointer (some ⟨Bs, 0, none⟩), .pointer (some ⟨Bn, 0, none⟩)], (.slice (some (ad.add (16 * x.val))) 16 16), undef, undef, undef, undef, undef], defers := [] })
   ?hAx ?assign ?body ?done ?stop
  case hAx => exact fun x a' _ X Y row h _ _ => h
  case stop =>
   rintro D c pre W hD _ h _
   exact h.elim
  case assign =>
   intro l pre x W K hI hK
   gi_wp2
   exact hK _ _ ((KeepsOthers.refl _).from _) (Kp6.refl _ _ _ _) hI rfl
  case body =>
   rintro l pre x a' W hl ⟨r, hr⟩ ⟨⟨v, hbo, hrow, _⟩, hB⟩ rfl hltN
   obtain ⟨i0, hi0, hz0_, hz1_, hz2_⟩ := info_parts info_p6
   have hlen := HM.out
   have hbc := hbo.cell
   have HBO := ak_ hbo
   have HROW := ak_ hrow
   have HB := ak_ hB
   clear hbo hB
   gi_wp2_with (gi_at_builtin; refine wpListIn_append_own _ rfl _ _ 111 rfl w.heap.size 35 i0 (.slice none 0 0) 1 24 underlying111 hi0 hz0_ hz1_ hz2_ rfl (by decide) _ _ _ rfl (hrow.alloc _) ⟨W.heap.size, 0, none⟩ 1 1 [(.slice (some (ad.add (16 * x.val))) 16 16)] rfl rfl (one_new6 _ _ _) (by simp [Value.oneCell']) (by unfold maxLen; omega) (by omega) (by have := HB.out.size; simp; omega) ?_; intro v' w1' hown' hgrow _; obtain ⟨g', cap', rfl⟩ := ownsRow_succ hown'; obtain ⟨hv1, hv2, hr2, hk2, hb2⟩ := HBO.out.appended (by decide) HROW.out HB.out.size (by omega) hown' hgrow; have hc1 := hv1.cell; have hf1 := hv1.frozen)
   exact ⟨hk2.from _, k6_low hb2 hlt1 hlt2, ⟨_, hv2, by simpa [List.map_append, pc6] using hr2, trivial⟩, HB.out.trans hb2⟩
  case done =>
   rintro D ys W hD hys ⟨⟨v, hbo, hrow, _⟩, hB⟩ hK
   have hbc := hbo.cell
   gi_wp2
   refine ⟨by simp, .inl ⟨_, _, rfl, run_takeDeferred hK, ?_⟩⟩
   have hl : ys.length = m := by have := congrArg List.length hys; simpa using this
   have hmap : (ys.map fun x => pc6 ad x.val) = (List.range m).map (pc6 ad) := by rw [← hys, List.map_map]; rfl
   rw [hl, hmap] at hrow
   exact ⟨_, results_tmp rfl _ _ _, v, rfl, ownsRow_putObj hrow _ hK rfl, hB.trans (k6_putObj (b1 := Bs) (b2 := Bn) (n0 := W0.heap.size) (by omega) W D _ _ hD hK rfl rfl).1⟩
end
set_option maxHeartbeats 4000000 in
set_option maxRecDepth 100000 in
theorem s6_Collect.calls (Bs Bn : Nat) (ad : Addr) (m c : Nat) (hm : 16 * m ≤ 1000000) (hc : 16 * m ≤ c) (w : World) (hBs : w.heap[Bs]? = some (.cells #[.slice (some ad) (16 * m) c] 35 (0, 0))) (hBn : w.heap[Bn]? = some (.cells #[.int .i64 16] 3 (0, 0))) :
   Calls Try.prog 78 #[.func (.func 110) #[] #[.pointer (some ⟨Bs, 0, none⟩), .pointer (some ⟨Bn, 0, none⟩)]] w fun e w' => ∃ v0_ : Value, e = .returned v0_ ∧ w'.ownsRow w.heap.size 35 1 v0_ m ((List.range m).map (pc6 ad)) ∧ Below w.heap.size w w' := by
  have AS := ak_ (fun (W : World) (h1 : W.heap = w.heap) => s6_AppendSeq.calls Bs Bn ad m c hm hc W (by rw [h1]; exact hBs) (by rw [h1]; exact hBn))
  clear hm hc hBs hBn
  go_enter func78, ntmps78
  go_wp2_with (go_at_call 113; refine (AS.out _ rfl).mono ?_; rintro e w' ⟨v0, rfl, ho, hb⟩; have HO := ak_ ho; have HB := ak_ hb; clear ho hb)
  go_ret
  exact ⟨_, rfl, HO.out, HB.out⟩
theorem r6_some {P : Program} {t e : TypeId} {kl : IntKind} {i : TypeInfo} (ht : P.underlying t = some (.slice e)) (hi : P.info? e = some i) (hsz : i.size = 1) {ad : Addr} {n c n' c' : Nat} {j : Int} {A' : Option Addr} {w : World} (h0 : 0 ≤ j) (hm : j ≤ n) (h : (Instr.slice t (.slice (some ad) n c) (some (.int kl j)) none none).run P w = .ok (.slice A' n' c') w) : ∃ ad', A' = some ad' := by
  have hel : P.elem t = e := by simp [Program.elem, ht]
  have hu : P.underlying t = some (.slice (P.elem t)) := by rw [hel]; exact ht
  rw [run_slice_l w t (some ad) n c hu kl j h0 hm, hel] at h
  simp [sizeOf, typeInfo, hi, hsz, sliced, Result.andThen] at h
  obtain ⟨h, _⟩ := h
  split at h
  ·exact ⟨_, h.symm⟩
  ·exact ⟨_, h.symm⟩
theorem r6_two {B : Nat} {w wx W : World} {a b : Obj} (hB : Below B w wx) (hBs : B ≤ wx.heap.size) (hW : W = (wx.alloc a).alloc b) : W.heap[wx.heap.size]? = some a ∧ W.heap[wx.heap.size + 1]? = some b ∧ Below B w W ∧ Below wx.heap.size wx W := by
  subst hW
  have h1 := blk_new wx a
  have h2 := blk_new (wx.alloc a) b
  rw [show (wx.alloc a).heap.size = wx.heap.size + 1 by simp] at h2
  have h3 : Below wx.heap.size wx ((wx.alloc a).alloc b) := ba_ (ba_ (Below.refl _ _) _) _
  exact ⟨ka_ h1 b, h2, hB.trans (h3.mono hBs), h3⟩
theorem r6_row {W : World} {B m : Nat} {v : Value} {ad : Addr} (h : W.ownsRow B 35 1 v m ((List.range m).map (pc6 ad))) : ∃ A c, v = .slice A m c ∧ ReadsOf (pc6 ad) 0 W A m (List.range m) := own_reads_of (enc := pc6 ad) h
theorem r6_at {W : World} {A : Option Addr} {m : Nat} {ad : Addr} (h : ReadsOf (pc6 ad) 0 W A m (List.range m)) (x : Int) (h0 : 0 ≤ x) (h1 : x < (m : Int)) : ∃ a, A = some a ∧ W.cell? (a.add x.toNat) = some (.slice (some (ad.add (16 * x.toNat))) 16 16) := by
  obtain ⟨a, e, hc⟩ := h.at_ x h0 h1
  refine ⟨a, e, hc.trans ?_⟩
  have hx : x.toNat < m := by omega
  simp [rdOf, pc6, List.getD, List.getElem?_range hx]
theorem r6_len {l : List Int} {n : Nat} (h1 : (l.length : Int) ≤ 65536) (h2 : 11 ≤ (l.length : Int)) (h : (l.length : Int) = wrap64 (11 + wrap64 (16 * (n : Int)))) : ∃ m, l.length = 11 + 16 * m ∧ (l.drop 11).length = 16 * m ∧ m ≤ 4096 ∧ wrap64 (((l.drop 11).length : Int) / 16) = (m : Int) := by
  refine ⟨(l.length - 11) / 16, ?_, ?_, ?_, ?_⟩
  all_goals ((try simp only [List.length_drop]); unfold wrap64 at *; omega)
theorem r6_piece {W : World} {ad : Addr} {l : List Int} {m c : Nat} {x a b : Int} (h : Kd.C (Kd.int .u8) W (some ad) (l.drop 11).length (l.drop 11)) (hl : (l.drop 11).length = 16 * m) (hc : 16 * m ≤ c) (hx : 0 ≤ x) (hm : x < (m : Int)) (hM : m ≤ 4096) (ha : wrap64 (11 + wrap64 (16 * x)) = a) (hb : wrap64 (27 + wrap64 (16 * x)) = b) :
   Kd.C (Kd.int .u8) W (some (ad.add (16 * x.toNat))) ((l.take b.toNat).drop a.toNat).length ((l.take b.toNat).drop a.toNat) ∧ ((l.take b.toNat).drop a.toNat).length = 16 ∧ 0 ≤ wrap64 (x + 1) := by
  have ea : a.toNat = 11 + 16 * x.toNat := by subst ha; unfold wrap64; omega
  have eb : b.toNat = 27 + 16 * x.toNat := by subst hb; unfold wrap64; omega
  have hlen : l.length = 11 + 16 * m ∨ m = 0 := by rw [List.length_drop] at hl; omega
  have hp : (l.take b.toNat).drop a.toNat = ((l.drop 11).take (16 * x.toNat + 16)).drop (16 * x.toNat) := by
   rw [ea, eb, List.take_drop, List.drop_drop, show 27 + 16 * x.toNat = 11 + (16 * x.toNat + 16) by omega]
  have h2 := Kd.C_mid (lo := 16 * x.toNat) (hi := 16 * x.toNat + 16) (c := c) h (by omega) (by omega) (by omega)
  rw [if_neg (by omega), show 16 * x.toNat * (Kd.int .u8).sz = 16 * x.toNat from Nat.mul_one _] at h2
  rw [hp]
  refine ⟨h2, ?_, by unfold wrap64; omega⟩
  rw [List.length_drop, List.length_take]; omega
def bA5 (k n : Nat) : Array Bool := (Array.range n).map fun i => decide (i < k)
mutual
def image_Read.j0 : Nat → List Int → Int → Int → Int → List (S65) → List (S39) → Bool → Option (Int × Int × Int × (List (S65)) × Int)
  | 0, _, _, _, _, _, _, _ => none
  | k + 1, x0, x2, x3, x4, x5, x7, x54 => if x54 = true then (some (0, 0, 0, ([] : List (S65)), 2)) else (if 11 ≤ (x0.length : Int) then (image_Read.l0 k x0 x2 x3 x4 x5 x7 (wrap64 (((x0.drop 11).length : Int) / 16)) 0) else (none))
def image_Read.l0 : Nat → List Int → Int → Int → Int → List (S65) → List (S39) → Int → Int → Option (Int × Int × Int × (List (S65)) × Int)
  | 0, _, _, _, _, _, _, _, _ => none
  | k + 1, x0, x2, x3, x4, x5, x7, x59, x60 => if x60 < x59 then (if 0 ≤ (wrap64 (11 + (wrap64 (16 * x60)))) then (if (wrap64 (11 + (wrap64 (16 * x60)))) ≤ (wrap64 (27 + (wrap64 (16 * x60)))) then (if (wrap64 (27 + (wrap64 (16 * x60)))) ≤ (x0.length : Int) then ((mix_Of.f k ((x0.take ((wrap64 (27 + (wrap64 (16 * x60)))) : Int).toNat).drop ((wrap64 (11 + (wrap64 (16 * x60)))) : Int).toNat)).bind fun bt250 => (if bt250.2.2 = 0 then (if 0 ≤ x60 then (if x60 < (x7.length : Int) then (if x5.length < 1759218604441 then (image_Read.l0 k x0 x2 x3 x4 (x5 ++ [(⟨(⟨(rd_T39 x7 x60).f0, (rd_T39 x7 x60).f1⟩ : S39), (⟨false, false, (⟨bt250.1, bt250.2.1⟩ : S25), (⟨(⟨0, 0⟩ : S25), (⟨0, 0⟩ : S25)⟩ : S27), 0⟩ : S29)⟩ : S65)]) x7 x59 (wrap64 (x60 + 1))) else (none)) else (none)) else (none)) else (some (0, 0, 0, ([] : List (S65)), bt250.2.2)))) else (none)) else (none)) else (none)) else (some (x2, x3, x4, x5, 0))
end
def image_Read.f (k : Nat) (l0 : List Int) : Option (Int × Int × Int × (List (S65)) × Int) := if (l0.length : Int) > 65536 then (some (0, 0, 0, ([] : List (S65)), 3)) else (if (l0.length : Int) < 11 then (some (0, 0, 0, ([] : List (S65)), 2)) else (if 0 < (l0.length : Int) then (if (rd l0 0) = 1 then (if 1 < (l0.length : Int) then (if 2 < (l0.length : Int) then (if 3 ≤ 11 then (if 11 ≤ (l0.length : Int) then ((image_number.f k ((l0.take 11).drop 3)).bind fun t243 => ((store_Pairs.f k (wrap64 (rd l0 2)) (wrap64 (rd l0 1)) t243).bind fun bt244 => (if bt244.2 = 0 then (image_Read.j0 k l0 (wrap64 (rd l0 2)) (wrap64 (rd l0 1)) t243 ([] : List (S65)) bt244.1 ((l0.length : Int) != (wrap64 (11 + (wrap64 (16 * (bt244.1.length : Int))))))) else (image_Read.j0 k l0 (wrap64 (rd l0 2)) (wrap64 (rd l0 1)) t243 ([] : List (S65)) bt244.1 true)))) else (none)) else (none)) else (none)) else (none)) else (some (0, 0, 0, ([] : List (S65)), 2))) else (none)))
theorem image_Read.mono_l : ∀ k, (∀ y0 y1 y2 y3 y4 y5 y6, LeO (image_Read.j0 k y0 y1 y2 y3 y4 y5 y6) (image_Read.j0 (k + 1) y0 y1 y2 y3 y4 y5 y6)) ∧ (∀ y0 y1 y2 y3 y4 y5 y6 y7, LeO (image_Read.l0 k y0 y1 y2 y3 y4 y5 y6 y7) (image_Read.l0 (k + 1) y0 y1 y2 y3 y4 y5 y6 y7))
  | 0 => ⟨fun _ _ _ _ _ _ _ r h => by simp [image_Read.j0] at h, fun _ _ _ _ _ _ _ _ r h => by simp [image_Read.l0] at h⟩
  | k + 1 => by
   obtain ⟨ih0, ih1⟩ := image_Read.mono_l k
   refine ⟨?_, ?_⟩
   all_goals intros
   all_goals first | unfold image_Read.j0 | unfold image_Read.l0
   all_goals repeat' first | (with_reducible first | exact ih0 .. | exact ih1 .. | exact image_number.mono .. | exact mix_Of.mono .. | exact store_Pairs.mono .. | exact LeO.refl _ | exact LeO.none _ | refine LeO.ite ?_ ?_ | refine LeO.bind ?_ (fun _ => ?_)) | exact ih0 .. | exact ih1 .. | exact image_number.mono .. | exact mix_Of.mono .. | exact store_Pairs.mono .. | refine LeO.ite ?_ ?_ | refine LeO.bind ?_ (fun _ => ?_)
theorem image_Read.mono : ∀ a0 k, LeO (image_Read.f k a0) (image_Read.f (k + 1) a0) := by
  intro a0 k
  obtain ⟨ih0, ih1⟩ := image_Read.mono_l k
  unfold image_Read.f
  repeat' first | (with_reducible first | exact ih0 .. | exact ih1 .. | exact image_number.mono .. | exact mix_Of.mono .. | exact store_Pairs.mono .. | exact LeO.refl _ | exact LeO.none _ | refine LeO.ite ?_ ?_ | refine LeO.bind ?_ (fun _ => ?_)) | exact ih0 .. | exact ih1 .. | exact image_number.mono .. | exact mix_Of.mono .. | exact store_Pairs.mono .. | refine LeO.ite ?_ ?_ | refine LeO.bind ?_ (fun _ => ?_)
def image_Read.T5 : Bool × List (List Nat × List Nat) := (true, [([], []), ([0], [0]), ([1], [1]), ([2], [2]), ([], []), ([4], [4]), ([5], [5]), ([6], [6]), ([], []), ([8], [8]), ([9], [9]), ([3, 10, 0, 1, 2, 3], [3]), ([7, 11, 0, 1, 2, 3, 4, 5, 6, 7, 11], [7]), ([10, 12, 0, 1, 2, 3, 4, 5, 6, 7, 8, 9, 10, 11, 12], [10])])
def image_Read.B5 : List Nat := [0, 1, 3, 7, 0, 16, 48, 112, 0, 256, 768, 1807, 4095, 8191]
theorem image_Read.tab5 : rtab .any (opsOf Try.f35 5) = image_Read.T5 := by kernel_rfl
theorem image_Read.bits5 : waitsOk image_Read.T5.2 image_Read.B5 = true := by kernel_rfl
def image_Read.T15 : Bool × List (List Nat × List Nat) := (true, [([], []), ([], []), ([], []), ([1, 2], [1, 2]), ([3], [3]), ([], []), ([5], [5]), ([4, 6], [4, 6]), ([7], [7]), ([0, 8], [0, 8]), ([9, 9, 0, 1, 2, 3, 4, 5, 6, 7, 8, 9], [0, 9])])
def image_Read.B15 : List Nat := [0, 0, 0, 6, 14, 0, 32, 126, 254, 511, 1023]
theorem image_Read.tab15 : rtab .any (opsOf Try.f35 15) = image_Read.T15 := by kernel_rfl
theorem image_Read.bits15 : waitsOk image_Read.T15.2 image_Read.B15 = true := by kernel_rfl
set_option maxHeartbeats 8000000 in
set_option maxRecDepth 100000 in
theorem image_Read.calls (k : Nat) (A0 : Option Addr) (c0 : Nat) (l0 : List Int) (r1 : Int) (r2 : Int) (r3 : Int) (r4 : List (S65)) (r5 : Int) (w : World) (hr0 : Kd.C (Kd.int .u8) w A0 l0.length l0) (hc0 : l0.length ≤ c0) (h : image_Read.f k l0 = some (r1, r2, r3, r4, r5)) :
   Calls Try.prog 35 #[.slice A0 l0.length c0] w fun e w' => ∃ v3_ : Value, e = .returned (.tuple #[.int .i64 r1, .int .i64 r2, .int .u64 r3, v3_, .int .i64 r5]) ∧ Kd.R k65 65 w' w.heap.size (fun _ => True) v3_ r4 ∧ Below w.heap.size w w' := by
  have hu25 := underlying25
  have hu39 := underlying39
  have hu29 := underlying29
  have hu65 := underlying65
  have HR0 := ak_ hr0
  have HC0 := ak_ hc0
  clear hr0 hc0
  have HB := ak_ (Below.refl w.heap.size w)
  have H : (if (l0.length : Int) > 65536 then (some (0, 0, 0, ([] : List (S65)), 3)) else (if (l0.length : Int) < 11 then (some (0, 0, 0, ([] : List (S65)), 2)) else (if 0 < (l0.length : Int) then (if (rd l0 0) = 1 then (if 1 < (l0.length : Int) then (if 2 < (l0.length : Int) then (if 3 ≤ 11 then (if 11 ≤ (l0.length : Int) then ((image_number.f k ((l0.take 11).drop 3)).bind fun t243 => ((store_Pairs.f k (wrap64 (rd l0 2)) (wrap64 (rd l0 1)) t243).bind fun bt244 => (if bt244.2 = 0 then (image_Read.j0 k l0 (wrap64 (rd l0 2)) (wrap64 (rd l0 1)) t243 ([] : List (S65)) bt244.1 ((l0.length : Int) != (wrap64 (11 + (wrap64 (16 * (bt244.1.length : Int))))))) else (image_Read.j0 k l0 (wrap64 (rd l0 2)) (wrap64 (rd l0 1)) t243 ([] : List (S65)) bt244.1 true)))) else (none)) else (none)) else (none)) else (none)) else (some (0, 0, 0, ([] : List (S65)), 2))) else (none)))) = some (r1, r2, r3, r4, r5) := h
  clear h
  by_cases c2 : (l0.length : Int) > 65536
  ·rw [if_pos c2] at H
   have c2b0 : decide (65536 < (l0.length : Int)) = true := decide_eq_true c2
   have c2b1 : decide (65536 < l0.length) = true := decide_eq_true (by omega)
   clear c2
   simp only [some.injEq, Prod.mk.injEq] at H
   obtain ⟨rfl, rfl, rfl, rfl, rfl⟩ := H
   go_enter func35, ntmps35
   go_wp2
   refine bodyPost_ret (results_list (rs := [.tmp 2, .tmp 3, .tmp 4, .tmp 5, .tmp 6]) rfl (by simp) (.tmp (.tmp (.tmp (.tmp (.tmp .nil)))))) rfl ?_
   exact ⟨_, by first | rfl | (simp <;> rfl) | (simp [*] <;> rfl), by first | exact Kd.R_nil _ _ _ _ _ | exact Kd.N_nil _ _ _ _ _ | exact Kd.V_nil _ _ _ _ _ | exact Kd.Q_nil _ _ _ _ _ | exact Kd.S_nil _ _ _ _ _, bl_ HB⟩
  ·rw [if_neg c2] at H
   have c2b0 : decide (65536 < (l0.length : Int)) = false := decide_eq_false c2
   have c2b1 : decide (65536 < l0.length) = false := decide_eq_false (by omega)
   have HMX_ : Aside0 ((l0.length : Int) ≤ 65536) := ⟨by omega⟩
   clear c2
   by_cases c3 : (l0.length : Int) < 11
   ·rw [if_pos c3] at H
    have c3b0 := decide_eq_true c3
    have c3b1 : decide (l0.length < 11) = true := decide_eq_true (by omega)
    clear c3
    simp only [some.injEq, Prod.mk.injEq] at H
    obtain ⟨rfl, rfl, rfl, rfl, rfl⟩ := H
    go_enter func35, ntmps35
    go_wp2
    refine bodyPost_ret (results_list (rs := [.tmp 2, .tmp 3, .tmp 4, .tmp 5, .tmp 6]) rfl (by simp) (.tmp (.tmp (.tmp (.tmp (.tmp .nil)))))) rfl ?_
    exact ⟨_, by first | rfl | (simp <;> rfl) | (simp [*] <;> rfl), by first | exact Kd.R_nil _ _ _ _ _ | exact Kd.N_nil _ _ _ _ _ | exact Kd.V_nil _ _ _ _ _ | exact Kd.Q_nil _ _ _ _ _ | exact Kd.S_nil _ _ _ _ _, bl_ HB⟩
   ·rw [if_neg c3] at H
    have c3b0 := decide_eq_false c3
    have c3b1 : decide (l0.length < 11) = false := decide_eq_false (by omega)
    clear c3
    by_cases c4 : 0 < (l0.length : Int)
    ·rw [if_pos c4] at H
     have c4b0 := decide_eq_true c4
     have c4b1 : decide (0 < l0.length) = true := decide_eq_true (by omega)
     clear c4
     by_cases c5 : (rd l0 0) = 1
     ·rw [if_pos c5] at H
      have c5b0 : ((rd l0 0) == 1) = true := beq_iff_eq.mpr c5
      have c5b1 : ((rd l0 0) != 1) = false := bne_eq_false_iff_eq.mpr c5
      clear c5
      by_cases c6 : 1 < (l0.length : Int)
      ·rw [if_pos c6] at H
       have c6b0 := decide_eq_true c6
       have c6b1 : decide (1 < l0.length) = true := decide_eq_true (by omega)
       clear c6
       by_cases c7 : 2 < (l0.length : Int)
       ·rw [if_pos c7] at H
        have c7b0 := decide_eq_true c7
        have c7b1 : decide (2 < l0.length) = true := decide_eq_true (by omega)
        clear c7
        by_cases c8 : 3 ≤ 11
        ·rw [if_pos c8] at H
         have c8b0 := eq_true c8
         have c8b1 := decide_eq_true c8
         clear c8
         by_cases c9 : 11 ≤ (l0.length : Int)
         ·rw [if_pos c9] at H
          have c9b0 := eq_true c9
          have c9b1 := decide_eq_true c9
          clear c9
          replace H := bind_eq_some_iff.mp H
          obtain ⟨t243, A100, H⟩ := H
          replace H : ((store_Pairs.f k (wrap64 (rd l0 2)) (wrap64 (rd l0 1)) t243).bind fun bt244 => (if bt244.2 = 0 then (image_Read.j0 k l0 (wrap64 (rd l0 2)) (wrap64 (rd l0 1)) t243 ([] : List (S65)) bt244.1 ((l0.length : Int) != (wrap64 (11 + (wrap64 (16 * (bt244.1.length : Int))))))) else (image_Read.j0 k l0 (wrap64 (rd l0 2)) (wrap64 (rd l0 1)) t243 ([] : List (S65)) bt244.1 true))) = some (r1, r2, r3, r4, r5) := H
          have A10 := ak_ A100
          clear A100
          replace H := bind_eq_some_iff.mp H
          obtain ⟨⟨t244, t245⟩, A110, H⟩ := H
          replace H : (if t245 = 0 then (image_Read.j0 k l0 (wrap64 (rd l0 2)) (wrap64 (rd l0 1)) t243 ([] : List (S65)) t244 ((l0.length : Int) != (wrap64 (11 + (wrap64 (16 * (t244.length : Int))))))) else (image_Read.j0 k l0 (wrap64 (rd l0 2)) (wrap64 (rd l0 1)) t243 ([] : List (S65)) t244 true)) = some (r1, r2, r3, r4, r5) := H
          have A11 := ak_ A110
          clear A110
          have HC12 := ak_ H
          clear H
          have p239 : 0 ≤ (0 : Int) := (by omega)
          have q239 : 0 < (l0.length : Int) := od_ (by first | (with_reducible assumption) | assumption)
          obtain ⟨ad239, e239, hx239_0⟩ := Kd.at_int HR0.out 0 p239 q239
          cases e239
          have qi239 : (0 < l0.length) = True := eq_true (by omega)
          (try rw [show ((0 : Int)).toNat = 0 from rfl] at hx239_0)
          (try rw [Addr.add_zero'] at hx239_0)
          replace p239 := eq_true p239
          replace q239 := eq_true q239
          go_enter func35, ntmps35
          try go_wp2
          replace HB := ak_ (bd_ HB.out)
          have p240 : 0 ≤ (1 : Int) := (by omega)
          have q240 : 1 < (l0.length : Int) := od_ (by first | (with_reducible assumption) | assumption)
          obtain ⟨ad240, e240, hx240_0⟩ := Kd.at_int HR0.out 1 p240 q240
          have hw240_0 := hx240_0
          (try rw [show ((1 : Int)).toNat = 1 from rfl] at hw240_0)
          (try rw [show 1 * 1 = 1 from rfl] at hw240_0)
          (try simp only [Nat.reduceMul, Nat.reduceEqDiff, Go.Addr.add, ↓reduceIte] at hw240_0)
          obtain rfl : ad239 = ad240 := (by injection e240)
          (try simp only [show (1 : Int).toNat = 1 from rfl, Nat.reduceMul, Nat.reduceEqDiff, Go.Addr.add, ↓reduceIte] at hx240_0)
          have qi240 : (1 < l0.length) = True := eq_true (by omega)
          (try rw [show ((1 : Int)).toNat = 1 from rfl] at hx240_0)
          replace hx240_0 := cx_ HB hx240_0
          replace p240 := eq_true p240
          replace q240 := eq_true q240
          have p241 : 0 ≤ (2 : Int) := (by omega)
          have q241 : 2 < (l0.length : Int) := od_ (by first | (with_reducible assumption) | assumption)
          obtain ⟨ad241, e241, hx241_0⟩ := Kd.at_int HR0.out 2 p241 q241
          have hw241_0 := hx241_0
          (try rw [show ((2 : Int)).toNat = 2 from rfl] at hw241_0)
          (try rw [show 2 * 1 = 2 from rfl] at hw241_0)
          (try simp only [Nat.reduceMul, Nat.reduceEqDiff, Go.Addr.add, ↓reduceIte] at hw241_0)
          obtain rfl : ad239 = ad241 := (by injection e241)
          (try simp only [show (2 : Int).toNat = 2 from rfl, Nat.reduceMul, Nat.reduceEqDiff, Go.Addr.add, ↓reduceIte] at hx241_0)
          have qi241 : (2 < l0.length) = True := eq_true (by omega)
          (try rw [show ((2 : Int)).toNat = 2 from rfl] at hx241_0)
          replace hx241_0 := cx_ HB hx241_0
          replace p241 := eq_true p241
          replace q241 := eq_true q241
          obtain ⟨i014, hi014, _, hsz14, _⟩ := info_parts info5
          obtain ⟨A14, hcut14, hA14, hC14⟩ := print_mid_of (P := Try.prog) (Value.int .u8) 0 35 5 .i64 .i64 underlying35 hi014 hsz14 (some ad239) c0 l0 3 11 (by omega) (by first | omega | exact od_ (by first | (with_reducible assumption) | assumption)) (od_ (by first | (with_reducible assumption) | assumption)) HC0.out
          have HR242 := ak_ (Kd.C_of_reads (h1 := fun _ => rfl) (hA14 _ (Kd.reads_of_C HR0.out)))
          have HC242 := ak_ hC14
          clear hA14 hC14 hi014 hsz14
          refine start_ (n := 14) (S := fun w' => w'.cell? ⟨ad239.block, ad239.off + 1, none⟩ = some (.int .u8 (rd l0 1)) ∧ w'.cell? ⟨ad239.block, ad239.off + 2, none⟩ = some (.int .u8 (rd l0 2))) (ds := []) #[false, false, false, false, false, false, false, false, false, false, false, false, false, false] (by kernel_rfl) rfl rfl ⟨((HB.out.cell (World.block_lt_of_cell? w _ hw240_0)).trans hw240_0), ((HB.out.cell (World.block_lt_of_cell? w _ hw241_0)).trans hw241_0)⟩ (fun hHeld => ?_); refine with_tabW image_Read.tab5 image_Read.bits5 (fun HT_ HW_ => ?_)
          generalize w.drew = w13 at HB HR242 hx240_0 hx241_0 hHeld ⊢
          refine pu_ HT_ 0 (some 26) (bA5 1 14) ?_
          refine pu_ HT_ 1 (some 27) (bA5 2 14) ?_
          refine pu_ HT_ 4 (some 30) #[true, true, false, false, true, false, false, false, false, false, false, false, false, false] ?_
          refine pu_ HT_ 5 (some 31) #[true, true, false, false, true, true, false, false, false, false, false, false, false, false] ?_
          refine pu_ HT_ 8 (some 34) #[true, true, false, false, true, true, false, false, true, false, false, false, false, false] ?_
          refine pu_ HT_ 9 (some 35) #[true, true, false, false, true, true, false, false, true, true, false, false, false, false] ?_
          refine tk_ HT_ HW_ hHeld 2 (some 28) #[true, true, true, false, true, true, false, false, true, true, false, false, false, false] rfl (by rintro w' ⟨s0, s1⟩; go_simp; with_reducible rfl) ?_
          refine pu_ HT_ 3 (some 29) #[true, true, true, true, true, true, false, false, true, true, false, false, false, false] ?_
          refine tk_ HT_ HW_ hHeld 6 (some 32) #[true, true, true, true, true, true, true, false, true, true, false, false, false, false] rfl (by rintro w' ⟨s0, s1⟩; go_simp; with_reducible rfl) ?_
          refine pu_ HT_ 7 (some 33) (bA5 10 14) ?_
          refine one_ (i := 10) (N := some 36) (bA5 11 14) rfl rfl (one_of HT_.out (by kernel_rfl)) (by decide) (fun K hK => ?_)
          refine goes_ func70 (by kernel_rfl) rfl #[.slice A14 ((l0.take 11).drop 3).length (c0 - 3)] (by rfl) rfl rfl (by (try simp only [map_toArray, map_cons, map_nil]); first | done | (rw [show ((l0.take 11).drop 3).length = (11 - 3) from (by rw [List.length_drop, List.length_take]; have h_ : (11 : Int) ≤ (l0.length : Int) := od_ (by first | (with_reducible assumption) | assumption); omega)] <;> rfl) | rfl | (simp only [length_drop, length_take]; rfl)) ?_
          with_reducible refine (image_number.calls k _ _ ((l0.take 11).drop 3) t243 _ ?side1 ?side2 A10.out).mono ?_
          (case side1 => repeat (first | exact (Kd.C_below HR242.out HB.out) | (with_reducible refine Kd.C_alloc ?_ _) | (with_reducible refine Kd.C_drewN ?_ _) | (with_reducible refine Kd.C_drew ?_)))
          (case side2 => exact HC242.out)
          rintro e w' ⟨rfl, ⟨nd, rfl⟩⟩
          refine ⟨_, rfl, ?_⟩
          refine hK.out _ _ ⟨((HB.out.cell (World.block_lt_of_cell? w _ hw240_0)).trans hw240_0), ((HB.out.cell (World.block_lt_of_cell? w _ hw241_0)).trans hw241_0)⟩ (fun hHeld => ?_)
          clear hK K
          refine norm_ (a' := ?_) ?_ ?_
          rotate_left
          ·show Act.put _ (some 36) _ = _
           simp only [Act.put, setIfInBounds_toArray, set_cons_zero, set_cons_succ, i64_w, i32_w]
           rfl
          refine pu_ HT_ 11 (some 3) (bA5 12 14) ?_
          refine pu_ HT_ 12 (some 2) (bA5 13 14) ?_
          refine pu_ HT_ 13 (some 4) (bA5 14 14) ?_
          refine done_ (done_of HT_.out (by kernel_rfl)) ?_
          go_upto_region 7 with (first | ((with_reducible refine gate_callee (f := 77) rfl ?_); refine gl_ (some 41) func77 #[.int .i64 (wrap64 (rd l0 2)), .int .i64 (wrap64 (rd l0 1)), .int .u64 t243] ?_; (with_reducible refine (store_Pairs.calls k (wrap64 (rd l0 2)) (wrap64 (rd l0 1)) t243 t244 t245 _ A11.out).mono ?_); rintro e w15 ⟨v246, rfl, ho0, hb⟩; refine ⟨_, rfl, ?_⟩; have HO247 := ak_ (Kd.R_lower ho0 (bz_ (bl_ HB))); replace HB := ak_ (bt_ (bl_ HB) hb); (try clear hb); (try clear hk); (try clear ho0)))
          (try simp only [Act.put, setIfInBounds_toArray, set_cons_zero, set_cons_succ])
          go_cut [54] (fun v54 wc => ∃ (kq : Nat) (x54_11 : Bool), v54 = .bool x54_11 ∧ Aside0 (image_Read.j0 kq l0 (wrap64 (rd l0 2)) (wrap64 (rd l0 1)) t243 ([] : List (S65)) t244 x54_11 = some (r1, r2, r3, r4, r5)) ∧ Aside0 (kq ≤ k) ∧ Aside0 (Kd.R k65 65 wc w.heap.size (fun _ => True) (.slice none 0 0) ([] : List (S65))) ∧ Aside0 (Kd.R k39 39 wc w.heap.size (fun _ => True) v246 t244) ∧ Aside0 (Below w.heap.size w wc) ∧ Aside0 (x54_11 = false → (l0.length : Int) = (wrap64 (11 + (wrap64 (16 * (t244.length : Int)))))))
          case first =>
           have H := HC12.out
           clear HC12
           by_cases c16 : t245 = 0
           ·rw [if_pos c16] at H
            have c16b0 : (t245 == 0) = true := beq_iff_eq.mpr c16
            have c16b1 : (t245 != 0) = false := bne_eq_false_iff_eq.mpr c16
            clear c16
            (first | rw [c16b0] | (simp only [i64_w, i32_w]; rw [c16b0]) | skip)
            have H' := ak_ H
            clear H
            obtain ⟨Ao17, co17, eo17⟩ := Kd.R_slice HO247.out
            subst eo17
            go_wp2
            go_meet
            case rel => exact ⟨_, (((l0.length : Int) != (wrap64 (11 + (wrap64 (16 * (t244.length : Int))))))), rf_, H', ⟨by first | omega | exact Nat.le_refl _⟩, ⟨by first | exact Kd.R_nil _ _ _ _ _ | exact Kd.N_nil _ _ _ _ _ | exact Kd.V_nil _ _ _ _ _ | exact Kd.Q_nil _ _ _ _ _ | exact Kd.S_nil _ _ _ _ _⟩, ⟨rl_ HO247⟩, ⟨bl_ HB⟩, ⟨fun h_ => by simpa using h_⟩⟩
           ·rw [if_neg c16] at H
            have c16b0 : (t245 == 0) = false := beq_eq_false_iff_ne.mpr c16
            have c16b1 : (t245 != 0) = true := bne_iff_ne.mpr c16
            (first | rw [c16b0] | (simp only [i64_w, i32_w]; rw [c16b0]) | skip)
            have H' := ak_ H
            clear H
            go_wp2
            go_meet
            case rel => exact ⟨_, (true), rf_, H', ⟨by first | omega | exact Nat.le_refl _⟩, ⟨by first | exact Kd.R_nil _ _ _ _ _ | exact Kd.N_nil _ _ _ _ _ | exact Kd.V_nil _ _ _ _ _ | exact Kd.Q_nil _ _ _ _ _ | exact Kd.S_nil _ _ _ _ _⟩, ⟨rl_ HO247⟩, ⟨bl_ HB⟩, ⟨fun h_ => absurd h_ (by decide)⟩⟩
          case rest =>
           clear HC12
           try clear c1
           try clear c2
           try clear c2b0
           try clear c2b1
           try clear p2
           try clear q2
           try clear hx2
           try clear qi2
           try clear c3
           try clear c3b0
           try clear c3b1
           try clear c4
           try clear c4b0
           try clear c4b1
           try clear c5
           try clear c5b0
           try clear c5b1
           try clear c6
           try clear c6b0
           try clear c6b1
           try clear p6
           try clear c7
           try clear c7b0
           try clear c7b1
           try clear c8
           try clear c8b0
           try clear c8b1
           try clear c9
           try clear c9b0
           try clear c9b1
           try clear c16
           try clear c16b0
           try clear c16b1
           try clear hx239_0
           try clear hx240_0
           try clear hx241_0
           try clear p239
           try clear p240
           try clear p241
           try clear q239
           try clear q240
           try clear q241
           obtain ⟨kq, x54_11, rfl, HA, HJ11, HO_5, HO_7, HB, HLEN_⟩ := hcut
           cases kq with
           | zero => exact absurd HA.out (by simp [image_Read.j0])
           | succ kj11 =>
            have H := HA.out
            clear HA
            simp only [image_Read.j0] at H
            by_cases c18 : x54_11 = true
            ·subst c18
             have H1 : (some (0, 0, 0, ([] : List (S65)), 2)) = some (r1, r2, r3, r4, r5) := by rw [if_pos rfl] at H; exact H
             clear H
             have H := H1
             clear H1
             simp only [some.injEq, Prod.mk.injEq] at H
             obtain ⟨rfl, rfl, rfl, rfl, rfl⟩ := H
             go_wp2
             refine bodyPost_ret (results_list (rs := [.tmp 2, .tmp 3, .tmp 4, .tmp 5, .tmp 6]) rfl (by simp) (.tmp (.tmp (.tmp (.tmp (.tmp .nil)))))) rfl ?_
             exact ⟨_, by first | rfl | (simp <;> rfl) | (simp [*] <;> rfl), by first | exact Kd.R_nil _ _ _ _ _ | exact Kd.N_nil _ _ _ _ _ | exact Kd.V_nil _ _ _ _ _ | exact Kd.Q_nil _ _ _ _ _ | exact Kd.S_nil _ _ _ _ _, bl_ HB⟩
            ·replace c18 := Bool.eq_false_iff.mpr c18
             subst c18
             have H1 : (if 11 ≤ (l0.length : Int) then (image_Read.l0 kj11 l0 (wrap64 (rd l0 2)) (wrap64 (rd l0 1)) t243 ([] : List (S65)) t244 (wrap64 (((l0.drop 11).length : Int) / 16)) 0) else (none)) = some (r1, r2, r3, r4, r5) := by rw [if_neg (show ¬ (false = true) by decide)] at H; exact H
             clear H
             have H := H1
             clear H1
             by_cases c19 : 11 ≤ (l0.length : Int)
             ·rw [if_pos c19] at H
              have c19b0 := eq_true c19
              have c19b1 := decide_eq_true c19
              clear c19
              have H' := ak_ H
              clear H
              obtain ⟨i020, hi020, _, hsz20, _⟩ := info_parts info5
              obtain ⟨A20, hcut20, hA20, hC20⟩ := print_drop_of (P := Try.prog) (Value.int .u8) 0 35 5 .i64 underlying35 hi020 hsz20 (some ad239) c0 l0 11 (by omega) (od_ (by first | (with_reducible assumption) | assumption)) HC0.out
              have HR248 := ak_ (Kd.C_of_reads (h1 := fun _ => rfl) (hA20 _ (Kd.reads_of_C HR0.out)))
              have HC248 := ak_ hC20
              obtain ⟨adz_, rfl⟩ : ∃ a_, A20 = some a_ := r6_some (P := Try.prog) underlying35 hi020 hsz20 (j := 11) (by omega) (od_ (by first | (with_reducible assumption) | assumption)) (hcut20 w)
              obtain ⟨m_, hm1_, hm2_, hm3_, hm4_⟩ := r6_len HMX_.out (od_ (by first | (with_reducible assumption) | assumption)) (HLEN_.out rfl)
              have HM2_ := ak_ hm2_
              have HM3_ := ak_ hm3_
              have HCZ_ : Aside0 (16 * m_ ≤ c0 - 11) := ⟨by have := HC0.out; rw [hm1_] at this; omega⟩
              have n0_ := H'.out
              clear H'
              have H' := ak_ (show (image_Read.l0 kj11 l0 (wrap64 (rd l0 2)) (wrap64 (rd l0 1)) t243 ([] : List (S65)) t244 (m_ : Int) 0) = some (r1, r2, r3, r4, r5) from by rw [← hm4_]; exact n0_)
              clear hA20 hC20 hi020 hsz20 hm1_ hm2_ hm3_ n0_
              clear hm4_
              have hwc_ := ak_ (bz_ HB.out)
              go_wp2_with (first | (go_at_call 69; refine (s6_Chunk.calls (some adz_) (l0.length - 11) (c0 - 11) _).mono ?_; rintro e wc_ ⟨rfl, hwe_⟩; have hT_ := r6_two HB.out hwc_.out hwe_; clear hwe_ HB; have z_ := hT_.1; rw [show l0.length - 11 = 16 * m_ from (@List.length_drop _ 11 l0).symm.trans HM2_.out] at z_; have HBS_ := ak_ z_; clear z_; have HBN_ := ak_ hT_.2.1; have HB := ak_ hT_.2.2.1; have n0_ := ak_ (Kd.R_below HO_7.out hT_.2.2.2); clear HO_7; have HO_7 := n0_; clear n0_ hT_) | (go_at_call 78; refine (s6_Collect.calls _ _ adz_ m_ _ (by have := HM3_.out; omega) HCZ_.out _ HBS_.out HBN_.out).mono ?_; rintro e wz_ ⟨v58_, rfl, ho_, hb_⟩; obtain ⟨A58_, c58_, rfl, hr58_⟩ := r6_row ho_; have HR58_ := ak_ hr58_; have HBZ_ := ak_ (bt_ HB.out hb_); have n0_ := ak_ (Kd.R_below HO_7.out hb_); have HRZ_ := ak_ (Kd.C_below HR248.out HBZ_.out); clear HO_7 HB ho_ hb_ hr58_ HBS_ HBN_; have HO_7 := n0_; have HB := ak_ (Below.refl wz_.heap.size wz_); clear n0_))
              go_loopg [2, 3, 4, 5, 60] kj11 (fun kq v2 v3 v4 v5 v60 w' => ∃ (x2_2 : Int) (x3_2 : Int) (x4_2 : Int) (x5_2 : List (S65)) (x60_2 : Int), v2 = .int .i64 x2_2 ∧ v3 = .int .i64 x3_2 ∧ v4 = .int .u64 x4_2 ∧ v60 = .int .i64 x60_2 ∧ Aside0 (image_Read.l0 kq l0 x2_2 x3_2 x4_2 x5_2 t244 (m_ : Int) x60_2 = some (r1, r2, r3, r4, r5)) ∧ Aside0 (kq ≤ kj11) ∧ Aside0 (Kd.R k65 65 w' wz_.heap.size (fun _ => True) v5 x5_2) ∧ Aside0 (Kd.R k39 39 w' w.heap.size (fun _ => True) v246 t244) ∧ Aside0 (Below wz_.heap.size wz_ w') ∧ Aside0 (0 ≤ x60_2))
              case atStart => exact ⟨((wrap64 (rd l0 2))), ((wrap64 (rd l0 1))), (t243), (([] : List (S65))), (0), rf_, rf_, rf_, rf_, H', ⟨Nat.le_refl _⟩, ⟨Kd.R_nil _ _ _ _ _⟩, ⟨rl_ HO_7⟩, ⟨bl_ HB⟩, ⟨by omega⟩⟩
              case round =>
               clear H'
               try clear c1
               try clear c2
               try clear c2b0
               try clear c2b1
               try clear p2
               try clear q2
               try clear hx2
               try clear qi2
               try clear c3
               try clear c3b0
               try clear c3b1
               try clear c4
               try clear c4b0
               try clear c4b1
               try clear c5
               try clear c5b0
               try clear c5b1
               try clear c6
               try clear c6b0
               try clear c6b1
               try clear p6
               try clear c7
               try clear c7b0
               try clear c7b1
               try clear c8
               try clear c8b0
               try clear c8b1
               try clear c9
               try clear c9b0
               try clear c9b1
               try clear c16
               try clear c16b0
               try clear c16b1
               try clear c18
               try clear c19
               try clear c19b0
               try clear c19b1
               try clear hx239_0
               try clear hx240_0
               try clear hx241_0
               try clear p2
               try clear p239
               try clear p240
               try clear p241
               try clear p6
               try clear q2
               try clear q239
               try clear q240
               try clear q241
               obtain ⟨x2_2, x3_2, x4_2, x5_2, x60_2, rfl, rfl, rfl, rfl, HA, HK2, HO_5, HO_7, HB, HX0_⟩ := hrel
               cases gk with
               | zero => exact absurd HA.out (by simp [image_Read.l0])
               | succ k2 =>
                have H := HA.out
                clear HA
                simp only [image_Read.l0] at H
                by_cases c21 : x60_2 < (m_ : Int)
                ·rw [if_pos c21] at H
                 have c21b0 := decide_eq_true c21
                 have hxm_ := c21
                 have hx0_ := HX0_.out
                 obtain ⟨ad58_, e58_, hc58_⟩ := r6_at HR58_.out x60_2 hx0_ hxm_
                 subst e58_
                 have hx58_ := (HB.out.cell (World.block_lt_of_cell? wz_ _ hc58_)).trans hc58_
                 clear hc58_
                 have HXM_ := ak_ hxm_
                 replace hx0_ := eq_true hx0_
                 replace hxm_ := eq_true hxm_
                 clear c21
                 obtain ⟨ji22, hji22⟩ : ∃ j_ : Int, (wrap64 (11 + (wrap64 (16 * x60_2)))) = j_ := ⟨_, rfl⟩
                 replace H : (if 0 ≤ (ji22) then (if (ji22) ≤ (wrap64 (27 + (wrap64 (16 * x60_2)))) then (if (wrap64 (27 + (wrap64 (16 * x60_2)))) ≤ (l0.length : Int) then ((mix_Of.f k2 ((l0.take ((wrap64 (27 + (wrap64 (16 * x60_2)))) : Int).toNat).drop ((ji22) : Int).toNat)).bind fun bt250 => (if bt250.2.2 = 0 then (if 0 ≤ x60_2 then (if x60_2 < (t244.length : Int) then (if x5_2.length < 1759218604441 then (image_Read.l0 k2 l0 x2_2 x3_2 x4_2 (x5_2 ++ [(⟨(⟨(rd_T39 t244 x60_2).f0, (rd_T39 t244 x60_2).f1⟩ : S39), (⟨false, false, (⟨bt250.1, bt250.2.1⟩ : S25), (⟨(⟨0, 0⟩ : S25), (⟨0, 0⟩ : S25)⟩ : S27), 0⟩ : S29)⟩ : S65)]) t244 (m_ : Int) (wrap64 (x60_2 + 1))) else (none)) else (none)) else (none)) else (some (0, 0, 0, ([] : List (S65)), bt250.2.2)))) else (none)) else (none)) else (none)) = some (r1, r2, r3, r4, r5) := by first | (rw [hji22] at H; exact H) | (simp only [hji22] at H ⊢; exact H)
                 have hji22w : (IntKind.i64.wrap (11 + (wrap64 (16 * x60_2)))) = ji22 := (i64_w _).trans hji22
                 by_cases c23 : 0 ≤ (ji22)
                 ·rw [if_pos c23] at H
                  have c23b0 := eq_true c23
                  have c23b1 := decide_eq_true c23
                  clear c23
                  by_cases c24 : (ji22) ≤ (wrap64 (27 + (wrap64 (16 * x60_2))))
                  ·rw [if_pos c24] at H
                   have c24b0 := eq_true c24
                   have c24b1 := decide_eq_true c24
                   by_cases c25 : (wrap64 (27 + (wrap64 (16 * x60_2)))) ≤ (l0.length : Int)
                   ·rw [if_pos c25] at H
                    have c25b0 := eq_true c25
                    have c25b1 := decide_eq_true c25
                    replace H := bind_eq_some_iff.mp H
                    obtain ⟨⟨t250, t251, t252⟩, A260, H⟩ := H
                    replace H : (if t252 = 0 then (if 0 ≤ x60_2 then (if x60_2 < (t244.length : Int) then (if x5_2.length < 1759218604441 then (image_Read.l0 k2 l0 x2_2 x3_2 x4_2 (x5_2 ++ [(⟨(⟨(rd_T39 t244 x60_2).f0, (rd_T39 t244 x60_2).f1⟩ : S39), (⟨false, false, (⟨t250, t251⟩ : S25), (⟨(⟨0, 0⟩ : S25), (⟨0, 0⟩ : S25)⟩ : S27), 0⟩ : S29)⟩ : S65)]) t244 (m_ : Int) (wrap64 (x60_2 + 1))) else (none)) else (none)) else (none)) else (some (0, 0, 0, ([] : List (S65)), t252))) = some (r1, r2, r3, r4, r5) := H
                    have A26 := ak_ A260
                    clear A260
                    by_cases c27 : t252 = 0
                    ·rw [if_pos c27] at H
                     have c27b0 : (t252 == 0) = true := beq_iff_eq.mpr c27
                     have c27b1 : (t252 != 0) = false := bne_eq_false_iff_eq.mpr c27
                     clear c27
                     by_cases c28 : 0 ≤ x60_2
                     ·rw [if_pos c28] at H
                      have c28b0 := decide_eq_true c28
                      clear c28
                      by_cases c29 : x60_2 < (t244.length : Int)
                      ·rw [if_pos c29] at H
                       have c29b0 := decide_eq_true c29
                       clear c29
                       by_cases c30 : x5_2.length < 1759218604441
                       ·rw [if_pos c30] at H
                        have LMc30 := ak_ c30
                        clear c30
                        obtain ⟨y255, hy255⟩ : ∃ y_ : List (S65), y_ = (x5_2 ++ [(⟨(⟨(rd_T39 t244 x60_2).f0, (rd_T39 t244 x60_2).f1⟩ : S39), (⟨false, false, (⟨t250, t251⟩ : S25), (⟨(⟨0, 0⟩ : S25), (⟨0, 0⟩ : S25)⟩ : S27), 0⟩ : S29)⟩ : S65)]) := ⟨_, rfl⟩
                        replace H : (image_Read.l0 k2 l0 x2_2 x3_2 x4_2 y255 t244 (m_ : Int) (wrap64 (x60_2 + 1))) = some (r1, r2, r3, r4, r5) := by first | (rw [hy255]; with_reducible exact H) | (have H2_ := (Option.bind_some _ _).symm.trans H; rw [hy255]; with_reducible exact H2_) | (have H2_ := (Option.bind_some _ _).symm.trans H; with_reducible exact H2_) | with_reducible exact H | (rw [hy255]; exact H) | exact H
                        have Ny255 := ak_ hy255
                        clear hy255
                        have H' := ak_ H
                        clear H
                        have hP_ := r6_piece HRZ_.out HM2_.out HCZ_.out HX0_.out HXM_.out HM3_.out hji22 (b := (wrap64 (27 + (wrap64 (16 * x60_2))))) rfl
                        have HR249 := ak_ hP_.1
                        have HC249 := ak_ (Nat.le_of_eq hP_.2.1)
                        have HPL_ := ak_ hP_.2.1
                        have HXN_ := ak_ hP_.2.2
                        clear hP_
                        try go_wp2_with (first | ((with_reducible refine gate_callee (f := 79) rfl ?_); refine goesL_ (some 67) rfl rfl func79 (by kernel_rfl) rfl #[.slice (some (adz_.add (16 * x60_2.toNat))) ((l0.take ((wrap64 (27 + (wrap64 (16 * x60_2)))) : Int).toNat).drop ((ji22) : Int).toNat).length 16] rfl (by (try simp only [map_toArray, map_cons, map_nil]); first | done | (rw [HPL_.out] <;> rfl) | (simp only [hji22]; rfl) | rfl | (simp only [length_drop, length_take]; rfl)) ?_; (with_reducible refine (mix_Of.calls k2 _ _ ((l0.take ((wrap64 (27 + (wrap64 (16 * x60_2)))) : Int).toNat).drop ((ji22) : Int).toNat) t250 t251 t252 _ ?side1 ?side2 A26.out).mono ?_); (case side1 => repeat (first | exact (Kd.C_below HR249.out HB.out) | (with_reducible refine Kd.C_alloc ?_ _) | (with_reducible refine Kd.C_drewN ?_ _) | (with_reducible refine Kd.C_drew ?_))); (case side2 => exact HC249.out); rintro e w32 ⟨rfl, hb⟩; refine ⟨_, rfl, ?_⟩; replace HO_5 := ak_ (Kd.R_below (rl_ HO_5) hb); replace HO_7 := ak_ (Kd.R_below (rl_ HO_7) hb); replace HB := ak_ (bt_ (bl_ HB) hb); (try clear hb); (try clear hk)) | ((with_reducible refine gate_dst (N := 10) rfl ?_); (try (refine gate_guard (by rfl) ?_; dsimp only)); refine bx_ 10 #[.int .u64 0, .int .u64 0] 25 ?_; intro gb253 hg w33 hbox hb; replace HO_5 := ak_ (Kd.R_below (rl_ HO_5) hb); replace HO_7 := ak_ (Kd.R_below (rl_ HO_7) hb); have BK253 := ak_ hbox; have GW253 := ak_ (by rw [hg]; exact (bz_ (bl_ HB)) : wz_.heap.size ≤ gb253); have GE253 := ak_ (by rw [hg]; exact (bz_ (bl_ HB)) : wz_.heap.size ≤ gb253); replace HB := ak_ (bt_ (bl_ HB) hb); clear hb hbox hg; obtain ⟨hcz34_0, hcz34_1, hfz34_0, hfz34_1⟩ := kc2_ BK253.out))
                        obtain ⟨w35, e_⟩ : ∃ w_, sC_ gb253 0 [.int .u64 t250, .int .u64 t251] w33 = w_ := ⟨_, rfl⟩
                        have n0_ : Aside0 (Kd.R k65 65 w35 wz_.heap.size (fun _ => True) u5 x5_2) := ⟨Kd.R_mono (sC_far (Kd.R_types HO_5.out BK253.out (by decide)) (fun _ hk => hk.2) e_) (fun _ hk => trivial)⟩
                        have n1_ : Aside0 (Kd.R k39 39 w35 w.heap.size (fun _ => True) v246 t244) := ⟨Kd.R_mono (sC_far (Kd.R_types HO_7.out BK253.out (by decide)) (fun _ hk => hk.2) e_) (fun _ hk => trivial)⟩
                        have n2_ : Aside0 (w35.heap[gb253]? = some (.cells #[.int .u64 t250, .int .u64 t251] 25 (0, 0))) := ⟨sC_blk BK253.out rfl e_⟩
                        have n3_ : Aside0 (Below wz_.heap.size wz_ w35) := ⟨sC_below GE253.out HB.out e_⟩
                        (try clear HO_5)
                        (try clear HO_7)
                        (try clear BK253)
                        (try clear HB)
                        simp only [sC_, Nat.reduceAdd] at e_
                        rw [e_]
                        clear e_
                        have HO_5 := n0_
                        have HO_7 := n1_
                        have BK253 := n2_
                        have HB := n3_
                        clear n0_ n1_ n2_ n3_
                        replace HO_5 := ak_ (Kd.R_drew HO_5.out)
                        replace HO_7 := ak_ (Kd.R_drew HO_7.out)
                        replace BK253 := ak_ (kd_ BK253.out)
                        replace HB := ak_ (bd_ HB.out)
                        obtain ⟨Ao37, co37, eo37⟩ := Kd.R_slice HO_7.out
                        (first | subst eo37 | (injection eo37 with f1_ f2_ f3_; have f4_ := f1_.symm; have f5_ := f3_.symm; clear f1_ f2_ f3_; subst f4_; subst f5_))
                        have p254 : 0 ≤ (x60_2 : Int) := od_ (by first | (with_reducible assumption) | assumption)
                        have q254 : x60_2 < (t244.length : Int) := od_ (by first | (with_reducible assumption) | assumption)
                        obtain ⟨ad254, e254, hx254_0, hx254_1⟩ := at_T39 (Kd.R_reads' HO_7.out).2.2 x60_2 p254 q254
                        cases e254
                        replace p254 := eq_true p254
                        replace q254 := eq_true q254
                        refine start_ (n := 11) (S := fun w' => w'.cell? ⟨gb253, 0, none⟩ = some (.int .u64 t250) ∧ w'.cell? ⟨gb253, 1, none⟩ = some (.int .u64 t251) ∧ w'.cell? (ad254.add ((x60_2).toNat * 2)) = some (.int .u64 ((rd_T39 t244 x60_2).f0)) ∧ w'.cell? ⟨(ad254.add ((x60_2).toNat * 2)).block, (ad254.add ((x60_2).toNat * 2)).off + 1, none⟩ = some (.int .u64 ((rd_T39 t244 x60_2).f1))) (ds := [8, 9]) #[false, false, false, false, false, false, false, false, false, false, false] (by kernel_rfl) rfl rfl ⟨kq_ BK253.out 0 rfl, kq_ BK253.out 1 rfl, hx254_0, hx254_1⟩ (fun hHeld => ?_); refine with_tabW image_Read.tab15 image_Read.bits15 (fun HT_ HW_ => ?_)
                        generalize w35.drew = w36 at HO_5 HO_7 BK253 HB hx254_0 hx254_1 hHeld ⊢
                        refine pu_ HT_ 0 (some 73) #[true, false, false, false, false, false, false, false, false, false, false] ?_
                        refine pu_ HT_ 1 (some 74) #[true, true, false, false, false, false, false, false, false, false, false] ?_
                        refine pu_ HT_ 2 (some 75) #[true, true, true, false, false, false, false, false, false, false, false] ?_
                        refine pu_ HT_ 3 (some 76) #[true, true, true, true, false, false, false, false, false, false, false] ?_
                        refine tk_ HT_ HW_ hHeld 4 (some 77) #[true, true, true, true, true, false, false, false, false, false, false] rfl (by rintro w' ⟨s0, s1, s2, s3⟩; go_simp; with_reducible rfl) ?_
                        refine tk_ HT_ HW_ hHeld 5 (some 78) #[true, true, true, true, true, true, false, false, false, false, false] rfl (by rintro w' ⟨s0, s1, s2, s3⟩; go_simp; with_reducible rfl) ?_
                        refine pu_ HT_ 6 (some 79) #[true, true, true, true, true, true, true, false, false, false, false] ?_
                        refine pu_ HT_ 7 (some 80) #[true, true, true, true, true, true, true, true, false, false, false] ?_
                        refine last_ (i := 8) (N := some 81) #[true, true, true, true, true, true, true, true, true, false, false] rfl rfl (one_of HT_.out (by kernel_rfl)) (by decide) (fun K hK => ?_)
                        refine value_ (w1 := ?_) (v := ?_) (by rfl) rfl ?_ ?_
                        rotate_left 2
                        ·go_simp
                         constructor
                         ·rfl
                         ·rfl
                        refine hK.out _ _ ?_
                        clear hK K
                        refine norm_ (a' := ?_) ?_ ?_
                        rotate_left
                        ·show Act.put _ (some 81) _ = _
                         simp only [Act.put, setIfInBounds_toArray, set_cons_zero, set_cons_succ, i64_w, i32_w]
                         rfl
                        refine last_ (i := 9) (N := some 82) #[true, true, true, true, true, true, true, true, true, true, false] rfl rfl (one_of HT_.out (by kernel_rfl)) (by decide) (fun K hK => ?_)
                        refine Kd.R_append_step k65 (w0 := wz_) wz_.heap.size (by rfl) (.tmp 73) (.tmp 81) 59 65 (.agg #[(.int .u64 0), (.int .u64 0), (.bool false), (.bool false), (.int .u64 0), (.int .u64 0), (.int .u64 0), (.int .u64 0), (.int .u64 0), (.int .u64 0), (.int .i64 0)]) 80 rfl underlying59 info65 rfl (by decide) (by omega) u5 x5_2 (⟨(⟨(rd_T39 t244 x60_2).f0, (rd_T39 t244 x60_2).f1⟩ : S39), (⟨false, false, (⟨t250, t251⟩ : S25), (⟨(⟨0, 0⟩ : S25), (⟨0, 0⟩ : S25)⟩ : S27), 0⟩ : S29)⟩ : S65) [.int .u64 ((rd_T39 t244 x60_2).f0), .int .u64 ((rd_T39 t244 x60_2).f1), .bool false, .bool false, .int .u64 t250, .int .u64 t251, .int .u64 0, .int .u64 0, .int .u64 0, .int .u64 0, .int .i64 0] (fun _ => True) (fun _ => False) rfl rfl ?aP (fun _ hk => hk.elim) ?aF ?aO ?aB ?aS ?aL ?_
                        (case aP => exact k65_mkM _ _ _ (⟨(⟨(rd_T39 t244 x60_2).f0, (rd_T39 t244 x60_2).f1⟩ : S39), (⟨false, false, (⟨t250, t251⟩ : S25), (⟨(⟨0, 0⟩ : S25), (⟨0, 0⟩ : S25)⟩ : S27), 0⟩ : S29)⟩ : S65))
                        (case aB => exact (bw1_ HB GE253))
                        (case aF => exact (fun _ _ => trivial))
                        (case aO => exact (rl_ HO_5))
                        (case aS => exact (bz_ (bw1_ HB GE253)))
                        (case aL => have := LMc30.out; omega)
                        intro v256 w38 ho hb hg hat
                        rw [← Ny255.out] at ho
                        replace HO_7 := ak_ (Kd.R_over' (rl_ HO_7) (Kd.R_typed (rl_ HO_5)) (by decide) hg)
                        replace BK253 := ak_ (blk_grown (g := gb253) (o := .cells #[.int .u64 t250, .int .u64 t251] 25 (0, 0)) (kl_ BK253) hg (Kd.R_ne HO_5.out BK253.out (by decide)))
                        replace HB := ak_ hb
                        have HO257 := ak_ ho
                        clear HO_5
                        clear ho hb hg hat
                        refine hK.out _ _ ?_
                        clear hK K
                        refine norm_ (a' := ?_) ?_ ?_
                        rotate_left
                        ·show Act.put _ (some 82) _ = _
                         simp only [Act.put, setIfInBounds_toArray, set_cons_zero, set_cons_succ, i64_w, i32_w]
                         rfl
                        refine pu_ HT_ 10 (some 5) #[true, true, true, true, true, true, true, true, true, true, true] ?_
                        refine done_ (done_of HT_.out (by kernel_rfl)) ?_
                        try go_wp2
                        go_roundg k2
                        case measure => have := HJ11.out; have := HK2.out; omega
                        case rel => exact ⟨(x2_2), (x3_2), (x4_2), (y255), (wrap64 (x60_2 + 1)), rf_, rf_, rf_, rf_, H', ⟨by have := HJ11.out; have := HK2.out; omega⟩, ⟨rl_ HO257⟩, ⟨rl_ HO_7⟩, ⟨bw1_ HB GE253⟩, ⟨HXN_.out⟩⟩
                       ·rw [if_neg c30] at H
                        exact absurd H (by simp)
                      ·rw [if_neg c29] at H
                       exact absurd H (by simp)
                     ·rw [if_neg c28] at H
                      exact absurd H (by simp)
                    ·rw [if_neg c27] at H
                     have c27b0 : (t252 == 0) = false := beq_eq_false_iff_ne.mpr c27
                     have c27b1 : (t252 != 0) = true := bne_iff_ne.mpr c27
                     simp only [some.injEq, Prod.mk.injEq] at H
                     obtain ⟨rfl, rfl, rfl, rfl, rfl⟩ := H
                     have hP_ := r6_piece HRZ_.out HM2_.out HCZ_.out HX0_.out HXM_.out HM3_.out hji22 (b := (wrap64 (27 + (wrap64 (16 * x60_2))))) rfl
                     have HR249 := ak_ hP_.1
                     have HC249 := ak_ (Nat.le_of_eq hP_.2.1)
                     have HPL_ := ak_ hP_.2.1
                     have HXN_ := ak_ hP_.2.2
                     clear hP_
                     go_wp2_with (first | ((with_reducible refine gate_callee (f := 79) rfl ?_); refine goesL_ (some 67) rfl rfl func79 (by kernel_rfl) rfl #[.slice (some (adz_.add (16 * x60_2.toNat))) ((l0.take ((wrap64 (27 + (wrap64 (16 * x60_2)))) : Int).toNat).drop ((ji22) : Int).toNat).length 16] rfl (by (try simp only [map_toArray, map_cons, map_nil]); first | done | (rw [HPL_.out] <;> rfl) | (simp only [hji22]; rfl) | rfl | (simp only [length_drop, length_take]; rfl)) ?_; (with_reducible refine (mix_Of.calls k2 _ _ ((l0.take ((wrap64 (27 + (wrap64 (16 * x60_2)))) : Int).toNat).drop ((ji22) : Int).toNat) t250 t251 t252 _ ?side1 ?side2 A26.out).mono ?_); (case side1 => repeat (first | exact (Kd.C_below HR249.out HB.out) | (with_reducible refine Kd.C_alloc ?_ _) | (with_reducible refine Kd.C_drewN ?_ _) | (with_reducible refine Kd.C_drew ?_))); (case side2 => exact HC249.out); rintro e w40 ⟨rfl, hb⟩; refine ⟨_, rfl, ?_⟩; replace HO_5 := ak_ (Kd.R_below (rl_ HO_5) hb); replace HO_7 := ak_ (Kd.R_below (rl_ HO_7) hb); replace HB := ak_ (bt_ (bl_ HB) hb); (try clear hb); (try clear hk)) | ((with_reducible refine gate_dst (N := 10) rfl ?_); (try (refine gate_guard (by rfl) ?_; dsimp only)); refine bx_ 10 #[.int .u64 0, .int .u64 0] 25 ?_; intro gb253 hg w41 hbox hb; replace HO_5 := ak_ (Kd.R_below (rl_ HO_5) hb); replace HO_7 := ak_ (Kd.R_below (rl_ HO_7) hb); have BK253 := ak_ hbox; have GW253 := ak_ (by rw [hg]; exact (bz_ (bl_ HB)) : wz_.heap.size ≤ gb253); have GE253 := ak_ (by rw [hg]; exact (bz_ (bl_ HB)) : wz_.heap.size ≤ gb253); replace HB := ak_ (bt_ (bl_ HB) hb); clear hb hbox hg; obtain ⟨hcz42_0, hcz42_1, hfz42_0, hfz42_1⟩ := kc2_ BK253.out))
                     refine bodyPost_ret (results_list (rs := [.tmp 2, .tmp 3, .tmp 4, .tmp 5, .tmp 6]) rfl (by simp) (.tmp (.tmp (.tmp (.tmp (.tmp .nil)))))) rfl ?_
                     exact ⟨_, by first | rfl | (simp <;> rfl) | (simp only [← hji22]; first | rfl | (simp <;> rfl)) | (simp [*] <;> rfl), by first | exact Kd.R_nil _ _ _ _ _ | exact Kd.N_nil _ _ _ _ _ | exact Kd.V_nil _ _ _ _ _ | exact Kd.Q_nil _ _ _ _ _ | exact Kd.S_nil _ _ _ _ _, bt_ HBZ_.out (bw1_ HB GE253)⟩
                   ·rw [if_neg c25] at H
                    exact absurd H (by simp)
                  ·rw [if_neg c24] at H
                   exact absurd H (by simp)
                 ·rw [if_neg c23] at H
                  exact absurd H (by simp)
                ·rw [if_neg c21] at H
                 have c21b0 := decide_eq_false c21
                 clear c21
                 simp only [some.injEq, Prod.mk.injEq] at H
                 obtain ⟨rfl, rfl, rfl, rfl, rfl⟩ := H
                 go_wp2
                 refine bodyPost_ret (results_list (rs := [.tmp 2, .tmp 3, .tmp 4, .tmp 5, .tmp 6]) rfl (by simp) (.tmp (.tmp (.tmp (.tmp (.tmp .nil)))))) rfl ?_
                 exact ⟨_, by first | rfl | (simp <;> rfl) | (simp [*] <;> rfl), by (with_reducible repeat (first | apply Kd.R_alloc | apply Kd.R_drewN | apply Kd.R_drew)); exact Kd.R_lower HO_5.out (bz_ HBZ_.out), bt_ HBZ_.out (bl_ HB)⟩
             ·rw [if_neg c19] at H
              exact absurd H (by simp)
         ·rw [if_neg c9] at H
          exact absurd H (by simp)
        ·rw [if_neg c8] at H
         exact absurd H (by simp)
       ·rw [if_neg c7] at H
        exact absurd H (by simp)
      ·rw [if_neg c6] at H
       exact absurd H (by simp)
     ·rw [if_neg c5] at H
      have c5b0 : ((rd l0 0) == 1) = false := beq_eq_false_iff_ne.mpr c5
      have c5b1 : ((rd l0 0) != 1) = true := bne_iff_ne.mpr c5
      simp only [some.injEq, Prod.mk.injEq] at H
      obtain ⟨rfl, rfl, rfl, rfl, rfl⟩ := H
      have p239 : 0 ≤ (0 : Int) := (by omega)
      have q239 : 0 < (l0.length : Int) := od_ (by first | (with_reducible assumption) | assumption)
      obtain ⟨ad239, e239, hx239_0⟩ := Kd.at_int HR0.out 0 p239 q239
      cases e239
      have qi239 : (0 < l0.length) = True := eq_true (by omega)
      (try rw [show ((0 : Int)).toNat = 0 from rfl] at hx239_0)
      (try rw [Addr.add_zero'] at hx239_0)
      replace p239 := eq_true p239
      replace q239 := eq_true q239
      go_enter func35, ntmps35
      go_wp2
      refine bodyPost_ret (results_list (rs := [.tmp 2, .tmp 3, .tmp 4, .tmp 5, .tmp 6]) rfl (by simp) (.tmp (.tmp (.tmp (.tmp (.tmp .nil)))))) rfl ?_
      exact ⟨_, by first | rfl | (simp <;> rfl) | (simp [*] <;> rfl), by first | exact Kd.R_nil _ _ _ _ _ | exact Kd.N_nil _ _ _ _ _ | exact Kd.V_nil _ _ _ _ _ | exact Kd.Q_nil _ _ _ _ _ | exact Kd.S_nil _ _ _ _ _, bl_ HB⟩
    ·rw [if_neg c4] at H
     exact absurd H (by simp)
def api_Entry_82.l0 : Nat → List (S65) → List (S65) → Int → Int → Option (Bool)
  | 0, _, _, _, _ => none
  | k + 1, x0, x1, x12, x13 => if x13 < x12 then (if 0 ≤ x13 then (if x13 < (x0.length : Int) then (if x13 < (x1.length : Int) then (if ((!(((rd_T65 x0 x13).f0.f0) == ((rd_T65 x1 x13).f0.f0)) || (!(((rd_T65 x0 x13).f0.f1) == ((rd_T65 x1 x13).f0.f1)))) || ((!(((rd_T65 x0 x13).f1.f0) == ((rd_T65 x1 x13).f1.f0)) || (!(((rd_T65 x0 x13).f1.f1) == ((rd_T65 x1 x13).f1.f1)) || ((!(((rd_T65 x0 x13).f1.f2.f0) == ((rd_T65 x1 x13).f1.f2.f0)) || (!(((rd_T65 x0 x13).f1.f2.f1) == ((rd_T65 x1 x13).f1.f2.f1)))) || (((!(((rd_T65 x0 x13).f1.f3.f0.f0) == ((rd_T65 x1 x13).f1.f3.f0.f0)) || (!(((rd_T65 x0 x13).f1.f3.f0.f1) == ((rd_T65 x1 x13).f1.f3.f0.f1)))) || ((!(((rd_T65 x0 x13).f1.f3.f1.f0) == ((rd_T65 x1 x13).f1.f3.f1.f0)) || (!(((rd_T65 x0 x13).f1.f3.f1.f1) == ((rd_T65 x1 x13).f1.f3.f1.f1)))))) || (!(((rd_T65 x0 x13).f1.f4) == ((rd_T65 x1 x13).f1.f4))))))))) = true then (some false) else (api_Entry_82.l0 k x0 x1 x12 (wrap64 (x13 + 1)))) else (none)) else (none)) else (none)) else (some true)
def api_Entry_82.f (k : Nat) (l0 : List (S65)) (l1 : List (S65)) : Option (Bool) := if (l0.length : Int) = (l1.length : Int) then (api_Entry_82.l0 k l0 l1 (l0.length : Int) 0) else (some false)
theorem api_Entry_82.mono_l : ∀ k, (∀ y0 y1 y2 y3, LeO (api_Entry_82.l0 k y0 y1 y2 y3) (api_Entry_82.l0 (k + 1) y0 y1 y2 y3))
  | 0 => fun _ _ _ _ r h => by simp [api_Entry_82.l0] at h
  | k + 1 => by
   have ih0 := api_Entry_82.mono_l k
   ·intro y0 y1 y2 y3
    unfold api_Entry_82.l0
    repeat' first | (with_reducible first | exact ih0 .. | exact LeO.refl _ | exact LeO.none _ | refine LeO.ite ?_ ?_ | refine LeO.bind ?_ (fun _ => ?_)) | exact ih0 .. | refine LeO.ite ?_ ?_ | refine LeO.bind ?_ (fun _ => ?_)
theorem api_Entry_82.mono : ∀ a0 a1 k, LeO (api_Entry_82.f k a0 a1) (api_Entry_82.f (k + 1) a0 a1) := by
  intro a0 a1 k
  have ih0 := api_Entry_82.mono_l k
  unfold api_Entry_82.f
  repeat' first | (with_reducible first | exact ih0 .. | exact LeO.refl _ | exact LeO.none _ | refine LeO.ite ?_ ?_ | refine LeO.bind ?_ (fun _ => ?_)) | exact ih0 .. | refine LeO.ite ?_ ?_ | refine LeO.bind ?_ (fun _ => ?_)
set_option maxHeartbeats 8000000 in
set_option maxRecDepth 100000 in
theorem api_Entry_82.calls (k : Nat) (A0 : Option Addr) (c0 : Nat) (l0 : List (S65)) (A1 : Option Addr) (c1 : Nat) (l1 : List (S65)) (r : Bool) (w : World) (hr0 : Kd.C k65 w A0 l0.length l0) (hc0 : l0.length ≤ c0) (hr1 : Kd.C k65 w A1 l1.length l1) (hc1 : l1.length ≤ c1) (h : api_Entry_82.f k l0 l1 = some r) :
   Calls Try.prog 82 #[.slice A0 l0.length c0, .slice A1 l1.length c1] w fun e w' => e = .returned (.bool r) ∧ Drawn0 w w' := by
  have hu65 := underlying65
  have HR0 := ak_ hr0
  have HC0 := ak_ hc0
  clear hr0 hc0
  have HR1 := ak_ hr1
  have HC1 := ak_ hc1
  clear hr1 hc1
  have H : (if (l0.length : Int) = (l1.length : Int) then (api_Entry_82.l0 k l0 l1 (l0.length : Int) 0) else (some false)) = some r := h
  clear h
  by_cases c3 : (l0.length : Int) = (l1.length : Int)
  ·rw [if_pos c3] at H
   have c3b0 : ((l0.length : Int) == (l1.length : Int)) = true := beq_iff_eq.mpr c3
   have c3b1 : ((l0.length : Int) != (l1.length : Int)) = false := bne_eq_false_iff_eq.mpr c3
   have c3b2 : (l0.length == l1.length) = true := by first | simpa using c3 | (simp at c3 ⊢; omega)
   clear c3
   have H' := ak_ H
   clear H
   go_enter func82, ntmps82
   go_wp2
   repeat (go_quiet (fail); try go_wp2)
   go_loopg [13] k (fun kq v13 w' => ∃ (x13_1 : Int), v13 = .int .i64 x13_1 ∧ Aside0 (api_Entry_82.l0 kq l0 l1 (l0.length : Int) x13_1 = some r) ∧ Aside0 (kq ≤ k) ∧ Drawn0 w w')
   case atStart => exact ⟨(0), rf_, H', ⟨Nat.le_refl _⟩, by repeat (first | exact Drawn0.refl _ | apply Drawn0.step)⟩
   case round =>
    clear H'
    try clear c1
    try clear p2
    try clear c3
    try clear c3b0
    try clear c3b1
    try clear c3b2
    obtain ⟨x13_1, rfl, HA, HK1, ⟨m1, rfl⟩⟩ := hrel
    cases gk with
    | zero => exact absurd HA.out (by simp [api_Entry_82.l0])
    | succ k1 =>
     have H := HA.out
     clear HA
     simp only [api_Entry_82.l0] at H
     by_cases c4 : x13_1 < (l0.length : Int)
     ·rw [if_pos c4] at H
      have c4b0 := decide_eq_true c4
      clear c4
      by_cases c5 : 0 ≤ x13_1
      ·rw [if_pos c5] at H
       have c5b0 := decide_eq_true c5
       clear c5
       by_cases c6 : x13_1 < (l0.length : Int)
       ·rw [if_pos c6] at H
        have c6b0 := decide_eq_true c6
        clear c6
        by_cases c7 : x13_1 < (l1.length : Int)
        ·rw [if_pos c7] at H
         have c7b0 := decide_eq_true c7
         clear c7
         by_cases c8 : ((!(((rd_T65 l0 x13_1).f0.f0) == ((rd_T65 l1 x13_1).f0.f0)) || (!(((rd_T65 l0 x13_1).f0.f1) == ((rd_T65 l1 x13_1).f0.f1)))) || ((!(((rd_T65 l0 x13_1).f1.f0) == ((rd_T65 l1 x13_1).f1.f0)) || (!(((rd_T65 l0 x13_1).f1.f1) == ((rd_T65 l1 x13_1).f1.f1)) || ((!(((rd_T65 l0 x13_1).f1.f2.f0) == ((rd_T65 l1 x13_1).f1.f2.f0)) || (!(((rd_T65 l0 x13_1).f1.f2.f1) == ((rd_T65 l1 x13_1).f1.f2.f1)))) || (((!(((rd_T65 l0 x13_1).f1.f3.f0.f0) == ((rd_T65 l1 x13_1).f1.f3.f0.f0)) || (!(((rd_T65 l0 x13_1).f1.f3.f0.f1) == ((rd_T65 l1 x13_1).f1.f3.f0.f1)))) || ((!(((rd_T65 l0 x13_1).f1.f3.f1.f0) == ((rd_T65 l1 x13_1).f1.f3.f1.f0)) || (!(((rd_T65 l0 x13_1).f1.f3.f1.f1) == ((rd_T65 l1 x13_1).f1.f3.f1.f1)))))) || (!(((rd_T65 l0 x13_1).f1.f4) == ((rd_T65 l1 x13_1).f1.f4))))))))) = true
         ·rw [if_pos c8] at H
          have c8b0 : ((!(((rd_T65 l0 x13_1).f0.f0) == ((rd_T65 l1 x13_1).f0.f0)) || (!(((rd_T65 l0 x13_1).f0.f1) == ((rd_T65 l1 x13_1).f0.f1)))) || ((!(((rd_T65 l0 x13_1).f1.f0) == ((rd_T65 l1 x13_1).f1.f0)) || (!(((rd_T65 l0 x13_1).f1.f1) == ((rd_T65 l1 x13_1).f1.f1)) || ((!(((rd_T65 l0 x13_1).f1.f2.f0) == ((rd_T65 l1 x13_1).f1.f2.f0)) || (!(((rd_T65 l0 x13_1).f1.f2.f1) == ((rd_T65 l1 x13_1).f1.f2.f1)))) || (((!(((rd_T65 l0 x13_1).f1.f3.f0.f0) == ((rd_T65 l1 x13_1).f1.f3.f0.f0)) || (!(((rd_T65 l0 x13_1).f1.f3.f0.f1) == ((rd_T65 l1 x13_1).f1.f3.f0.f1)))) || ((!(((rd_T65 l0 x13_1).f1.f3.f1.f0) == ((rd_T65 l1 x13_1).f1.f3.f1.f0)) || (!(((rd_T65 l0 x13_1).f1.f3.f1.f1) == ((rd_T65 l1 x13_1).f1.f3.f1.f1)))))) || (!(((rd_T65 l0 x13_1).f1.f4) == ((rd_T65 l1 x13_1).f1.f4))))))))) = true := c8
          clear c8
          obtain rfl := Option.some.inj H
          have p258 : 0 ≤ (x13_1 : Int) := od_ (by first | (with_reducible assumption) | assumption)
          have q258 : x13_1 < (l0.length : Int) := od_ (by first | (with_reducible assumption) | assumption)
          obtain ⟨ad258, e258, hx258_0, hx258_1, hx258_2, hx258_3, hx258_4, hx258_5, hx258_6, hx258_7, hx258_8, hx258_9, hx258_10⟩ := at_T65 HR0.out x13_1 p258 q258
          cases e258
          replace p258 := eq_true p258
          replace q258 := eq_true q258
          have p259 : 0 ≤ (x13_1 : Int) := od_ (by first | (with_reducible assumption) | assumption)
          have q259 : x13_1 < (l1.length : Int) := od_ (by first | (with_reducible assumption) | assumption)
          obtain ⟨ad259, e259, hx259_0, hx259_1, hx259_2, hx259_3, hx259_4, hx259_5, hx259_6, hx259_7, hx259_8, hx259_9, hx259_10⟩ := at_T65 HR1.out x13_1 p259 q259
          cases e259
          replace p259 := eq_true p259
          replace q259 := eq_true q259
          go_wp2
          repeat (go_quiet (fail); try go_wp2)
          go_ret
          exact ⟨by first | rfl | (simp; done) | (simp [*]; done), by repeat (first | exact Drawn0.refl _ | apply Drawn0.step)⟩
         ·rw [if_neg c8] at H
          have c8b0 : ((!(((rd_T65 l0 x13_1).f0.f0) == ((rd_T65 l1 x13_1).f0.f0)) || (!(((rd_T65 l0 x13_1).f0.f1) == ((rd_T65 l1 x13_1).f0.f1)))) || ((!(((rd_T65 l0 x13_1).f1.f0) == ((rd_T65 l1 x13_1).f1.f0)) || (!(((rd_T65 l0 x13_1).f1.f1) == ((rd_T65 l1 x13_1).f1.f1)) || ((!(((rd_T65 l0 x13_1).f1.f2.f0) == ((rd_T65 l1 x13_1).f1.f2.f0)) || (!(((rd_T65 l0 x13_1).f1.f2.f1) == ((rd_T65 l1 x13_1).f1.f2.f1)))) || (((!(((rd_T65 l0 x13_1).f1.f3.f0.f0) == ((rd_T65 l1 x13_1).f1.f3.f0.f0)) || (!(((rd_T65 l0 x13_1).f1.f3.f0.f1) == ((rd_T65 l1 x13_1).f1.f3.f0.f1)))) || ((!(((rd_T65 l0 x13_1).f1.f3.f1.f0) == ((rd_T65 l1 x13_1).f1.f3.f1.f0)) || (!(((rd_T65 l0 x13_1).f1.f3.f1.f1) == ((rd_T65 l1 x13_1).f1.f3.f1.f1)))))) || (!(((rd_T65 l0 x13_1).f1.f4) == ((rd_T65 l1 x13_1).f1.f4))))))))) = false := by simpa using c8
          clear c8
          have H' := ak_ H
          clear H
          have p258 : 0 ≤ (x13_1 : Int) := od_ (by first | (with_reducible assumption) | assumption)
          have q258 : x13_1 < (l0.length : Int) := od_ (by first | (with_reducible assumption) | assumption)
          obtain ⟨ad258, e258, hx258_0, hx258_1, hx258_2, hx258_3, hx258_4, hx258_5, hx258_6, hx258_7, hx258_8, hx258_9, hx258_10⟩ := at_T65 HR0.out x13_1 p258 q258
          cases e258
          replace p258 := eq_true p258
          replace q258 := eq_true q258
          have p259 : 0 ≤ (x13_1 : Int) := od_ (by first | (with_reducible assumption) | assumption)
          have q259 : x13_1 < (l1.length : Int) := od_ (by first | (with_reducible assumption) | assumption)
          obtain ⟨ad259, e259, hx259_0, hx259_1, hx259_2, hx259_3, hx259_4, hx259_5, hx259_6, hx259_7, hx259_8, hx259_9, hx259_10⟩ := at_T65 HR1.out x13_1 p259 q259
          cases e259
          replace p259 := eq_true p259
          replace q259 := eq_true q259
          go_wp2
          repeat (go_quiet (fail); try go_wp2)
          go_roundg k1
          case measure => have := HK1.out; omega
          case rel => exact ⟨(wrap64 (x13_1 + 1)), rf_, H', ⟨by have := HK1.out; omega⟩, by repeat (first | exact Drawn0.refl _ | apply Drawn0.step)⟩
        ·rw [if_neg c7] at H
         exact absurd H (by simp)
       ·rw [if_neg c6] at H
        exact absurd H (by simp)
      ·rw [if_neg c5] at H
       exact absurd H (by simp)
     ·rw [if_neg c4] at H
      have c4b0 := decide_eq_false c4
      clear c4
      obtain rfl := Option.some.inj H
      go_wp2
      repeat (go_quiet (fail); try go_wp2)
      go_ret
      exact ⟨by first | rfl | (simp; done) | (simp [*]; done), by repeat (first | exact Drawn0.refl _ | apply Drawn0.step)⟩
  ·rw [if_neg c3] at H
   have c3b0 : ((l0.length : Int) == (l1.length : Int)) = false := beq_eq_false_iff_ne.mpr c3
   have c3b1 : ((l0.length : Int) != (l1.length : Int)) = true := bne_iff_ne.mpr c3
   have c3b2 : (l0.length == l1.length) = false := by first | simpa using c3 | (simp at c3 ⊢; omega)
   obtain rfl := Option.some.inj H
   go_enter func82, ntmps82
   go_wp2
   repeat (go_quiet (fail); try go_wp2)
   go_ret
   exact ⟨by first | rfl | (simp; done) | (simp [*]; done), by repeat (first | exact Drawn0.refl _ | apply Drawn0.step)⟩
def store_Same.f (k : Nat) (l0 : List (S65)) (l1 : List (S65)) : Option (Bool) := (api_Entry_82.f k l0 l1).bind fun t260 => (some t260)
theorem store_Same.mono : ∀ a0 a1 k, LeO (store_Same.f k a0 a1) (store_Same.f (k + 1) a0 a1) := by
  intro a0 a1 k
  unfold store_Same.f
  repeat' first | (with_reducible first | exact api_Entry_82.mono .. | exact LeO.refl _ | exact LeO.none _ | refine LeO.ite ?_ ?_ | refine LeO.bind ?_ (fun _ => ?_)) | exact api_Entry_82.mono .. | refine LeO.ite ?_ ?_ | refine LeO.bind ?_ (fun _ => ?_)
set_option maxHeartbeats 8000000 in
set_option maxRecDepth 100000 in
theorem store_Same.calls (k : Nat) (A0 : Option Addr) (c0 : Nat) (l0 : List (S65)) (A1 : Option Addr) (c1 : Nat) (l1 : List (S65)) (r : Bool) (w : World) (hr0 : Kd.C k65 w A0 l0.length l0) (hc0 : l0.length ≤ c0) (hr1 : Kd.C k65 w A1 l1.length l1) (hc1 : l1.length ≤ c1) (h : store_Same.f k l0 l1 = some r) :
   Calls Try.prog 38 #[.slice A0 l0.length c0, .slice A1 l1.length c1] w fun e w' => e = .returned (.bool r) ∧ Drawn0 w w' := by
  have HR0 := ak_ hr0
  have HC0 := ak_ hc0
  clear hr0 hc0
  have HR1 := ak_ hr1
  have HC1 := ak_ hc1
  clear hr1 hc1
  have H : ((api_Entry_82.f k l0 l1).bind fun t260 => (some t260)) = some r := h
  clear h
  replace H := bind_eq_some_iff.mp H
  obtain ⟨t260, A30, H⟩ := H
  replace H : (some t260) = some r := H
  have A3 := ak_ A30
  clear A30
  obtain rfl := Option.some.inj H
  go_enter func38, ntmps38
  go_wp2_with (first | ((with_reducible refine gate_callee (f := 82) rfl ?_); refine gl_ (some 7) func82 #[.slice A0 l0.length c0, .slice A1 l1.length c1] ?_; (with_reducible refine (api_Entry_82.calls k _ _ l0 _ _ l1 t260 _ ?side1 ?side2 ?side3 ?side4 A3.out).mono ?_); (case side1 => repeat (first | exact HR0.out | (with_reducible refine Kd.C_alloc ?_ _) | (with_reducible refine Kd.C_drewN ?_ _) | (with_reducible refine Kd.C_drew ?_))); (case side2 => exact HC0.out); (case side3 => repeat (first | exact HR1.out | (with_reducible refine Kd.C_alloc ?_ _) | (with_reducible refine Kd.C_drewN ?_ _) | (with_reducible refine Kd.C_drew ?_))); (case side4 => exact HC1.out); rintro e w' ⟨rfl, ⟨nd, rfl⟩⟩; refine ⟨_, rfl, ?_⟩))
  go_ret
  exact ⟨by first | rfl | (simp; done) | (simp [*]; done), by repeat (first | exact Drawn0.refl _ | apply Drawn0.step)⟩
structure LbBut (g : Nat) (w w' : World) : Prop where
  os : w'.os = w.os
  tape : w'.tape = w.tape
  output : w'.output = w.output
  size : w.heap.size ≤ w'.heap.size
  block : ∀ k, k < w.heap.size → k ≠ g → w'.heap[k]? = w.heap[k]?
theorem LbBut.refl (g : Nat) (w : World) : LbBut g w w := ⟨rfl, rfl, rfl, Nat.le_refl _, fun _ _ _ => rfl⟩
theorem LbBut.trans {g : Nat} {a b c : World} (h : LbBut g a b) (k : LbBut g b c) : LbBut g a c :=
  ⟨k.os.trans h.os, k.tape.trans h.tape, k.output.trans h.output, Nat.le_trans h.size k.size, fun i hi hn => (k.block i (Nat.lt_of_lt_of_le hi h.size) hn).trans (h.block i hi hn)⟩
theorem LbBut.of {g : Nat} {a b : World} (h : Below a.heap.size a b) : LbBut g a b := ⟨h.os, h.tape, h.output, h.size, fun k hk _ => h.block k hk⟩
theorem LbBut.set (g i : Nat) (w : World) (u : Value) : LbBut g w (w.setCell ⟨g, i, none⟩ u) :=
  ⟨rfl, rfl, rfl, by simp [World.setCell], fun k _ hn => Below.heap_setCell w _ u k hn⟩
theorem LbBut.drew {g : Nat} {a b : World} (h : LbBut g a b) : LbBut g a b.drew := ⟨h.os, h.tape, h.output, h.size, h.block⟩
theorem LbBut.below {g B : Nat} {a b : World} (h : LbBut g a b) (hg : B ≤ g) (hB : B ≤ a.heap.size) : Below B a b :=
  ⟨h.os, h.tape, h.output, h.size, fun k hk => h.block k (Nat.lt_of_lt_of_le hk hB) (by omega)⟩
theorem lb_R {w : World} {base : Nat} {v : Value} {l : List S75} {g B : Nat} (h : Kd.R k75 75 w base (fun _ => True) v l) (hg : g < base) (hB : B ≤ base) : ∃ A c, v = .slice A l.length c ∧ Kd.R k75 75 w B (fun k => k ≠ g) (.slice A l.length c) l := by
  obtain ⟨A, c, rfl⟩ := Kd.R_slice h
  exact ⟨A, c, rfl, Kd.R_lower (Kd.R_mono (Kd.R_bound h) (fun k hk => by have := hk.2.1; omega)) hB⟩
theorem lb_put9 {w : World} {g : Nat} {T : TypeId} {a0 a1 a2 a3 a4 a5 a6 a7 a8 : Value} (b0 b1 b2 b3 b4 b5 b6 b7 b8 : Value) (h : w.heap[g]? = some (.cells #[a0, a1, a2, a3, a4, a5, a6, a7, a8] T (0, 0))) : (((((((((w.setCell ⟨g, 0, none⟩ b0).setCell ⟨g, 1, none⟩ b1).setCell ⟨g, 2, none⟩ b2).setCell ⟨g, 3, none⟩ b3).setCell ⟨g, 4, none⟩ b4).setCell ⟨g, 5, none⟩ b5).setCell ⟨g, 6, none⟩ b6).setCell ⟨g, 7, none⟩ b7).setCell ⟨g, 8, none⟩ b8).heap[g]? = some (.cells #[b0, b1, b2, b3, b4, b5, b6, b7, b8] T (0, 0)) :=
  blk_put (cs' := #[b0, b1, b2, b3, b4, b5, b6, b7, b8]) (blk_put (cs' := #[b0, b1, b2, b3, b4, b5, b6, b7, a8]) (blk_put (cs' := #[b0, b1, b2, b3, b4, b5, b6, a7, a8]) (blk_put (cs' := #[b0, b1, b2, b3, b4, b5, a6, a7, a8]) (blk_put (cs' := #[b0, b1, b2, b3, b4, a5, a6, a7, a8]) (blk_put (cs' := #[b0, b1, b2, b3, a4, a5, a6, a7, a8]) (blk_put (cs' := #[b0, b1, b2, a3, a4, a5, a6, a7, a8]) (blk_put (cs' := #[b0, b1, a2, a3, a4, a5, a6, a7, a8]) (blk_put (cs' := #[b0, a1, a2, a3, a4, a5, a6, a7, a8]) h 0 b0 rfl) 1 b1 rfl) 2 b2 rfl) 3 b3 rfl) 4 b4 rfl) 5 b5 rfl) 6 b6 rfl) 7 b7 rfl) 8 b8 rfl
theorem lb_but9 (w : World) (g : Nat) (b0 b1 b2 b3 b4 b5 b6 b7 b8 : Value) : LbBut g w (((((((((w.setCell ⟨g, 0, none⟩ b0).setCell ⟨g, 1, none⟩ b1).setCell ⟨g, 2, none⟩ b2).setCell ⟨g, 3, none⟩ b3).setCell ⟨g, 4, none⟩ b4).setCell ⟨g, 5, none⟩ b5).setCell ⟨g, 6, none⟩ b6).setCell ⟨g, 7, none⟩ b7).setCell ⟨g, 8, none⟩ b8) :=
  ((((((((LbBut.set g 0 w b0).trans (LbBut.set g 1 _ b1)).trans (LbBut.set g 2 _ b2)).trans (LbBut.set g 3 _ b3)).trans (LbBut.set g 4 _ b4)).trans (LbBut.set g 5 _ b5)).trans (LbBut.set g 6 _ b6)).trans (LbBut.set g 7 _ b7)).trans (LbBut.set g 8 _ b8)
def Wk (B : Nat) (w : World) (g : Nat) (l : List S75) (v : S29) (e : Int) : Prop :=
  B ≤ g ∧ ∃ (A : Option Addr) (c : Nat), w.heap[g]? = some (.cells #[.slice A l.length c, .bool v.f0, .bool v.f1, .int .u64 v.f2.f0, .int .u64 v.f2.f1, .int .u64 v.f3.f0.f0, .int .u64 v.f3.f0.f1, .int .u64 v.f3.f1.f0, .int .u64 v.f3.f1.f1, .int .i64 v.f4, .int .i64 e] 143 (0, 0)) ∧ Kd.R k75 75 w B (fun k => k ≠ g) (.slice A l.length c) l
theorem Wk.below {B : Nat} {w w' : World} {g : Nat} {l : List S75} {v : S29} {e : Int} (h : Wk B w g l v e) (hb : Below w.heap.size w w') : Wk B w' g l v e := by
  obtain ⟨hB, A, c, h1, h2⟩ := h
  exact ⟨hB, A, c, kb_ h1 hb, Kd.R_below h2 hb⟩
theorem Wk.lt {B : Nat} {w : World} {g : Nat} {l : List S75} {v : S29} {e : Int} (h : Wk B w g l v e) : g < w.heap.size := by
  obtain ⟨_, A, c, h1, _⟩ := h
  exact blk_lt h1
theorem lb_fin {w8 w9 : World} {g3 g B base : Nat} {v : Value} {l : List S75} (hR : Kd.R k75 75 w8 B (fun k => k ≠ g) v l) (hlt : g3 < B) (hb : LbBut g3 w8 w9) (hBase : base ≤ B) : Kd.R k75 75 w9 base (fun _ => True) v l :=
  Kd.R_lower (Kd.R_mono (Kd.R_step (Kd.R_mono (Kd.R_bound hR) (fun k hk => show k ≠ g3 by have := hk.2.1; omega)) (fun k ho hk => hb.block k hk ho)) (fun _ _ => trivial)) hBase
def api_Term.f (l0 : List S75) : Option (List S75) := if l0.length < 1759218604441 then some l0 else none
set_option maxHeartbeats 8000000 in
set_option maxRecDepth 100000 in
theorem api_Term.calls (A0 : Option Addr) (c0 : Nat) (l0 : List S75) (r : List S75) (w : World) (hr0 : Kd.C k75 w A0 l0.length l0) (hc0 : l0.length ≤ c0) (h : api_Term.f l0 = some r) :
   Calls Try.prog 143 #[.slice A0 l0.length c0] w fun e w' => ∃ v0_ : Value, e = .returned (v0_) ∧ Kd.R k75 75 w' w.heap.size (fun _ => True) v0_ r ∧ Below w.heap.size w w' := by
  have hl : l0.length < 1759218604441 := by
   by_cases c : l0.length < 1759218604441
   ·exact c
   ·simp [api_Term.f, c] at h
  obtain rfl : l0 = r := by simpa [api_Term.f, hl] using h
  clear h
  have q22 : ∀ (w : World) (a : Option Addr) (n c n' c' : Nat), (binOp .eql 69 (.slice a n c) (.slice none n' c')).run Try.prog w = .ok (.bool a.isNone) w := fun w a n c n' c' => Lib.run_eql_slice_nil w _ _ a n c n' c' underlying69
  cases A0 with
  | none =>
   have h0 : l0 = [] := by
    apply List.length_eq_zero_iff.1
    by_cases hz : 0 < l0.length
    ·obtain ⟨_, h, _⟩ := hr0.2.2 hz
     cases h
    ·omega
   subst h0
   clear hr0
   have i0 : (none : Option Addr).isNone = true := rfl
   go_enter func143, ntmps143
   go_wp2
   go_ret
   exact ⟨_, rfl, Kd.R_nil _ _ _ _ _, Below.refl _ _⟩
  | some ad =>
   have HR0 := ak_ hr0
   clear hr0
   have hR0 : Kd.R k75 75 (w.alloc (.cells #[] 75)) w.heap.size (fun _ => True) (.slice (some ⟨w.heap.size, 0, none⟩) 0 0) [] := ⟨fun _ _ => trivial, [], (by have h := World.ownsRow_lit (base := w.heap.size) (e := 75) (size := 3) w #[] 0 (Nat.le_refl _) (by simp only [maxLen]; omega) rfl; exact h), ⟨rfl, fun i p hi => by simp at hi⟩⟩
   have i0 : (some ad : Option Addr).isNone = false := rfl
   go_enter func143, ntmps143
   go_wp2_with (first | (at_builtin; refine Kd.R_append_rows k75 (w0 := w) w.heap.size rfl (.tmp 5) (.tmp 6) 69 75 (.agg #[.int .i64 0, .int .i64 0, .int .i64 0]) 24 rfl underlying69 info75 rfl (by decide) (by omega) (.slice (some ⟨w.heap.size, 0, none⟩) 0 0) [] l0 _ _ _ (fun _ => True) (fun _ => False) rfl rfl hR0 (Kd.C_alloc HR0.out _) (fun x cs h => by obtain rfl := k75_open h; exact k75_mkM _ _ _ x) (fun _ h => h.elim) (fun _ _ => trivial) (ba_ (Below.refl _ _) _) (by simp) (by simp; omega) ?_; intro v1 w1 ho hb hg hat; clear hg hat; have HO := ak_ ho; have HB := ak_ hb; clear ho hb))
   go_ret
   exact ⟨_, rfl, HO.out, HB.out⟩
theorem lb_Clone (A0 : Option Addr) (c0 : Nat) (l0 : List S75) (w : World) (hr0 : Kd.C k75 w A0 l0.length l0) (hc0 : l0.length ≤ c0) (h : l0.length < 1759218604441) :
   Calls Try.prog 143 #[.slice A0 l0.length c0] w fun e w' => ∃ v0_ : Value, e = .returned (v0_) ∧ Kd.R k75 75 w' w.heap.size (fun _ => True) v0_ l0 ∧ Below w.heap.size w w' := api_Term.calls A0 c0 l0 l0 w hr0 hc0 (by simp [api_Term.f, h])
def label_start.f (k : Nat) (l : List S75) (v : S29) : Option Int := if l.length < 1759218604441 then ((value_Check.f k l v.f0 v.f1 v.f2.f0 v.f2.f1 v.f3.f0.f0 v.f3.f0.f1 v.f3.f1.f0 v.f3.f1.f1 v.f4).bind fun ec => if ec = 0 then (if v.f1 = true then some 1 else if v.f0 = true then (if 0 ≤ v.f4 ∧ v.f4 < (l.length : Int) then some (if (rd_T75 l v.f4).f0 = 5 then 1 else 0) else none) else some 0) else some ec) else none
def label_start.T1 : Bool × List (List Nat × List Nat) := (true, [([], []), ([], []), ([], []), ([], []), ([2, 3], [2, 3]), ([0, 1, 4], [0, 1, 4]), ([5], [5]), ([6, 4, 0, 1, 2, 3, 4, 5, 6], [6])])
def label_start.B1 : List Nat := [0, 0, 0, 0, 12, 31, 63, 127]
theorem label_start.tab1 : rtab .any (opsOf Try.f119 1) = label_start.T1 := by kernel_rfl
theorem label_start.bits1 : waitsOk label_start.T1.2 label_start.B1 = true := by kernel_rfl
theorem label_start.mono : ∀ l v k, LeO (label_start.f k l v) (label_start.f (k + 1) l v) := by
  intro l v k
  unfold label_start.f
  repeat' first | (with_reducible first | exact value_Check.mono .. | exact LeO.refl _ | exact LeO.none _ | refine LeO.ite ?_ ?_ | refine LeO.bind ?_ (fun _ => ?_))
set_option maxHeartbeats 8000000 in
set_option maxRecDepth 100000 in
theorem label_start.calls (k : Nat) (l : List S75) (v : S29) (e : Int) (A : Option Addr) (c : Nat) (w : World) (hr : Kd.C k75 w A l.length l) (hc : l.length ≤ c) (hs : label_start.f k l v = some e) :
   Calls Try.prog 119 #[.slice A l.length c, .agg #[.bool v.f0, .bool v.f1, .int .u64 v.f2.f0, .int .u64 v.f2.f1, .int .u64 v.f3.f0.f0, .int .u64 v.f3.f0.f1, .int .u64 v.f3.f1.f0, .int .u64 v.f3.f1.f1, .int .i64 v.f4]] w fun r w' => ∃ g : Nat, r = .returned (.pointer (some ⟨g, 0, none⟩)) ∧ Wk w.heap.size w' g l v e ∧ Below w.heap.size w w' := by
  have hu_v := underlying29
  unfold label_start.f at hs
  have hcl : l.length < 1759218604441 := by
   by_cases c : l.length < 1759218604441
   ·exact c
   ·rw [if_neg c] at hs
    exact absurd hs (by simp)
  rw [if_pos hcl] at hs
  have HCL := ak_ hcl
  clear hcl
  obtain ⟨ec, hv, hs1⟩ := bind_eq_some_iff.mp hs
  have HV := ak_ hv
  have HS := ak_ hs1
  have HC := ak_ hr
  have HL := ak_ hc
  have HB := ak_ (Below.refl w.heap.size w)
  clear hv hs hs1 hr hc
  go_enter func119, ntmps119
  go_wp2_with (first | ((with_reducible refine gate_dst (N := 3) rfl ?_); refine bx_ 3 #[.bool v.f0, .bool v.f1, .int .u64 v.f2.f0, .int .u64 v.f2.f1, .int .u64 v.f3.f0.f0, .int .u64 v.f3.f0.f1, .int .u64 v.f3.f1.f0, .int .u64 v.f3.f1.f1, .int .i64 v.f4] 29 ?_; intro gs hgs w1 hbox hb; have n1_ := ak_ hb; have BS := ak_ hbox; clear HB hb hbox hgs; have HB := n1_; clear n1_))
  replace BS := ak_ (kd_ BS.out)
  replace HB := ak_ (bd_ HB.out)
  refine start_ (n := 8) (S := fun w' => w'.cell? ⟨gs, 0, none⟩ = some (.bool v.f0) ∧ w'.cell? ⟨gs, 1, none⟩ = some (.bool v.f1) ∧ w'.cell? ⟨gs, 2, none⟩ = some (.int .u64 v.f2.f0) ∧ w'.cell? ⟨gs, 3, none⟩ = some (.int .u64 v.f2.f1) ∧ w'.cell? ⟨gs, 4, none⟩ = some (.int .u64 v.f3.f0.f0) ∧ w'.cell? ⟨gs, 5, none⟩ = some (.int .u64 v.f3.f0.f1) ∧ w'.cell? ⟨gs, 6, none⟩ = some (.int .u64 v.f3.f1.f0) ∧ w'.cell? ⟨gs, 7, none⟩ = some (.int .u64 v.f3.f1.f1) ∧ w'.cell? ⟨gs, 8, none⟩ = some (.int .i64 v.f4)) (ds := [6]) #[false, false, false, false, false, false, false, false] (by kernel_rfl) rfl rfl ⟨(kc_ BS.out 0).trans rfl, (kc_ BS.out 1).trans rfl, (kc_ BS.out 2).trans rfl, (kc_ BS.out 3).trans rfl, (kc_ BS.out 4).trans rfl, (kc_ BS.out 5).trans rfl, (kc_ BS.out 6).trans rfl, (kc_ BS.out 7).trans rfl, (kc_ BS.out 8).trans rfl⟩ (fun hHeld => ?_); refine with_tabW label_start.tab1 label_start.bits1 (fun HT_ HW_ => ?_)
  generalize w1.drew = w2 at BS HB hHeld ⊢
  refine pu_ HT_ 0 (some 6) #[true, false, false, false, false, false, false, false] ?_
  refine tk_ HT_ HW_ hHeld 1 (some 7) #[true, true, false, false, false, false, false, false] rfl (by rintro w' ⟨s0, s1, s2, s3, s4, s5, s6, s7, s8⟩; go_simp; with_reducible rfl) ?_
  refine pu_ HT_ 2 (some 8) #[true, true, true, false, false, false, false, false] ?_
  refine tk_ HT_ HW_ hHeld 3 (some 9) #[true, true, true, true, false, false, false, false] rfl (by rintro w' ⟨s0, s1, s2, s3, s4, s5, s6, s7, s8⟩; go_simp; with_reducible rfl) ?_
  refine one_ (i := 4) (N := some 10) #[true, true, true, true, true, false, false, false] rfl rfl (one_of HT_.out (by kernel_rfl)) (by decide) (fun K hK => ?_)
  refine gg_ func127 #[.slice A l.length c, .agg #[.bool v.f0, .bool v.f1, .int .u64 v.f2.f0, .int .u64 v.f2.f1, .int .u64 v.f3.f0.f0, .int .u64 v.f3.f0.f1, .int .u64 v.f3.f1.f0, .int .u64 v.f3.f1.f1, .int .i64 v.f4]] ?_
  refine (value_Check.calls k A c l v.f0 v.f1 v.f2.f0 v.f2.f1 v.f3.f0.f0 v.f3.f0.f1 v.f3.f1.f0 v.f3.f1.f1 v.f4 ec _ (Kd.C_below HC.out HB.out) HL.out HV.out).mono ?_
  rintro r w3 ⟨rfl, hb⟩
  refine ⟨_, rfl, ?_⟩
  replace BS := ak_ (kb_ BS.out hb)
  replace HB := ak_ (bt_ HB.out hb)
  clear hb
  refine hK.out _ _ ⟨(kc_ BS.out 0).trans rfl, (kc_ BS.out 1).trans rfl, (kc_ BS.out 2).trans rfl, (kc_ BS.out 3).trans rfl, (kc_ BS.out 4).trans rfl, (kc_ BS.out 5).trans rfl, (kc_ BS.out 6).trans rfl, (kc_ BS.out 7).trans rfl, (kc_ BS.out 8).trans rfl⟩ (fun hHeld => ?_)
  clear hK K
  refine norm_ (a' := ?_) ?_ ?_
  rotate_left
  ·show Act.put _ (some 10) _ = _
   simp only [Act.put, setIfInBounds_toArray, set_cons_zero, set_cons_succ, i64_w, i32_w]
   rfl
  refine pu_ HT_ 5 (some 11) #[true, true, true, true, true, true, false, false] ?_
  refine last_ (i := 6) (N := some 12) #[true, true, true, true, true, true, true, false] rfl rfl (one_of HT_.out (by kernel_rfl)) (by decide) (fun K hK => ?_)
  refine box_step (by rfl) (N := 12) rfl (cs := #[.slice A l.length c, .bool v.f0, .bool v.f1, .int .u64 v.f2.f0, .int .u64 v.f2.f1, .int .u64 v.f3.f0.f0, .int .u64 v.f3.f0.f1, .int .u64 v.f3.f1.f0, .int .u64 v.f3.f1.f1, .int .i64 v.f4, .int .i64 ec]) (t := 143) (by first | (go_simp; done) | (go_simp; rfl)) ?_
  intro g hgw w4 hbox hb
  have GE := ak_ (show w.heap.size ≤ g by rw [hgw]; exact bz_ HB.out)
  have BK := ak_ hbox
  replace BS := ak_ (kb_ BS.out hb)
  replace HB := ak_ (bt_ HB.out hb)
  clear hb hbox hgw
  refine hK.out _ _ ?_
  clear hK K
  refine norm_ (a' := ?_) ?_ ?_
  rotate_left
  ·show Act.put _ (some 12) _ = _
   simp only [Act.put, setIfInBounds_toArray, set_cons_zero, set_cons_succ, i64_w, i32_w]
   rfl
  refine pu_ HT_ 7 (some 5) #[true, true, true, true, true, true, true, true] ?_
  refine done_ (done_of HT_.out (by kernel_rfl)) ?_
  have hk10 : w4.cell? ⟨g, 10, none⟩ = some (.int .i64 ec) := (kc_ BK.out 10).trans rfl
  have hkf10 := kf_ BK.out 10
  have hv0 : w4.cell? ⟨gs, 0, none⟩ = some (.bool v.f0) := (kc_ BS.out 0).trans rfl
  have hv1 : w4.cell? ⟨gs, 1, none⟩ = some (.bool v.f1) := (kc_ BS.out 1).trans rfl
  have hv8 : w4.cell? ⟨gs, 8, none⟩ = some (.int .i64 v.f4) := (kc_ BS.out 8).trans rfl
  have hs := HS.out
  clear HS
  by_cases ce : ec = 0
  ·rw [if_pos ce] at hs
   subst ce
   by_cases c1 : v.f1 = true
   ·rw [if_pos c1] at hs
    obtain rfl := Option.some.inj hs
    rw [c1] at hv1
    clear hs
    go_wp2_with (first | (go_at_call 143; refine (lb_Clone A c l _ (Kd.C_below HC.out (below_set HB.out GE.out)) HL.out HCL.out).mono ?_; rintro r w5 ⟨vl, rfl, ho, hb⟩; obtain ⟨A', c', eo, hC'⟩ := lb_R (B := w.heap.size) ho (blk_lt (blk_put BK.out 10 (.int .i64 1) rfl)) (bz_ (below_set HB.out GE.out)); subst eo; have HC' := ak_ hC'; replace BK := ak_ (kb_ (blk_put BK.out 10 (.int .i64 1) rfl) hb); replace HB := ak_ (bt_ (below_set HB.out GE.out) hb); clear BS HC ho hb hC'; have hk0 : w5.cell? ⟨g, 0, none⟩ = some (.slice A l.length c) := (kc_ BK.out 0).trans rfl; have hkf0 := kf_ BK.out 0))
    go_ret
    exact ⟨g, rfl, ⟨GE.out, A', c', blk_put BK.out 0 _ rfl, Kd.R_far HC'.out (p := ⟨g, 0, none⟩) (fun _ hk => hk) _⟩, below_set HB.out GE.out⟩
   ·rw [if_neg c1] at hs
    have c1f : v.f1 = false := by simpa using c1
    rw [c1f] at hv1
    by_cases c0 : v.f0 = true
    ·rw [if_pos c0] at hs
     rw [c0] at hv0
     by_cases ci : 0 ≤ v.f4 ∧ v.f4 < (l.length : Int)
     ·rw [if_pos ci] at hs
      obtain ⟨i0, i1⟩ := ci
      obtain ⟨ad, ea, hx, hx1, hx2⟩ := at_T75 (Kd.C_below HC.out HB.out) v.f4 i0 i1
      subst ea
      have i0c := eq_true i0
      have i1c := eq_true i1
      clear i0 i1
      by_cases ck : (rd_T75 l v.f4).f0 = 5
      ·rw [if_pos ck] at hs
       obtain rfl := Option.some.inj hs
       have ckb : ((rd_T75 l v.f4).f0 == 5) = true := by simpa using ck
       clear hs
       go_wp2_with (first | (go_at_call 143; refine (lb_Clone (some ad) c l _ (Kd.C_below HC.out (below_set HB.out GE.out)) HL.out HCL.out).mono ?_; rintro r w5 ⟨vl, rfl, ho, hb⟩; obtain ⟨A', c', eo, hC'⟩ := lb_R (B := w.heap.size) ho (blk_lt (blk_put BK.out 10 (.int .i64 1) rfl)) (bz_ (below_set HB.out GE.out)); subst eo; have HC' := ak_ hC'; replace BK := ak_ (kb_ (blk_put BK.out 10 (.int .i64 1) rfl) hb); replace HB := ak_ (bt_ (below_set HB.out GE.out) hb); clear BS HC ho hb hC'; have hk0 : w5.cell? ⟨g, 0, none⟩ = some (.slice (some ad) l.length c) := (kc_ BK.out 0).trans rfl; have hkf0 := kf_ BK.out 0))
       go_ret
       exact ⟨g, rfl, ⟨GE.out, A', c', blk_put BK.out 0 _ rfl, Kd.R_far HC'.out (p := ⟨g, 0, none⟩) (fun _ hk => hk) _⟩, below_set HB.out GE.out⟩
      ·rw [if_neg ck] at hs
       obtain rfl := Option.some.inj hs
       have ckb : ((rd_T75 l v.f4).f0 == 5) = false := by simpa using ck
       clear hs
       go_wp2_with (first | (go_at_call 143; refine (lb_Clone (some ad) c l _ (Kd.C_below HC.out HB.out) HL.out HCL.out).mono ?_; rintro r w5 ⟨vl, rfl, ho, hb⟩; obtain ⟨A', c', eo, hC'⟩ := lb_R (B := w.heap.size) ho (blk_lt BK.out) (bz_ HB.out); subst eo; have HC' := ak_ hC'; replace BK := ak_ (kb_ BK.out hb); replace HB := ak_ (bt_ HB.out hb); clear BS HC ho hb hC'; have hk0 : w5.cell? ⟨g, 0, none⟩ = some (.slice (some ad) l.length c) := (kc_ BK.out 0).trans rfl; have hkf0 := kf_ BK.out 0))
       go_ret
       exact ⟨g, rfl, ⟨GE.out, A', c', blk_put BK.out 0 _ rfl, Kd.R_far HC'.out (p := ⟨g, 0, none⟩) (fun _ hk => hk) _⟩, below_set HB.out GE.out⟩
     ·rw [if_neg ci] at hs
      exact absurd hs (by simp)
    ·rw [if_neg c0] at hs
     obtain rfl := Option.some.inj hs
     have c0f : v.f0 = false := by simpa using c0
     rw [c0f] at hv0
     clear hs
     go_wp2_with (first | (go_at_call 143; refine (lb_Clone A c l _ (Kd.C_below HC.out HB.out) HL.out HCL.out).mono ?_; rintro r w5 ⟨vl, rfl, ho, hb⟩; obtain ⟨A', c', eo, hC'⟩ := lb_R (B := w.heap.size) ho (blk_lt BK.out) (bz_ HB.out); subst eo; have HC' := ak_ hC'; replace BK := ak_ (kb_ BK.out hb); replace HB := ak_ (bt_ HB.out hb); clear BS HC ho hb hC'; have hk0 : w5.cell? ⟨g, 0, none⟩ = some (.slice A l.length c) := (kc_ BK.out 0).trans rfl; have hkf0 := kf_ BK.out 0))
     go_ret
     exact ⟨g, rfl, ⟨GE.out, A', c', blk_put BK.out 0 _ rfl, Kd.R_far HC'.out (p := ⟨g, 0, none⟩) (fun _ hk => hk) _⟩, below_set HB.out GE.out⟩
  ·rw [if_neg ce] at hs
   obtain rfl := Option.some.inj hs
   have ceb : (ec == 0) = false := by simpa using ce
   clear hs
   go_wp2_with (first | (go_at_call 143; refine (lb_Clone A c l _ (Kd.C_below HC.out HB.out) HL.out HCL.out).mono ?_; rintro r w5 ⟨vl, rfl, ho, hb⟩; obtain ⟨A', c', eo, hC'⟩ := lb_R (B := w.heap.size) ho (blk_lt BK.out) (bz_ HB.out); subst eo; have HC' := ak_ hC'; replace BK := ak_ (kb_ BK.out hb); replace HB := ak_ (bt_ HB.out hb); clear BS HC ho hb hC'; have hk0 : w5.cell? ⟨g, 0, none⟩ = some (.slice A l.length c) := (kc_ BK.out 0).trans rfl; have hkf0 := kf_ BK.out 0))
   go_ret
   exact ⟨g, rfl, ⟨GE.out, A', c', blk_put BK.out 0 _ rfl, Kd.R_far HC'.out (p := ⟨g, 0, none⟩) (fun _ hk => hk) _⟩, below_set HB.out GE.out⟩
end Go.Proofs.Ytoljdfgkkkpnbaa.MP
