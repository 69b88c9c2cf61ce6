-- written by a program of this session (wip/tools/mprint.sh) for this seat
import Derived.Test.YtoljdfgkkkpnbaaMPx0
import Derived.Test.YtoljdfgkkkpnbaaMPx4
import Derived.Test.YtoljdfgkkkpnbaaMPx5
import Derived.RangeFuncNested
import Derived.RangeFuncBound
import Derived.RangeFuncCalls
import Derived.RangeFuncLeaves
import Derived.Shelf.Abstract
import Derived.OwnWalkIn
import Derived.TacticsInMore
import Derived.LoopNIn
import Derived.LoopIn
import Derived.Maps.AppendAt
import Derived.RegionIn
import Derived.Sort.CutIn
namespace Go.Proofs.Ytoljdfgkkkpnbaa.MP
open Go.RowKit Go.Proofs.YtoljdfgkkkpnbaaW.PrintWords Go.Proofs.YtoljdfgkkkpnbaaW.PrintLast Go.Proofs.YtoljdfgkkkpnbaaW.PrintMore
open Option (bind_eq_some_iff some.injEq)
open _root_.Go.Proofs.Try
open List (setIfInBounds_toArray set_cons_zero set_cons_succ map_toArray map_cons map_nil length_drop length_take)
attribute [local go_sem] max2_int min2_int max_two min_two max_three min_three max_four min_four
set_option linter.unusedVariables false
set_option linter.unusedSimpArgs false
section
open Go.Shelf
attribute [local go_sem] Oper.semAt_some
theorem s6_Chunk.calls (A : Option Addr) (n c : Nat) (w : World) : Calls Try.prog 69 #[.slice A n c, .int .i64 16] w fun e w' => e = .returned (.func (.func 110) #[] #[.pointer (some ⟨w.heap.size, 0, none⟩), .pointer (some ⟨w.heap.size + 1, 0, none⟩)]) ∧ w' = (w.alloc (.cells #[.slice A n c] 35)).alloc (.cells #[.int .i64 16] 3) := by
  have hmf : ∀ (fn : Fn) (first cap : Array Value) (w : World), (Instr.makeFunc fn first cap).run Try.prog w = .ok (.func fn first cap) w := fun _ _ _ _ => rfl
  have hb := blk_new (w.alloc (.cells #[.slice A n c] 35)) (.cells #[.int .i64 16] 3)
  have hz : (w.alloc (.cells #[.slice A n c] 35)).heap.size = w.heap.size + 1 := by simp
  rw [hz] at hb
  have y0 := (kc_ hb 0).trans rfl
  go_enter func69, ntmps69
  go_wp2
  go_ret
  exact ⟨by simp, rfl⟩
def Kp6 (B b1 b2 : Nat) (X Y : World) : Prop := Below B X Y ∧ ∀ b, (b = b1 ∨ b = b2) → ∀ o, X.heap[b]? = some o → o.isCells = true → Y.heap[b]? = some o
theorem Kp6.trans {B b1 b2 : Nat} {X Y Z : World} (h : Kp6 B b1 b2 X Y) (k : Kp6 B b1 b2 Y Z) : Kp6 B b1 b2 X Z := ⟨h.1.trans k.1, fun b hb o ho hc => k.2 b hb o (h.2 b hb o ho hc) hc⟩
theorem Kp6.refl (B b1 b2 : Nat) (X : World) : Kp6 B b1 b2 X X := ⟨Below.refl _ _, fun _ _ _ h _ => h⟩
theorem Kp6.of_below {B b1 b2 : Nat} {X Y : World} (hB : B ≤ X.heap.size) (h : Below X.heap.size X Y) : Kp6 B b1 b2 X Y := ⟨h.mono hB, fun b _ o ho _ => kb_ ho h⟩
set_option maxRecDepth 100000 in
set_option maxHeartbeats 4000000 in
theorem s6_chunk1_in (n : Nat) (hn : 1 ≤ n) (l Bs Bn : Nat) (ad : Addr) (m c : Nat) (hm : 16 * m ≤ 1000000) (hc : 16 * m ≤ c) (B : Nat) (J Jx : List (Fin m) → World → Prop)
   (W : World) (hJa : AbidesFrom W.heap.size J)
   (hY : ∀ pre x W, J pre W → pre.length < m → YieldAt Fence.wide (n - 1) Try.prog l #[.slice (some (ad.add (16 * x.val))) 16 16] W fun e W' =>
    (e = .returned (.bool true) ∧ J (pre ++ [x]) W' ∧ Kp6 B Bs Bn W W') ∨ (e = .returned (.bool false) ∧ Jx (pre ++ [x]) W'))
   (hB : B ≤ W.heap.size) (hBs : W.heap[Bs]? = some (.cells #[.slice (some ad) (16 * m) c] 35 (0, 0))) (hBn : W.heap[Bn]? = some (.cells #[.int .i64 16] 3 (0, 0))) (h0 : J [] W) :
   CallsIn Fence.wide n Try.prog 110 #[.func (.yield l) #[] #[], .pointer (some ⟨Bs, 0, none⟩), .pointer (some ⟨Bn, 0, none⟩)] W fun e W' => (∃ v, e = .returned v) ∧ ((∃ ys, ys.map Fin.val = List.range m ∧ J ys W') ∨ (∃ pre, True ∧ Jx pre W')) := by
  refine callsIn_of_wp func110 rfl trivial ?_ rfl
  simp only [ntmps110, List.size_toArray, List.length_cons, List.length_nil, Nat.reduceAdd, Nat.reduceSub, Array.replicate_succ, Array.replicate_zero, List.push_toArray, List.append_toArray, List.nil_append, List.cons_append]
  gi_wp2
  gi_loopw [4] (fun i wr => ∃ (k : Nat), k ≤ m ∧ i = .int .i64 (16 * k : Nat) ∧ (∃ pre : List (Fin m), pre.map Fin.val = List.range k ∧ J pre wr) ∧ Kp6 B Bs Bn W wr)
   (fun i _ => 16 * m - (intOf i).toNat)
  case atStart => exact ⟨0, Nat.zero_le _, rfl, ⟨[], rfl, h0⟩, Kp6.refl _ _ _ _⟩
  case round =>
   obtain ⟨k, hk, rfl, ⟨pre, hpre, hJ⟩, hBr⟩ := hrel
   have b1 := hBr.2 Bs (.inl rfl) _ hBs rfl
   have b2 := hBr.2 Bn (.inr rfl) _ hBn rfl
   have y1 : wr.cell? ⟨Bs, 0, none⟩ = some (.slice (some ad) (16 * m) c) := (kc_ b1 0).trans rfl
   have y2 : wr.cell? ⟨Bn, 0, none⟩ = some (.int .i64 16) := (kc_ b2 0).trans rfl
   have HBr := ak_ hBr
   by_cases hlt : k < m
   ·have hkd : decide (((16 * k : Nat) : Int) < ((16 * m : Nat) : Int)) = true := decide_eq_true (by omega)
    gi_wp2
    gi_region
    have hJ2 : J pre wr.drew := hJa _ _ _ none hJ ⟨rfl, rfl, rfl, Nat.le_refl _, fun _ _ _ => rfl⟩ (fun r e => by cases e)
    obtain ⟨fn, tmps, assign, body, hy, hRn⟩ := hY pre ⟨k, hlt⟩ _ hJ2 (by have := congrArg List.length hpre; simp only [List.length_map, List.length_range] at this; omega)
    (try dsimp only at hy)
    obtain ⟨q, hq⟩ : ∃ q, q = 16 * k := ⟨_, rfl⟩
    have e1 : q + 16 ≤ c := by omega
    have e2 : q ≤ 1000000 := by omega
    rw [← hq] at hy hkd ⊢
    have HQ := ak_ hq
    clear hq
    gi_wp2
    refine hRn.mono ?_
    rintro e W3 (⟨rfl, hJ3, hk3⟩ | ⟨rfl, hJx3⟩)
    ·have c1 := hk3.2 Bn (.inr rfl) _ b2 rfl
     have c1c : W3.cell? ⟨Bn, 0, none⟩ = some (.int .i64 16) := (kc_ c1 0).trans rfl
     clear c1
     gi_wp2
     go_roundw
     case rel => exact ⟨k + 1, by omega, by have := HQ.out; simp only [Value.int.injEq, true_and]; omega, ⟨_, by rw [List.map_append, hpre, List.range_succ]; rfl, hJ3⟩, HBr.out.trans ((Kp6.of_below (Y := wr.drew) (Nat.le_trans hB HBr.out.1.size) (bd_ (Below.refl _ _))).trans hk3)⟩
     case measure => have := HQ.out; simp [intOf]; omega
    ·gi_wp2
     refine bodyPost_ret (results_none rfl _ _ _) rfl ?_
     exact ⟨⟨_, rfl⟩, .inr ⟨_, trivial, hJx3⟩⟩
   ·obtain rfl : k = m := by omega
    have hkd : decide (((16 * k : Nat) : Int) < ((16 * k : Nat) : Int)) = false := decide_eq_false (by omega)
    gi_wp2
    go_end0
    exact ⟨⟨_, rfl⟩, .inl ⟨_, hpre, hJ⟩⟩
end
theorem k6_putObj {B b1 b2 : Nat} {n0 : Nat} (hn : B ≤ n0) (W : World) (l : Nat) (o o' : Obj) (hl : n0 ≤ l) (h : W.heap[l]? = some o) (hc : o.isCells = false) (hw : o.isWalk = false) : Kp6 B b1 b2 W (W.putObj l o') := by
  refine ⟨(Below.refl B W).grown (grownBy_putObj' W l o') (by have := (Array.getElem?_eq_some_iff.1 h).1; omega) (fun k e => by cases e; omega), fun b _ ob hob hcb => ?_⟩
  rw [World.putObj_heap_other (fun e => by subst e; rw [h] at hob; cases hob; rw [hc] at hcb; cases hcb)]
  exact hob
theorem k6_low {B b1 b2 : Nat} {X Y : World} (h : Below B X Y) (h1 : b1 < B) (h2 : b2 < B) : Kp6 B b1 b2 X Y :=
  ⟨h, fun b hb o ho _ => by rcases hb with rfl | rfl; exact (h.block _ h1).trans ho; exact (h.block _ h2).trans ho⟩
def pc6 (ad : Addr) (k : Nat) : Value := .slice (some (ad.add (16 * k))) 16 16
def App6 (w : World) (B : Nat) (ad : Addr) (m : Nat) (pre : List (Fin m)) (W : World) : Prop := (∃ v, Boxed W B 111 v ∧ W.ownsRow w.heap.size 35 1 v pre.length (pre.map fun x => pc6 ad x.val) ∧ True) ∧ Below w.heap.size w W
theorem app6_own (w : World) (B : Nat) (ad : Addr) (m : Nat) (B0 : Nat) (h : w.heap.size ≤ B0) : OwnFrom B0 (App6 w B ad m) :=
  OwnFrom.and (Own.from (fun s X Y row hs hg hr => holdsRow_own w.heap.size B 111 35 1 (fun pre : List (Fin m) => pre.length) (fun pre => pre.map fun x => pc6 ad x.val) (fun _ _ => True) s X Y row hs hg hr) _) (ownFrom_below (Nat.le_refl _) h)
theorem one_new6 (W : World) (a : Value) (ty : TypeId) : ∀ j u, [a][j]? = some u → (W.alloc (.cells #[a] ty)).cell? ((⟨W.heap.size, 0, none⟩ : Addr).add j) = some u := by
  intro j u hj
  rw [add_plain]
  match j with
  | 0 => simp at hj; subst hj; simp
  | j + 1 => simp at hj
theorem info_p6 : (Try.prog.info? 35).map (fun i => (i.zero, i.size, i.bytes)) = some (some (.slice none 0 0), 1, 24) := by kernel_rfl
section
open Go.Shelf
attribute [local go_sem] Oper.semAt_some
set_option maxHeartbeats 8000000 in
set_option maxRecDepth 100000 in
theorem s6_AppendSeq.calls (Bs Bn : Nat) (ad : Addr) (m c : Nat) (hm : 16 * m ≤ 1000000) (hc : 16 * m ≤ c) (w : World) (hBs : w.heap[Bs]? = some (.cells #[.slice (some ad) (16 * m) c] 35 (0, 0))) (hBn : w.heap[Bn]? = some (.cells #[.int .i64 16] 3 (0, 0))) :
   Calls Try.prog 113 #[.slice none 0 0, .func (.func 110) #[] #[.pointer (some ⟨Bs, 0, none⟩), .pointer (some ⟨Bn, 0, none⟩)]] w fun e w' => ∃ v0_ : Value, e = .returned v0_ ∧ w'.ownsRow w.heap.size 35 1 v0_ m ((List.range m).map (pc6 ad)) ∧ Below w.heap.size w w' := by
  have HM := ak_ hm
  have HC := ak_ hc
  have HBS := ak_ hBs
  have HBN := ak_ hBn
  have hlt1 : Bs < w.heap.size := blk_lt hBs
  have hlt2 : Bn < w.heap.size := blk_lt hBn
  clear hm hc hBs hBn
  refine (callsIn_wide (n := 5)).1 ?_
  refine callsIn_of_wp_marks func113 rfl trivial ?_ rfl
  simp only [ntmps113, List.size_toArray, List.length_cons, List.length_nil, Nat.reduceAdd, Nat.reduceSub, Array.replicate_succ, Array.replicate_zero, List.push_toArray, List.append_toArray, List.nil_append, List.cons_append]
  have bO := Boxed.new w 111 (.slice none 0 0)
  have hb2 : Below w.heap.size w (w.alloc (.cells #[.slice none 0 0] 111)) := ba_ (Below.refl _ _) _
  obtain ⟨W0, hW0⟩ : ∃ W0, w.alloc (.cells #[.slice none 0 0] 111) = W0 := ⟨_, rfl⟩
  have hz0 : W0.heap.size = w.heap.size + 1 := by rw [← hW0]; simp
  gi_wp2
  rw [hW0] at bO hb2
  have HB3 := ak_ hb2
  have hs0 := ak_ (kb_ HBS.out hb2)
  have hn0 := ak_ (kb_ HBN.out hb2)
  clear hb2
  refine wpIn_rangeFunc_ownH (α := Fin m) (encs := fun x => #[(.slice (some (ad.add (16 * x.val))) 16 16)]) (Kp := Kp6 w.heap.size Bs Bn)
   (S := fun ys => ys.map Fin.val = List.range m) (Sp := fun _ => True) (N := m) (w0 := W0) rfl (by omega) (gf := 110) (lb := #[.pointer (some ⟨Bs, 0, none⟩), .pointer (some ⟨Bn, 0, none⟩)]) rfl trivial (enters_of func110 (by kernel_rfl) rfl)
   (fun l J Jx W hW hJa _ hY h0 => s6_chunk1_in (5 - 1) (by omega) l Bs Bn ad m c HM.out HC.out w.heap.size J Jx W hJa hY (by have := hW.size; omega) (kb_ hs0.out hW) (kb_ hn0.out hW) h0)
   (fun h1 h2 => h1.trans h2)
   (fun W l o o' h1 h2 h3 h4 => k6_putObj (n0 := W0.heap.size) (by omega) W l o o' h1 h2 h3 h4)
   (Below.refl _ _) (fun _ => rfl)
   (App6 w w.heap.size ad m)
   (fun _ _ _ => False)
   (app6_own w _ _ _ _ (by omega))
   (fun _ _ _ _ _ hs _ _ => hs)
   ⟨⟨_, bO, World.ownsRow_nil _ _ _ _, trivial⟩, HB3.out⟩
   (fun x a' W => a' = { tmps := #[.slice none 0 0, .func (.func 110) #[] #[.pointer (some ⟨Bs, 0, none⟩), .pointer (some ⟨Bn, 0, none⟩)], .pointer (some ⟨w.heap.size, 0, none⟩), undef, .slice none 0 0, (.slice (some (ad.add (16 * x.val))) 16 16), .func (.func 110) #[] #[.pointer (some ⟨Bs, 0, none⟩), .pointer (some ⟨Bn, 0, none⟩)], (.slice (some (ad.add (16 * x.val))) 16 16), undef, undef, undef, undef, undef], defers := [] })
   ?hAx ?assign ?body ?done ?stop
  case hAx => exact fun x a' _ X Y row h _ _ => h
  case stop =>
   rintro D c pre W hD _ h _
   exact h.elim
  case assign =>
   intro l pre x W K hI hK
   gi_wp2
   exact hK _ _ ((KeepsOthers.refl _).from _) (Kp6.refl _ _ _ _) hI rfl
  case body =>
   rintro l pre x a' W hl ⟨r, hr⟩ ⟨⟨v, hbo, hrow, _⟩, hB⟩ rfl hltN
   obtain ⟨i0, hi0, hz0_, hz1_, hz2_⟩ := info_parts info_p6
   have hlen := HM.out
   have hbc := hbo.cell
   have HBO := ak_ hbo
   have HROW := ak_ hrow
   have HB := ak_ hB
   clear hbo hB
   gi_wp2_with (gi_at_builtin; refine wpListIn_append_own _ rfl _ _ 111 rfl w.heap.size 35 i0 (.slice none 0 0) 1 24 underlying111 hi0 hz0_ hz1_ hz2_ rfl (by decide) _ _ _ rfl (hrow.alloc _) ⟨W.heap.size, 0, none⟩ 1 1 [(.slice (some (ad.add (16 * x.val))) 16 16)] rfl rfl (one_new6 _ _ _) (by simp [Value.oneCell']) (by unfold maxLen; omega) (by omega) (by have := HB.out.size; simp; omega) ?_; intro v' w1' hown' hgrow _; obtain ⟨g', cap', rfl⟩ := ownsRow_succ hown'; obtain ⟨hv1, hv2, hr2, hk2, hb2⟩ := HBO.out.appended (by decide) HROW.out HB.out.size (by omega) hown' hgrow; have hc1 := hv1.cell; have hf1 := hv1.frozen)
   exact ⟨hk2.from _, k6_low hb2 hlt1 hlt2, ⟨_, hv2, by simpa [List.map_append, pc6] using hr2, trivial⟩, HB.out.trans hb2⟩
  case done =>
   rintro D ys W hD hys ⟨⟨v, hbo, hrow, _⟩, hB⟩ hK
   have hbc := hbo.cell
   gi_wp2
   refine ⟨by simp, .inl ⟨_, _, rfl, run_takeDeferred hK, ?_⟩⟩
   have hl : ys.length = m := by have := congrArg List.length hys; simpa using this
   have hmap : (ys.map fun x => pc6 ad x.val) = (List.range m).map (pc6 ad) := by rw [← hys, List.map_map]; rfl
   rw [hl, hmap] at hrow
   exact ⟨_, results_tmp rfl _ _ _, v, rfl, ownsRow_putObj hrow _ hK rfl, hB.trans (k6_putObj (b1 := Bs) (b2 := Bn) (n0 := W0.heap.size) (by omega) W D _ _ hD hK rfl rfl).1⟩
end
set_option maxHeartbeats 4000000 in
set_option maxRecDepth 100000 in
theorem s6_Collect.calls (Bs Bn : Nat) (ad : Addr) (m c : Nat) (hm : 16 * m ≤ 1000000) (hc : 16 * m ≤ c) (w : World) (hBs : w.heap[Bs]? = some (.cells #[.slice (some ad) (16 * m) c] 35 (0, 0))) (hBn : w.heap[Bn]? = some (.cells #[.int .i64 16] 3 (0, 0))) :
   Calls Try.prog 78 #[.func (.func 110) #[] #[.pointer (some ⟨Bs, 0, none⟩), .pointer (some ⟨Bn, 0, none⟩)]] w fun e w' => ∃ v0_ : Value, e = .returned v0_ ∧ w'.ownsRow w.heap.size 35 1 v0_ m ((List.range m).map (pc6 ad)) ∧ Below w.heap.size w w' := by
  have AS := ak_ (fun (W : World) (h1 : W.heap = w.heap) => s6_AppendSeq.calls Bs Bn ad m c hm hc W (by rw [h1]; exact hBs) (by rw [h1]; exact hBn))
  clear hm hc hBs hBn
  go_enter func78, ntmps78
  go_wp2_with (go_at_call 113; refine (AS.out _ rfl).mono ?_; rintro e w' ⟨v0, rfl, ho, hb⟩; have HO := ak_ ho; have HB := ak_ hb; clear ho hb)
  go_ret
  exact ⟨_, rfl, HO.out, HB.out⟩
theorem r6_some {P : Program} {t e : TypeId} {kl : IntKind} {i : TypeInfo} (ht : P.underlying t = some (.slice e)) (hi : P.info? e = some i) (hsz : i.size = 1) {ad : Addr} {n c n' c' : Nat} {j : Int} {A' : Option Addr} {w : World} (h0 : 0 ≤ j) (hm : j ≤ n) (h : (Instr.slice t (.slice (some ad) n c) (some (.int kl j)) none none).run P w = .ok (.slice A' n' c') w) : ∃ ad', A' = some ad' := by
  have hel : P.elem t = e := by simp [Program.elem, ht]
  have hu : P.underlying t = some (.slice (P.elem t)) := by rw [hel]; exact ht
  rw [run_slice_l w t (some ad) n c hu kl j h0 hm, hel] at h
  simp [sizeOf, typeInfo, hi, hsz, sliced, Result.andThen] at h
  obtain ⟨h, _⟩ := h
  split at h
  ·exact ⟨_, h.symm⟩
  ·exact ⟨_, h.symm⟩
theorem r6_two {B : Nat} {w wx W : World} {a b : Obj} (hB : Below B w wx) (hBs : B ≤ wx.heap.size) (hW : W = (wx.alloc a).alloc b) : W.heap[wx.heap.size]? = some a ∧ W.heap[wx.heap.size + 1]? = some b ∧ Below B w W ∧ Below wx.heap.size wx W := by
  subst hW
  have h1 := blk_new wx a
  have h2 := blk_new (wx.alloc a) b
  rw [show (wx.alloc a).heap.size = wx.heap.size + 1 by simp] at h2
  have h3 : Below wx.heap.size wx ((wx.alloc a).alloc b) := ba_ (ba_ (Below.refl _ _) _) _
  exact ⟨ka_ h1 b, h2, hB.trans (h3.mono hBs), h3⟩
theorem r6_row {W : World} {B m : Nat} {v : Value} {ad : Addr} (h : W.ownsRow B 35 1 v m ((List.range m).map (pc6 ad))) : ∃ A c, v = .slice A m c ∧ ReadsOf (pc6 ad) 0 W A m (List.range m) := own_reads_of (enc := pc6 ad) h
theorem r6_at {W : World} {A : Option Addr} {m : Nat} {ad : Addr} (h : ReadsOf (pc6 ad) 0 W A m (List.range m)) (x : Int) (h0 : 0 ≤ x) (h1 : x < (m : Int)) : ∃ a, A = some a ∧ W.cell? (a.add x.toNat) = some (.slice (some (ad.add (16 * x.toNat))) 16 16) := by
  obtain ⟨a, e, hc⟩ := h.at_ x h0 h1
  refine ⟨a, e, hc.trans ?_⟩
  have hx : x.toNat < m := by omega
  simp [rdOf, pc6, List.getD, List.getElem?_range hx]
theorem r6_len {l : List Int} {n : Nat} (h1 : (l.length : Int) ≤ 65536) (h2 : 11 ≤ (l.length : Int)) (h : (l.length : Int) = wrap64 (11 + wrap64 (16 * (n : Int)))) : ∃ m, l.length = 11 + 16 * m ∧ (l.drop 11).length = 16 * m ∧ m ≤ 4096 ∧ wrap64 (((l.drop 11).length : Int) / 16) = (m : Int) := by
  refine ⟨(l.length - 11) / 16, ?_, ?_, ?_, ?_⟩
  all_goals ((try simp only [List.length_drop]); unfold wrap64 at *; omega)
theorem r6_piece {W : World} {ad : Addr} {l : List Int} {m c : Nat} {x a b : Int} (h : Kd.C (Kd.int .u8) W (some ad) (l.drop 11).length (l.drop 11)) (hl : (l.drop 11).length = 16 * m) (hc : 16 * m ≤ c) (hx : 0 ≤ x) (hm : x < (m : Int)) (hM : m ≤ 4096) (ha : wrap64 (11 + wrap64 (16 * x)) = a) (hb : wrap64 (27 + wrap64 (16 * x)) = b) :
   Kd.C (Kd.int .u8) W (some (ad.add (16 * x.toNat))) ((l.take b.toNat).drop a.toNat).length ((l.take b.toNat).drop a.toNat) ∧ ((l.take b.toNat).drop a.toNat).length = 16 ∧ 0 ≤ wrap64 (x + 1) := by
  have ea : a.toNat = 11 + 16 * x.toNat := by subst ha; unfold wrap64; omega
  have eb : b.toNat = 27 + 16 * x.toNat := by subst hb; unfold wrap64; omega
  have hlen : l.length = 11 + 16 * m ∨ m = 0 := by rw [List.length_drop] at hl; omega
  have hp : (l.take b.toNat).drop a.toNat = ((l.drop 11).take (16 * x.toNat + 16)).drop (16 * x.toNat) := by
   rw [ea, eb, List.take_drop, List.drop_drop, show 27 + 16 * x.toNat = 11 + (16 * x.toNat + 16) by omega]
  have h2 := Kd.C_mid (lo := 16 * x.toNat) (hi := 16 * x.toNat + 16) (c := c) h (by omega) (by omega) (by omega)
  rw [if_neg (by omega), show 16 * x.toNat * (Kd.int .u8).sz = 16 * x.toNat from Nat.mul_one _] at h2
  rw [hp]
  refine ⟨h2, ?_, by unfold wrap64; omega⟩
  rw [List.length_drop, List.length_take]; omega
def bA7 (k n : Nat) : Array Bool := (Array.range n).map fun i => decide (i < k)
mutual
def image_Read.j0 : Nat → List Int → Int → Int → Int → List (S65) → List (S39) → Bool → Option (Int × Int × Int × (List (S65)) × Int)
  | 0, _, _, _, _, _, _, _ => none
  | k + 1, x0, x2, x3, x4, x5, x7, x54 => if x54 = true then (some (0, 0, 0, ([] : List (S65)), 2)) else (if 11 ≤ (x0.length : Int) then (image_Read.l0 k x0 x2 x3 x4 x5 x7 (wrap64 (((x0.drop 11).length : Int) / 16)) 0) else (none))
def image_Read.l0 : Nat → List Int → Int → Int → Int → List (S65) → List (S39) → Int → Int → Option (Int × Int × Int × (List (S65)) × Int)
  | 0, _, _, _, _, _, _, _, _ => none
  | k + 1, x0, x2, x3, x4, x5, x7, x59, x60 => if x60 < x59 then (if 0 ≤ (wrap64 (11 + (wrap64 (16 * x60)))) then (if (wrap64 (11 + (wrap64 (16 * x60)))) ≤ (wrap64 (27 + (wrap64 (16 * x60)))) then (if (wrap64 (27 + (wrap64 (16 * x60)))) ≤ (x0.length : Int) then ((mix_Of.f k ((x0.take ((wrap64 (27 + (wrap64 (16 * x60)))) : Int).toNat).drop ((wrap64 (11 + (wrap64 (16 * x60)))) : Int).toNat)).bind fun bt367 => (if bt367.2.2 = 0 then (if 0 ≤ x60 then (if x60 < (x7.length : Int) then (if x5.length < 1759218604441 then (image_Read.l0 k x0 x2 x3 x4 (x5 ++ [(⟨(⟨(rd_T39 x7 x60).f0, (rd_T39 x7 x60).f1⟩ : S39), (⟨false, false, (⟨bt367.1, bt367.2.1⟩ : S25), (⟨(⟨0, 0⟩ : S25), (⟨0, 0⟩ : S25)⟩ : S27), 0⟩ : S29)⟩ : S65)]) x7 x59 (wrap64 (x60 + 1))) else (none)) else (none)) else (none)) else (some (0, 0, 0, ([] : List (S65)), bt367.2.2)))) else (none)) else (none)) else (none)) else (some (x2, x3, x4, x5, 0))
end
def image_Read.f (k : Nat) (l0 : List Int) : Option (Int × Int × Int × (List (S65)) × Int) := if (l0.length : Int) > 65536 then (some (0, 0, 0, ([] : List (S65)), 3)) else (if (l0.length : Int) < 11 then (some (0, 0, 0, ([] : List (S65)), 2)) else (if 0 < (l0.length : Int) then (if (rd l0 0) = 1 then (if 1 < (l0.length : Int) then (if 2 < (l0.length : Int) then (if 3 ≤ 11 then (if 11 ≤ (l0.length : Int) then ((image_number.f k ((l0.take 11).drop 3)).bind fun t360 => ((store_Pairs.f k (wrap64 (rd l0 2)) (wrap64 (rd l0 1)) t360).bind fun bt361 => (if bt361.2 = 0 then (image_Read.j0 k l0 (wrap64 (rd l0 2)) (wrap64 (rd l0 1)) t360 ([] : List (S65)) bt361.1 ((l0.length : Int) != (wrap64 (11 + (wrap64 (16 * (bt361.1.length : Int))))))) else (image_Read.j0 k l0 (wrap64 (rd l0 2)) (wrap64 (rd l0 1)) t360 ([] : List (S65)) bt361.1 true)))) else (none)) else (none)) else (none)) else (none)) else (some (0, 0, 0, ([] : List (S65)), 2))) else (none)))
theorem image_Read.mono_l : ∀ k, (∀ y0 y1 y2 y3 y4 y5 y6, LeO (image_Read.j0 k y0 y1 y2 y3 y4 y5 y6) (image_Read.j0 (k + 1) y0 y1 y2 y3 y4 y5 y6)) ∧ (∀ y0 y1 y2 y3 y4 y5 y6 y7, LeO (image_Read.l0 k y0 y1 y2 y3 y4 y5 y6 y7) (image_Read.l0 (k + 1) y0 y1 y2 y3 y4 y5 y6 y7))
  | 0 => ⟨fun _ _ _ _ _ _ _ r h => by simp [image_Read.j0] at h, fun _ _ _ _ _ _ _ _ r h => by simp [image_Read.l0] at h⟩
  | k + 1 => by
   obtain ⟨ih0, ih1⟩ := image_Read.mono_l k
   refine ⟨?_, ?_⟩
   ·intro y0 y1 y2 y3 y4 y5 y6
    unfold image_Read.j0
    repeat' first
    | (with_reducible exact ih0 _ _ _ _ _ _ _)
    | (with_reducible exact ih1 _ _ _ _ _ _ _ _)
    | (with_reducible exact image_number.mono _ _)
    | (with_reducible exact mix_Of.mono _ _)
    | (with_reducible exact store_Pairs.mono _ _ _ _)
    | (with_reducible exact LeO.refl _)
    | (with_reducible exact LeO.none _)
    | (with_reducible refine LeO.ite ?_ ?_)
    | (with_reducible refine LeO.bind ?_ (fun _ => ?_))
    | exact ih0 _ _ _ _ _ _ _
    | exact ih1 _ _ _ _ _ _ _ _
    | exact image_number.mono _ _
    | exact mix_Of.mono _ _
    | exact store_Pairs.mono _ _ _ _
    | exact LeO.none _
    | refine LeO.ite ?_ ?_
    | refine LeO.bind ?_ (fun _ => ?_)
   ·intro y0 y1 y2 y3 y4 y5 y6 y7
    unfold image_Read.l0
    repeat' first
    | (with_reducible exact ih0 _ _ _ _ _ _ _)
    | (with_reducible exact ih1 _ _ _ _ _ _ _ _)
    | (with_reducible exact image_number.mono _ _)
    | (with_reducible exact mix_Of.mono _ _)
    | (with_reducible exact store_Pairs.mono _ _ _ _)
    | (with_reducible exact LeO.refl _)
    | (with_reducible exact LeO.none _)
    | (with_reducible refine LeO.ite ?_ ?_)
    | (with_reducible refine LeO.bind ?_ (fun _ => ?_))
    | exact ih0 _ _ _ _ _ _ _
    | exact ih1 _ _ _ _ _ _ _ _
    | exact image_number.mono _ _
    | exact mix_Of.mono _ _
    | exact store_Pairs.mono _ _ _ _
    | exact LeO.none _
    | refine LeO.ite ?_ ?_
    | refine LeO.bind ?_ (fun _ => ?_)
theorem image_Read.mono : ∀ a0 k, LeO (image_Read.f k a0) (image_Read.f (k + 1) a0) := by
  intro a0 k
  obtain ⟨ih0, ih1⟩ := image_Read.mono_l k
  unfold image_Read.f
  repeat' first
    | (with_reducible exact ih0 _ _ _ _ _ _ _)
    | (with_reducible exact ih1 _ _ _ _ _ _ _ _)
    | (with_reducible exact image_number.mono _ _)
    | (with_reducible exact mix_Of.mono _ _)
    | (with_reducible exact store_Pairs.mono _ _ _ _)
    | (with_reducible exact LeO.refl _)
    | (with_reducible exact LeO.none _)
    | (with_reducible refine LeO.ite ?_ ?_)
    | (with_reducible refine LeO.bind ?_ (fun _ => ?_))
    | exact ih0 _ _ _ _ _ _ _
    | exact ih1 _ _ _ _ _ _ _ _
    | exact image_number.mono _ _
    | exact mix_Of.mono _ _
    | exact store_Pairs.mono _ _ _ _
    | exact LeO.none _
    | refine LeO.ite ?_ ?_
    | refine LeO.bind ?_ (fun _ => ?_)
def image_Read.T5 : Bool × List (List Nat × List Nat) := (true, [([], []), ([0], [0]), ([1], [1]), ([2], [2]), ([], []), ([4], [4]), ([5], [5]), ([6], [6]), ([], []), ([8], [8]), ([9], [9]), ([3, 10, 0, 1, 2, 3], [3]), ([7, 11, 0, 1, 2, 3, 4, 5, 6, 7, 11], [7]), ([10, 12, 0, 1, 2, 3, 4, 5, 6, 7, 8, 9, 10, 11, 12], [10])])
def image_Read.B5 : List Nat := [0, 1, 3, 7, 0, 16, 48, 112, 0, 256, 768, 1807, 4095, 8191]
theorem image_Read.tab5 : rtab .any (opsOf Try.f35 5) = image_Read.T5 := by kernel_rfl
theorem image_Read.bits5 : waitsOk image_Read.T5.2 image_Read.B5 = true := by kernel_rfl
def image_Read.T15 : Bool × List (List Nat × List Nat) := (true, [([], []), ([], []), ([], []), ([1, 2], [1, 2]), ([3], [3]), ([], []), ([5], [5]), ([4, 6], [4, 6]), ([7], [7]), ([0, 8], [0, 8]), ([9, 9, 0, 1, 2, 3, 4, 5, 6, 7, 8, 9], [0, 9])])
def image_Read.B15 : List Nat := [0, 0, 0, 6, 14, 0, 32, 126, 254, 511, 1023]
theorem image_Read.tab15 : rtab .any (opsOf Try.f35 15) = image_Read.T15 := by kernel_rfl
theorem image_Read.bits15 : waitsOk image_Read.T15.2 image_Read.B15 = true := by kernel_rfl
set_option maxHeartbeats 8000000 in
set_option maxRecDepth 100000 in
theorem image_Read.calls (k : Nat) (A0 : Option Addr) (c0 : Nat) (l0 : List Int) (r1 : Int) (r2 : Int) (r3 : Int) (r4 : List (S65)) (r5 : Int) (w : World) (hr0 : Kd.C (Kd.int .u8) w A0 l0.length l0) (hc0 : l0.length ≤ c0) (h : image_Read.f k l0 = some (r1, r2, r3, r4, r5)) :
   Calls Try.prog 35 #[.slice A0 l0.length c0] w fun e w' => ∃ v3_ : Value, e = .returned (.tuple #[.int .i64 r1, .int .i64 r2, .int .u64 r3, v3_, .int .i64 r5]) ∧ Kd.R k65 65 w' w.heap.size (fun _ => True) v3_ r4 ∧ Below w.heap.size w w' := by
  have hu25 := underlying25
  have hu39 := underlying39
  have hu29 := underlying29
  have hu65 := underlying65
  have HR0 := ak_ hr0
  have HC0 := ak_ hc0
  clear hr0 hc0
  have HB := ak_ (Below.refl w.heap.size w)
  have H : (if (l0.length : Int) > 65536 then (some (0, 0, 0, ([] : List (S65)), 3)) else (if (l0.length : Int) < 11 then (some (0, 0, 0, ([] : List (S65)), 2)) else (if 0 < (l0.length : Int) then (if (rd l0 0) = 1 then (if 1 < (l0.length : Int) then (if 2 < (l0.length : Int) then (if 3 ≤ 11 then (if 11 ≤ (l0.length : Int) then ((image_number.f k ((l0.take 11).drop 3)).bind fun t360 => ((store_Pairs.f k (wrap64 (rd l0 2)) (wrap64 (rd l0 1)) t360).bind fun bt361 => (if bt361.2 = 0 then (image_Read.j0 k l0 (wrap64 (rd l0 2)) (wrap64 (rd l0 1)) t360 ([] : List (S65)) bt361.1 ((l0.length : Int) != (wrap64 (11 + (wrap64 (16 * (bt361.1.length : Int))))))) else (image_Read.j0 k l0 (wrap64 (rd l0 2)) (wrap64 (rd l0 1)) t360 ([] : List (S65)) bt361.1 true)))) else (none)) else (none)) else (none)) else (none)) else (some (0, 0, 0, ([] : List (S65)), 2))) else (none)))) = some (r1, r2, r3, r4, r5) := h
  clear h
  by_cases c2 : (l0.length : Int) > 65536
  ·rw [if_pos c2] at H
   have c2b0 : decide (65536 < (l0.length : Int)) = true := decide_eq_true c2
   have c2b1 : decide (65536 < l0.length) = true := decide_eq_true (by omega)
   clear c2
   simp only [some.injEq, Prod.mk.injEq] at H
   obtain ⟨rfl, rfl, rfl, rfl, rfl⟩ := H
   go_enter func35, ntmps35
   go_wp2
   refine bodyPost_ret (results_list (rs := [.tmp 2, .tmp 3, .tmp 4, .tmp 5, .tmp 6]) rfl (by simp) (.tmp (.tmp (.tmp (.tmp (.tmp .nil)))))) rfl ?_
   exact ⟨_, by first | rfl | (simp <;> rfl) | (simp [*] <;> rfl), by first | exact Kd.R_nil _ _ _ _ _ | exact Kd.N_nil _ _ _ _ _ | exact Kd.V_nil _ _ _ _ _ | exact Kd.Q_nil _ _ _ _ _ | exact Kd.S_nil _ _ _ _ _, bl_ HB⟩
  ·rw [if_neg c2] at H
   have c2b0 : decide (65536 < (l0.length : Int)) = false := decide_eq_false c2
   have c2b1 : decide (65536 < l0.length) = false := decide_eq_false (by omega)
   have HMX_ : Aside0 ((l0.length : Int) ≤ 65536) := ⟨by omega⟩
   clear c2
   by_cases c3 : (l0.length : Int) < 11
   ·rw [if_pos c3] at H
    have c3b0 := decide_eq_true c3
    have c3b1 : decide (l0.length < 11) = true := decide_eq_true (by omega)
    clear c3
    simp only [some.injEq, Prod.mk.injEq] at H
    obtain ⟨rfl, rfl, rfl, rfl, rfl⟩ := H
    go_enter func35, ntmps35
    go_wp2
    refine bodyPost_ret (results_list (rs := [.tmp 2, .tmp 3, .tmp 4, .tmp 5, .tmp 6]) rfl (by simp) (.tmp (.tmp (.tmp (.tmp (.tmp .nil)))))) rfl ?_
    exact ⟨_, by first | rfl | (simp <;> rfl) | (simp [*] <;> rfl), by first | exact Kd.R_nil _ _ _ _ _ | exact Kd.N_nil _ _ _ _ _ | exact Kd.V_nil _ _ _ _ _ | exact Kd.Q_nil _ _ _ _ _ | exact Kd.S_nil _ _ _ _ _, bl_ HB⟩
   ·rw [if_neg c3] at H
    have c3b0 := decide_eq_false c3
    have c3b1 : decide (l0.length < 11) = false := decide_eq_false (by omega)
    clear c3
    by_cases c4 : 0 < (l0.length : Int)
    ·rw [if_pos c4] at H
     have c4b0 := decide_eq_true c4
     have c4b1 : decide (0 < l0.length) = true := decide_eq_true (by omega)
     clear c4
     by_cases c5 : (rd l0 0) = 1
     ·rw [if_pos c5] at H
      have c5b0 : ((rd l0 0) == 1) = true := beq_iff_eq.mpr c5
      have c5b1 : ((rd l0 0) != 1) = false := bne_eq_false_iff_eq.mpr c5
      clear c5
      by_cases c6 : 1 < (l0.length : Int)
      ·rw [if_pos c6] at H
       have c6b0 := decide_eq_true c6
       have c6b1 : decide (1 < l0.length) = true := decide_eq_true (by omega)
       clear c6
       by_cases c7 : 2 < (l0.length : Int)
       ·rw [if_pos c7] at H
        have c7b0 := decide_eq_true c7
        have c7b1 : decide (2 < l0.length) = true := decide_eq_true (by omega)
        clear c7
        by_cases c8 : 3 ≤ 11
        ·rw [if_pos c8] at H
         have c8b0 := eq_true c8
         have c8b1 := decide_eq_true c8
         clear c8
         by_cases c9 : 11 ≤ (l0.length : Int)
         ·rw [if_pos c9] at H
          have c9b0 := eq_true c9
          have c9b1 := decide_eq_true c9
          clear c9
          replace H := bind_eq_some_iff.mp H
          obtain ⟨t360, A100, H⟩ := H
          replace H : ((store_Pairs.f k (wrap64 (rd l0 2)) (wrap64 (rd l0 1)) t360).bind fun bt361 => (if bt361.2 = 0 then (image_Read.j0 k l0 (wrap64 (rd l0 2)) (wrap64 (rd l0 1)) t360 ([] : List (S65)) bt361.1 ((l0.length : Int) != (wrap64 (11 + (wrap64 (16 * (bt361.1.length : Int))))))) else (image_Read.j0 k l0 (wrap64 (rd l0 2)) (wrap64 (rd l0 1)) t360 ([] : List (S65)) bt361.1 true))) = some (r1, r2, r3, r4, r5) := H
          have A10 := ak_ A100
          clear A100
          replace H := bind_eq_some_iff.mp H
          obtain ⟨⟨t361, t362⟩, A110, H⟩ := H
          replace H : (if t362 = 0 then (image_Read.j0 k l0 (wrap64 (rd l0 2)) (wrap64 (rd l0 1)) t360 ([] : List (S65)) t361 ((l0.length : Int) != (wrap64 (11 + (wrap64 (16 * (t361.length : Int))))))) else (image_Read.j0 k l0 (wrap64 (rd l0 2)) (wrap64 (rd l0 1)) t360 ([] : List (S65)) t361 true)) = some (r1, r2, r3, r4, r5) := H
          have A11 := ak_ A110
          clear A110
          have HC12 := ak_ H
          clear H
          have p356 : 0 ≤ (0 : Int) := (by omega)
          have q356 : 0 < (l0.length : Int) := od_ (by first | (with_reducible assumption) | assumption)
          obtain ⟨ad356, e356, hx356_0⟩ := Kd.at_int HR0.out 0 p356 q356
          cases e356
          have qi356 : (0 < l0.length) = True := eq_true (by omega)
          (try rw [show ((0 : Int)).toNat = 0 from rfl] at hx356_0)
          (try rw [Addr.add_zero'] at hx356_0)
          replace p356 := eq_true p356
          replace q356 := eq_true q356
          go_enter func35, ntmps35
          try go_wp2
          replace HB := ak_ (bd_ HB.out)
          have p357 : 0 ≤ (1 : Int) := (by omega)
          have q357 : 1 < (l0.length : Int) := od_ (by first | (with_reducible assumption) | assumption)
          obtain ⟨ad357, e357, hx357_0⟩ := Kd.at_int HR0.out 1 p357 q357
          have hw357_0 := hx357_0
          (try rw [show ((1 : Int)).toNat = 1 from rfl] at hw357_0)
          (try rw [show 1 * 1 = 1 from rfl] at hw357_0)
          (try simp only [Nat.reduceMul, Nat.reduceEqDiff, Go.Addr.add, ↓reduceIte] at hw357_0)
          obtain rfl : ad356 = ad357 := (by injection e357)
          (try simp only [show (1 : Int).toNat = 1 from rfl, Nat.reduceMul, Nat.reduceEqDiff, Go.Addr.add, ↓reduceIte] at hx357_0)
          have qi357 : (1 < l0.length) = True := eq_true (by omega)
          (try rw [show ((1 : Int)).toNat = 1 from rfl] at hx357_0)
          replace hx357_0 := cx_ HB hx357_0
          replace p357 := eq_true p357
          replace q357 := eq_true q357
          have p358 : 0 ≤ (2 : Int) := (by omega)
          have q358 : 2 < (l0.length : Int) := od_ (by first | (with_reducible assumption) | assumption)
          obtain ⟨ad358, e358, hx358_0⟩ := Kd.at_int HR0.out 2 p358 q358
          have hw358_0 := hx358_0
          (try rw [show ((2 : Int)).toNat = 2 from rfl] at hw358_0)
          (try rw [show 2 * 1 = 2 from rfl] at hw358_0)
          (try simp only [Nat.reduceMul, Nat.reduceEqDiff, Go.Addr.add, ↓reduceIte] at hw358_0)
          obtain rfl : ad356 = ad358 := (by injection e358)
          (try simp only [show (2 : Int).toNat = 2 from rfl, Nat.reduceMul, Nat.reduceEqDiff, Go.Addr.add, ↓reduceIte] at hx358_0)
          have qi358 : (2 < l0.length) = True := eq_true (by omega)
          (try rw [show ((2 : Int)).toNat = 2 from rfl] at hx358_0)
          replace hx358_0 := cx_ HB hx358_0
          replace p358 := eq_true p358
          replace q358 := eq_true q358
          obtain ⟨i014, hi014, _, hsz14, _⟩ := info_parts info5
          obtain ⟨A14, hcut14, hA14, hC14⟩ := print_mid_of (P := Try.prog) (Value.int .u8) 0 35 5 .i64 .i64 underlying35 hi014 hsz14 (some ad356) c0 l0 3 11 (by omega) (by first | omega | exact od_ (by first | (with_reducible assumption) | assumption)) (od_ (by first | (with_reducible assumption) | assumption)) HC0.out
          have HR359 := ak_ (Kd.C_of_reads (h1 := fun _ => rfl) (hA14 _ (Kd.reads_of_C HR0.out)))
          have HC359 := ak_ hC14
          clear hA14 hC14 hi014 hsz14
          refine start_ (n := 14) (S := fun w' => w'.cell? ⟨ad356.block, ad356.off + 1, none⟩ = some (.int .u8 (rd l0 1)) ∧ w'.cell? ⟨ad356.block, ad356.off + 2, none⟩ = some (.int .u8 (rd l0 2))) (ds := []) #[false, false, false, false, false, false, false, false, false, false, false, false, false, false] (by kernel_rfl) rfl rfl ⟨((HB.out.cell (World.block_lt_of_cell? w _ hw357_0)).trans hw357_0), ((HB.out.cell (World.block_lt_of_cell? w _ hw358_0)).trans hw358_0)⟩ (fun hHeld => ?_); refine with_tabW image_Read.tab5 image_Read.bits5 (fun HT_ HW_ => ?_)
          generalize w.drew = w13 at HB HR359 hx357_0 hx358_0 hHeld ⊢
          refine pu_ HT_ 0 (some 26) (bA7 1 14) ?_
          refine pu_ HT_ 1 (some 27) (bA7 2 14) ?_
          refine pu_ HT_ 4 (some 30) #[true, true, false, false, true, false, false, false, false, false, false, false, false, false] ?_
          refine pu_ HT_ 5 (some 31) #[true, true, false, false, true, true, false, false, false, false, false, false, false, false] ?_
          refine pu_ HT_ 8 (some 34) #[true, true, false, false, true, true, false, false, true, false, false, false, false, false] ?_
          refine pu_ HT_ 9 (some 35) #[true, true, false, false, true, true, false, false, true, true, false, false, false, false] ?_
          refine tk_ HT_ HW_ hHeld 2 (some 28) #[true, true, true, false, true, true, false, false, true, true, false, false, false, false] rfl (by rintro w' ⟨s0, s1⟩; go_simp; with_reducible rfl) ?_
          refine pu_ HT_ 3 (some 29) #[true, true, true, true, true, true, false, false, true, true, false, false, false, false] ?_
          refine tk_ HT_ HW_ hHeld 6 (some 32) #[true, true, true, true, true, true, true, false, true, true, false, false, false, false] rfl (by rintro w' ⟨s0, s1⟩; go_simp; with_reducible rfl) ?_
          refine pu_ HT_ 7 (some 33) (bA7 10 14) ?_
          refine one_ (i := 10) (N := some 36) (bA7 11 14) rfl rfl (one_of HT_.out (by kernel_rfl)) (by decide) (fun K hK => ?_)
          refine goes_ func70 (by kernel_rfl) rfl #[.slice A14 ((l0.take 11).drop 3).length (c0 - 3)] (by rfl) rfl rfl (by (try simp only [map_toArray, map_cons, map_nil]); first | done | (rw [show ((l0.take 11).drop 3).length = (11 - 3) from (by rw [List.length_drop, List.length_take]; have h_ : (11 : Int) ≤ (l0.length : Int) := od_ (by first | (with_reducible assumption) | assumption); omega)] <;> rfl) | rfl | (simp only [length_drop, length_take]; rfl)) ?_
          with_reducible refine (image_number.calls k _ _ ((l0.take 11).drop 3) t360 _ ?side1 ?side2 A10.out).mono ?_
          (case side1 => repeat (first | exact (Kd.C_below HR359.out HB.out) | (with_reducible refine Kd.C_alloc ?_ _) | (with_reducible refine Kd.C_drewN ?_ _) | (with_reducible refine Kd.C_drew ?_)))
          (case side2 => exact HC359.out)
          rintro e w' ⟨rfl, ⟨nd, rfl⟩⟩
          refine ⟨_, rfl, ?_⟩
          refine hK.out _ _ ⟨((HB.out.cell (World.block_lt_of_cell? w _ hw357_0)).trans hw357_0), ((HB.out.cell (World.block_lt_of_cell? w _ hw358_0)).trans hw358_0)⟩ (fun hHeld => ?_)
          clear hK K
          refine norm_ (a' := ?_) ?_ ?_
          rotate_left
          ·show Act.put _ (some 36) _ = _
           simp only [Act.put, setIfInBounds_toArray, set_cons_zero, set_cons_succ, i64_w, i32_w]
           rfl
          refine pu_ HT_ 11 (some 3) (bA7 12 14) ?_
          refine pu_ HT_ 12 (some 2) (bA7 13 14) ?_
          refine pu_ HT_ 13 (some 4) (bA7 14 14) ?_
          refine done_ (done_of HT_.out (by kernel_rfl)) ?_
          go_upto_region 7 with (first | ((with_reducible refine gate_callee (f := 77) rfl ?_); refine gl_ (some 41) func77 #[.int .i64 (wrap64 (rd l0 2)), .int .i64 (wrap64 (rd l0 1)), .int .u64 t360] ?_; (with_reducible refine (store_Pairs.calls k (wrap64 (rd l0 2)) (wrap64 (rd l0 1)) t360 t361 t362 _ A11.out).mono ?_); rintro e w15 ⟨v363, rfl, ho0, hb⟩; refine ⟨_, rfl, ?_⟩; have HO364 := ak_ (Kd.R_lower ho0 (bz_ (bl_ HB))); replace HB := ak_ (bt_ (bl_ HB) hb); (try clear hb); (try clear hk); (try clear ho0)))
          (try simp only [Act.put, setIfInBounds_toArray, set_cons_zero, set_cons_succ])
          go_cut [54] (fun v54 wc => ∃ (kq : Nat) (x54_11 : Bool), v54 = .bool x54_11 ∧ Aside0 (image_Read.j0 kq l0 (wrap64 (rd l0 2)) (wrap64 (rd l0 1)) t360 ([] : List (S65)) t361 x54_11 = some (r1, r2, r3, r4, r5)) ∧ Aside0 (kq ≤ k) ∧ Aside0 (Kd.R k65 65 wc w.heap.size (fun _ => True) (.slice none 0 0) ([] : List (S65))) ∧ Aside0 (Kd.R k39 39 wc w.heap.size (fun _ => True) v363 t361) ∧ Aside0 (Below w.heap.size w wc) ∧ Aside0 (x54_11 = false → (l0.length : Int) = (wrap64 (11 + (wrap64 (16 * (t361.length : Int)))))))
          case first =>
           have H := HC12.out
           clear HC12
           by_cases c16 : t362 = 0
           ·rw [if_pos c16] at H
            have c16b0 : (t362 == 0) = true := beq_iff_eq.mpr c16
            have c16b1 : (t362 != 0) = false := bne_eq_false_iff_eq.mpr c16
            clear c16
            (first | rw [c16b0] | (simp only [i64_w, i32_w]; rw [c16b0]) | skip)
            have H' := ak_ H
            clear H
            obtain ⟨Ao17, co17, eo17⟩ := Kd.R_slice HO364.out
            subst eo17
            go_wp2
            go_meet
            case rel => exact ⟨_, (((l0.length : Int) != (wrap64 (11 + (wrap64 (16 * (t361.length : Int))))))), rf_, H', ⟨by first | omega | exact Nat.le_refl _⟩, ⟨by first | exact Kd.R_nil _ _ _ _ _ | exact Kd.N_nil _ _ _ _ _ | exact Kd.V_nil _ _ _ _ _ | exact Kd.Q_nil _ _ _ _ _ | exact Kd.S_nil _ _ _ _ _⟩, ⟨rl_ HO364⟩, ⟨bl_ HB⟩, ⟨fun h_ => by simpa using h_⟩⟩
           ·rw [if_neg c16] at H
            have c16b0 : (t362 == 0) = false := beq_eq_false_iff_ne.mpr c16
            have c16b1 : (t362 != 0) = true := bne_iff_ne.mpr c16
            (first | rw [c16b0] | (simp only [i64_w, i32_w]; rw [c16b0]) | skip)
            have H' := ak_ H
            clear H
            go_wp2
            go_meet
            case rel => exact ⟨_, (true), rf_, H', ⟨by first | omega | exact Nat.le_refl _⟩, ⟨by first | exact Kd.R_nil _ _ _ _ _ | exact Kd.N_nil _ _ _ _ _ | exact Kd.V_nil _ _ _ _ _ | exact Kd.Q_nil _ _ _ _ _ | exact Kd.S_nil _ _ _ _ _⟩, ⟨rl_ HO364⟩, ⟨bl_ HB⟩, ⟨fun h_ => absurd h_ (by decide)⟩⟩
          case rest =>
           clear HC12
           try clear c1
           try clear c2
           try clear c2b0
           try clear c2b1
           try clear p2
           try clear c3
           try clear c3b0
           try clear c3b1
           try clear p3
           try clear q3
           try clear hx3
           try clear qi3
           try clear c4
           try clear c4b0
           try clear c4b1
           try clear c5
           try clear c5b0
           try clear c5b1
           try clear c6
           try clear c6b0
           try clear c6b1
           try clear p6
           try clear c7
           try clear c7b0
           try clear c7b1
           try clear c8
           try clear c8b0
           try clear c8b1
           try clear c9
           try clear c9b0
           try clear c9b1
           try clear c16
           try clear c16b0
           try clear c16b1
           try clear hx356_0
           try clear hx357_0
           try clear hx358_0
           try clear p356
           try clear p357
           try clear p358
           try clear q356
           try clear q357
           try clear q358
           obtain ⟨kq, x54_11, rfl, HA, HJ11, HO_5, HO_7, HB, HLEN_⟩ := hcut
           cases kq with
           | zero => exact absurd HA.out (by simp [image_Read.j0])
           | succ kj11 =>
            have H := HA.out
            clear HA
            simp only [image_Read.j0] at H
            by_cases c18 : x54_11 = true
            ·subst c18
             have H1 : (some (0, 0, 0, ([] : List (S65)), 2)) = some (r1, r2, r3, r4, r5) := by rw [if_pos rfl] at H; exact H
             clear H
             have H := H1
             clear H1
             simp only [some.injEq, Prod.mk.injEq] at H
             obtain ⟨rfl, rfl, rfl, rfl, rfl⟩ := H
             go_wp2
             refine bodyPost_ret (results_list (rs := [.tmp 2, .tmp 3, .tmp 4, .tmp 5, .tmp 6]) rfl (by simp) (.tmp (.tmp (.tmp (.tmp (.tmp .nil)))))) rfl ?_
             exact ⟨_, by first | rfl | (simp <;> rfl) | (simp [*] <;> rfl), by first | exact Kd.R_nil _ _ _ _ _ | exact Kd.N_nil _ _ _ _ _ | exact Kd.V_nil _ _ _ _ _ | exact Kd.Q_nil _ _ _ _ _ | exact Kd.S_nil _ _ _ _ _, bl_ HB⟩
            ·replace c18 := Bool.eq_false_iff.mpr c18
             subst c18
             have H1 : (if 11 ≤ (l0.length : Int) then (image_Read.l0 kj11 l0 (wrap64 (rd l0 2)) (wrap64 (rd l0 1)) t360 ([] : List (S65)) t361 (wrap64 (((l0.drop 11).length : Int) / 16)) 0) else (none)) = some (r1, r2, r3, r4, r5) := by rw [if_neg (show ¬ (false = true) by decide)] at H; exact H
             clear H
             have H := H1
             clear H1
             by_cases c19 : 11 ≤ (l0.length : Int)
             ·rw [if_pos c19] at H
              have c19b0 := eq_true c19
              have c19b1 := decide_eq_true c19
              clear c19
              have H' := ak_ H
              clear H
              obtain ⟨i020, hi020, _, hsz20, _⟩ := info_parts info5
              obtain ⟨A20, hcut20, hA20, hC20⟩ := print_drop_of (P := Try.prog) (Value.int .u8) 0 35 5 .i64 underlying35 hi020 hsz20 (some ad356) c0 l0 11 (by omega) (od_ (by first | (with_reducible assumption) | assumption)) HC0.out
              have HR365 := ak_ (Kd.C_of_reads (h1 := fun _ => rfl) (hA20 _ (Kd.reads_of_C HR0.out)))
              have HC365 := ak_ hC20
              obtain ⟨adz_, rfl⟩ : ∃ a_, A20 = some a_ := r6_some (P := Try.prog) underlying35 hi020 hsz20 (j := 11) (by omega) (od_ (by first | (with_reducible assumption) | assumption)) (hcut20 w)
              obtain ⟨m_, hm1_, hm2_, hm3_, hm4_⟩ := r6_len HMX_.out (od_ (by first | (with_reducible assumption) | assumption)) (HLEN_.out rfl)
              have HM2_ := ak_ hm2_
              have HM3_ := ak_ hm3_
              have HCZ_ : Aside0 (16 * m_ ≤ c0 - 11) := ⟨by have := HC0.out; rw [hm1_] at this; omega⟩
              have n0_ := H'.out
              clear H'
              have H' := ak_ (show (image_Read.l0 kj11 l0 (wrap64 (rd l0 2)) (wrap64 (rd l0 1)) t360 ([] : List (S65)) t361 (m_ : Int) 0) = some (r1, r2, r3, r4, r5) from by rw [← hm4_]; exact n0_)
              clear hA20 hC20 hi020 hsz20 hm1_ hm2_ hm3_ n0_
              clear hm4_
              have hwc_ := ak_ (bz_ HB.out)
              go_wp2_with (first | (go_at_call 69; refine (s6_Chunk.calls (some adz_) (l0.length - 11) (c0 - 11) _).mono ?_; rintro e wc_ ⟨rfl, hwe_⟩; have hT_ := r6_two HB.out hwc_.out hwe_; clear hwe_ HB; have z_ := hT_.1; rw [show l0.length - 11 = 16 * m_ from (@List.length_drop _ 11 l0).symm.trans HM2_.out] at z_; have HBS_ := ak_ z_; clear z_; have HBN_ := ak_ hT_.2.1; have HB := ak_ hT_.2.2.1; have n0_ := ak_ (Kd.R_below HO_7.out hT_.2.2.2); clear HO_7; have HO_7 := n0_; clear n0_ hT_) | (go_at_call 78; refine (s6_Collect.calls _ _ adz_ m_ _ (by have := HM3_.out; omega) HCZ_.out _ HBS_.out HBN_.out).mono ?_; rintro e wz_ ⟨v58_, rfl, ho_, hb_⟩; obtain ⟨A58_, c58_, rfl, hr58_⟩ := r6_row ho_; have HR58_ := ak_ hr58_; have HBZ_ := ak_ (bt_ HB.out hb_); have n0_ := ak_ (Kd.R_below HO_7.out hb_); have HRZ_ := ak_ (Kd.C_below HR365.out HBZ_.out); clear HO_7 HB ho_ hb_ hr58_ HBS_ HBN_; have HO_7 := n0_; have HB := ak_ (Below.refl wz_.heap.size wz_); clear n0_))
              go_loopg [2, 3, 4, 5, 60] kj11 (fun kq v2 v3 v4 v5 v60 w' => ∃ (x2_2 : Int) (x3_2 : Int) (x4_2 : Int) (x5_2 : List (S65)) (x60_2 : Int), v2 = .int .i64 x2_2 ∧ v3 = .int .i64 x3_2 ∧ v4 = .int .u64 x4_2 ∧ v60 = .int .i64 x60_2 ∧ Aside0 (image_Read.l0 kq l0 x2_2 x3_2 x4_2 x5_2 t361 (m_ : Int) x60_2 = some (r1, r2, r3, r4, r5)) ∧ Aside0 (kq ≤ kj11) ∧ Aside0 (Kd.R k65 65 w' wz_.heap.size (fun _ => True) v5 x5_2) ∧ Aside0 (Kd.R k39 39 w' w.heap.size (fun _ => True) v363 t361) ∧ Aside0 (Below wz_.heap.size wz_ w') ∧ Aside0 (0 ≤ x60_2))
              case atStart => exact ⟨((wrap64 (rd l0 2))), ((wrap64 (rd l0 1))), (t360), (([] : List (S65))), (0), rf_, rf_, rf_, rf_, H', ⟨Nat.le_refl _⟩, ⟨Kd.R_nil _ _ _ _ _⟩, ⟨rl_ HO_7⟩, ⟨bl_ HB⟩, ⟨by omega⟩⟩
              case round =>
               clear H'
               try clear c1
               try clear c2
               try clear c2b0
               try clear c2b1
               try clear p2
               try clear c3
               try clear c3b0
               try clear c3b1
               try clear p3
               try clear q3
               try clear hx3
               try clear qi3
               try clear c4
               try clear c4b0
               try clear c4b1
               try clear c5
               try clear c5b0
               try clear c5b1
               try clear c6
               try clear c6b0
               try clear c6b1
               try clear p6
               try clear c7
               try clear c7b0
               try clear c7b1
               try clear c8
               try clear c8b0
               try clear c8b1
               try clear c9
               try clear c9b0
               try clear c9b1
               try clear c16
               try clear c16b0
               try clear c16b1
               try clear c18
               try clear c19
               try clear c19b0
               try clear c19b1
               try clear hx356_0
               try clear hx357_0
               try clear hx358_0
               try clear p2
               try clear p3
               try clear p356
               try clear p357
               try clear p358
               try clear p6
               try clear q3
               try clear q356
               try clear q357
               try clear q358
               obtain ⟨x2_2, x3_2, x4_2, x5_2, x60_2, rfl, rfl, rfl, rfl, HA, HK2, HO_5, HO_7, HB, HX0_⟩ := hrel
               cases gk with
               | zero => exact absurd HA.out (by simp [image_Read.l0])
               | succ k2 =>
                have H := HA.out
                clear HA
                simp only [image_Read.l0] at H
                by_cases c21 : x60_2 < (m_ : Int)
                ·rw [if_pos c21] at H
                 have c21b0 := decide_eq_true c21
                 have hxm_ := c21
                 have hx0_ := HX0_.out
                 obtain ⟨ad58_, e58_, hc58_⟩ := r6_at HR58_.out x60_2 hx0_ hxm_
                 subst e58_
                 have hx58_ := (HB.out.cell (World.block_lt_of_cell? wz_ _ hc58_)).trans hc58_
                 clear hc58_
                 have HXM_ := ak_ hxm_
                 replace hx0_ := eq_true hx0_
                 replace hxm_ := eq_true hxm_
                 clear c21
                 obtain ⟨ji22, hji22⟩ : ∃ j_ : Int, (wrap64 (11 + (wrap64 (16 * x60_2)))) = j_ := ⟨_, rfl⟩
                 replace H : (if 0 ≤ (ji22) then (if (ji22) ≤ (wrap64 (27 + (wrap64 (16 * x60_2)))) then (if (wrap64 (27 + (wrap64 (16 * x60_2)))) ≤ (l0.length : Int) then ((mix_Of.f k2 ((l0.take ((wrap64 (27 + (wrap64 (16 * x60_2)))) : Int).toNat).drop ((ji22) : Int).toNat)).bind fun bt367 => (if bt367.2.2 = 0 then (if 0 ≤ x60_2 then (if x60_2 < (t361.length : Int) then (if x5_2.length < 1759218604441 then (image_Read.l0 k2 l0 x2_2 x3_2 x4_2 (x5_2 ++ [(⟨(⟨(rd_T39 t361 x60_2).f0, (rd_T39 t361 x60_2).f1⟩ : S39), (⟨false, false, (⟨bt367.1, bt367.2.1⟩ : S25), (⟨(⟨0, 0⟩ : S25), (⟨0, 0⟩ : S25)⟩ : S27), 0⟩ : S29)⟩ : S65)]) t361 (m_ : Int) (wrap64 (x60_2 + 1))) else (none)) else (none)) else (none)) else (some (0, 0, 0, ([] : List (S65)), bt367.2.2)))) else (none)) else (none)) else (none)) = some (r1, r2, r3, r4, r5) := by first | (rw [hji22] at H; exact H) | (simp only [hji22] at H ⊢; exact H)
                 have hji22w : (IntKind.i64.wrap (11 + (wrap64 (16 * x60_2)))) = ji22 := (i64_w _).trans hji22
                 by_cases c23 : 0 ≤ (ji22)
                 ·rw [if_pos c23] at H
                  have c23b0 := eq_true c23
                  have c23b1 := decide_eq_true c23
                  clear c23
                  by_cases c24 : (ji22) ≤ (wrap64 (27 + (wrap64 (16 * x60_2))))
                  ·rw [if_pos c24] at H
                   have c24b0 := eq_true c24
                   have c24b1 := decide_eq_true c24
                   by_cases c25 : (wrap64 (27 + (wrap64 (16 * x60_2)))) ≤ (l0.length : Int)
                   ·rw [if_pos c25] at H
                    have c25b0 := eq_true c25
                    have c25b1 := decide_eq_true c25
                    replace H := bind_eq_some_iff.mp H
                    obtain ⟨⟨t367, t368, t369⟩, A260, H⟩ := H
                    replace H : (if t369 = 0 then (if 0 ≤ x60_2 then (if x60_2 < (t361.length : Int) then (if x5_2.length < 1759218604441 then (image_Read.l0 k2 l0 x2_2 x3_2 x4_2 (x5_2 ++ [(⟨(⟨(rd_T39 t361 x60_2).f0, (rd_T39 t361 x60_2).f1⟩ : S39), (⟨false, false, (⟨t367, t368⟩ : S25), (⟨(⟨0, 0⟩ : S25), (⟨0, 0⟩ : S25)⟩ : S27), 0⟩ : S29)⟩ : S65)]) t361 (m_ : Int) (wrap64 (x60_2 + 1))) else (none)) else (none)) else (none)) else (some (0, 0, 0, ([] : List (S65)), t369))) = some (r1, r2, r3, r4, r5) := H
                    have A26 := ak_ A260
                    clear A260
                    by_cases c27 : t369 = 0
                    ·rw [if_pos c27] at H
                     have c27b0 : (t369 == 0) = true := beq_iff_eq.mpr c27
                     have c27b1 : (t369 != 0) = false := bne_eq_false_iff_eq.mpr c27
                     clear c27
                     by_cases c28 : 0 ≤ x60_2
                     ·rw [if_pos c28] at H
                      have c28b0 := decide_eq_true c28
                      clear c28
                      by_cases c29 : x60_2 < (t361.length : Int)
                      ·rw [if_pos c29] at H
                       have c29b0 := decide_eq_true c29
                       clear c29
                       by_cases c30 : x5_2.length < 1759218604441
                       ·rw [if_pos c30] at H
                        have LMc30 := ak_ c30
                        clear c30
                        obtain ⟨y372, hy372⟩ : ∃ y_ : List (S65), y_ = (x5_2 ++ [(⟨(⟨(rd_T39 t361 x60_2).f0, (rd_T39 t361 x60_2).f1⟩ : S39), (⟨false, false, (⟨t367, t368⟩ : S25), (⟨(⟨0, 0⟩ : S25), (⟨0, 0⟩ : S25)⟩ : S27), 0⟩ : S29)⟩ : S65)]) := ⟨_, rfl⟩
                        replace H : (image_Read.l0 k2 l0 x2_2 x3_2 x4_2 y372 t361 (m_ : Int) (wrap64 (x60_2 + 1))) = some (r1, r2, r3, r4, r5) := by first | (rw [hy372]; with_reducible exact H) | (have H2_ := (Option.bind_some _ _).symm.trans H; rw [hy372]; with_reducible exact H2_) | (have H2_ := (Option.bind_some _ _).symm.trans H; with_reducible exact H2_) | with_reducible exact H | (rw [hy372]; exact H) | exact H
                        have Ny372 := ak_ hy372
                        clear hy372
                        have H' := ak_ H
                        clear H
                        have hP_ := r6_piece HRZ_.out HM2_.out HCZ_.out HX0_.out HXM_.out HM3_.out hji22 (b := (wrap64 (27 + (wrap64 (16 * x60_2))))) rfl
                        have HR366 := ak_ hP_.1
                        have HC366 := ak_ (Nat.le_of_eq hP_.2.1)
                        have HPL_ := ak_ hP_.2.1
                        have HXN_ := ak_ hP_.2.2
                        clear hP_
                        try go_wp2_with (first | ((with_reducible refine gate_callee (f := 79) rfl ?_); refine goesL_ (some 67) rfl rfl func79 (by kernel_rfl) rfl #[.slice (some (adz_.add (16 * x60_2.toNat))) ((l0.take ((wrap64 (27 + (wrap64 (16 * x60_2)))) : Int).toNat).drop ((ji22) : Int).toNat).length 16] rfl (by (try simp only [map_toArray, map_cons, map_nil]); first | done | (rw [HPL_.out] <;> rfl) | (simp only [hji22]; rfl) | rfl | (simp only [length_drop, length_take]; rfl)) ?_; (with_reducible refine (mix_Of.calls k2 _ _ ((l0.take ((wrap64 (27 + (wrap64 (16 * x60_2)))) : Int).toNat).drop ((ji22) : Int).toNat) t367 t368 t369 _ ?side1 ?side2 A26.out).mono ?_); (case side1 => repeat (first | exact (Kd.C_below HR366.out HB.out) | (with_reducible refine Kd.C_alloc ?_ _) | (with_reducible refine Kd.C_drewN ?_ _) | (with_reducible refine Kd.C_drew ?_))); (case side2 => exact HC366.out); rintro e w32 ⟨rfl, hb⟩; refine ⟨_, rfl, ?_⟩; replace HO_5 := ak_ (Kd.R_below (rl_ HO_5) hb); replace HO_7 := ak_ (Kd.R_below (rl_ HO_7) hb); replace HB := ak_ (bt_ (bl_ HB) hb); (try clear hb); (try clear hk)) | ((with_reducible refine gate_dst (N := 10) rfl ?_); (try (refine gate_guard (by rfl) ?_; dsimp only)); refine bx_ 10 #[.int .u64 0, .int .u64 0] 25 ?_; intro gb370 hg w33 hbox hb; replace HO_5 := ak_ (Kd.R_below (rl_ HO_5) hb); replace HO_7 := ak_ (Kd.R_below (rl_ HO_7) hb); have BK370 := ak_ hbox; have GW370 := ak_ (by rw [hg]; exact (bz_ (bl_ HB)) : wz_.heap.size ≤ gb370); have GE370 := ak_ (by rw [hg]; exact (bz_ (bl_ HB)) : wz_.heap.size ≤ gb370); replace HB := ak_ (bt_ (bl_ HB) hb); clear hb hbox hg; have hcz34_0 := kq_ BK370.out 0 rfl; have hcz34_1 := kq_ BK370.out 1 rfl; have hfz34_0 := kf_ BK370.out 0; have hfz34_1 := kf_ BK370.out 1))
                        obtain ⟨w35, e_⟩ : ∃ w_, sC_ gb370 0 [.int .u64 t367, .int .u64 t368] w33 = w_ := ⟨_, rfl⟩
                        have n0_ : Aside0 (Kd.R k65 65 w35 wz_.heap.size (fun _ => True) u5 x5_2) := ⟨Kd.R_mono (sC_far (Kd.R_types HO_5.out BK370.out (by decide)) (fun _ hk => hk.2) e_) (fun _ hk => trivial)⟩
                        have n1_ : Aside0 (Kd.R k39 39 w35 w.heap.size (fun _ => True) v363 t361) := ⟨Kd.R_mono (sC_far (Kd.R_types HO_7.out BK370.out (by decide)) (fun _ hk => hk.2) e_) (fun _ hk => trivial)⟩
                        have n2_ : Aside0 (w35.heap[gb370]? = some (.cells #[.int .u64 t367, .int .u64 t368] 25 (0, 0))) := ⟨sC_blk BK370.out rfl e_⟩
                        have n3_ : Aside0 (Below wz_.heap.size wz_ w35) := ⟨sC_below GE370.out HB.out e_⟩
                        (try clear HO_5)
                        (try clear HO_7)
                        (try clear BK370)
                        (try clear HB)
                        simp only [sC_, Nat.reduceAdd] at e_
                        rw [e_]
                        clear e_
                        have HO_5 := n0_
                        have HO_7 := n1_
                        have BK370 := n2_
                        have HB := n3_
                        clear n0_ n1_ n2_ n3_
                        replace HO_5 := ak_ (Kd.R_drew HO_5.out)
                        replace HO_7 := ak_ (Kd.R_drew HO_7.out)
                        replace BK370 := ak_ (kd_ BK370.out)
                        replace HB := ak_ (bd_ HB.out)
                        obtain ⟨Ao37, co37, eo37⟩ := Kd.R_slice HO_7.out
                        (first | subst eo37 | (injection eo37 with f1_ f2_ f3_; have f4_ := f1_.symm; have f5_ := f3_.symm; clear f1_ f2_ f3_; subst f4_; subst f5_))
                        have p371 : 0 ≤ (x60_2 : Int) := od_ (by first | (with_reducible assumption) | assumption)
                        have q371 : x60_2 < (t361.length : Int) := od_ (by first | (with_reducible assumption) | assumption)
                        obtain ⟨ad371, e371, hx371_0, hx371_1⟩ := at_T39 (Kd.R_reads' HO_7.out).2.2 x60_2 p371 q371
                        cases e371
                        replace p371 := eq_true p371
                        replace q371 := eq_true q371
                        refine start_ (n := 11) (S := fun w' => w'.cell? ⟨gb370, 0, none⟩ = some (.int .u64 t367) ∧ w'.cell? ⟨gb370, 1, none⟩ = some (.int .u64 t368) ∧ w'.cell? (ad371.add ((x60_2).toNat * 2)) = some (.int .u64 ((rd_T39 t361 x60_2).f0)) ∧ w'.cell? ⟨(ad371.add ((x60_2).toNat * 2)).block, (ad371.add ((x60_2).toNat * 2)).off + 1, none⟩ = some (.int .u64 ((rd_T39 t361 x60_2).f1))) (ds := [8, 9]) #[false, false, false, false, false, false, false, false, false, false, false] (by kernel_rfl) rfl rfl ⟨(kc_ BK370.out 0).trans rfl, (kc_ BK370.out 1).trans rfl, hx371_0, hx371_1⟩ (fun hHeld => ?_); refine with_tabW image_Read.tab15 image_Read.bits15 (fun HT_ HW_ => ?_)
                        generalize w35.drew = w36 at HO_5 HO_7 BK370 HB hx371_0 hx371_1 hHeld ⊢
                        refine pu_ HT_ 0 (some 73) #[true, false, false, false, false, false, false, false, false, false, false] ?_
                        refine pu_ HT_ 1 (some 74) #[true, true, false, false, false, false, false, false, false, false, false] ?_
                        refine pu_ HT_ 2 (some 75) #[true, true, true, false, false, false, false, false, false, false, false] ?_
                        refine pu_ HT_ 3 (some 76) #[true, true, true, true, false, false, false, false, false, false, false] ?_
                        refine tk_ HT_ HW_ hHeld 4 (some 77) #[true, true, true, true, true, false, false, false, false, false, false] rfl (by rintro w' ⟨s0, s1, s2, s3⟩; go_simp; with_reducible rfl) ?_
                        refine tk_ HT_ HW_ hHeld 5 (some 78) #[true, true, true, true, true, true, false, false, false, false, false] rfl (by rintro w' ⟨s0, s1, s2, s3⟩; go_simp; with_reducible rfl) ?_
                        refine pu_ HT_ 6 (some 79) #[true, true, true, true, true, true, true, false, false, false, false] ?_
                        refine pu_ HT_ 7 (some 80) #[true, true, true, true, true, true, true, true, false, false, false] ?_
                        refine last_ (i := 8) (N := some 81) #[true, true, true, true, true, true, true, true, true, false, false] rfl rfl (one_of HT_.out (by kernel_rfl)) (by decide) (fun K hK => ?_)
                        refine value_ (w1 := ?_) (v := ?_) (by rfl) rfl ?_ ?_
                        rotate_left 2
                        ·go_simp
                         constructor
                         ·rfl
                         ·rfl
                        refine hK.out _ _ ?_
                        clear hK K
                        refine norm_ (a' := ?_) ?_ ?_
                        rotate_left
                        ·show Act.put _ (some 81) _ = _
                         simp only [Act.put, setIfInBounds_toArray, set_cons_zero, set_cons_succ, i64_w, i32_w]
                         rfl
                        refine last_ (i := 9) (N := some 82) #[true, true, true, true, true, true, true, true, true, true, false] rfl rfl (one_of HT_.out (by kernel_rfl)) (by decide) (fun K hK => ?_)
                        refine Kd.R_append_step k65 (w0 := wz_) wz_.heap.size (by rfl) (.tmp 73) (.tmp 81) 59 65 (.agg #[(.int .u64 0), (.int .u64 0), (.bool false), (.bool false), (.int .u64 0), (.int .u64 0), (.int .u64 0), (.int .u64 0), (.int .u64 0), (.int .u64 0), (.int .i64 0)]) 80 rfl underlying59 info65 rfl (by decide) (by omega) u5 x5_2 (⟨(⟨(rd_T39 t361 x60_2).f0, (rd_T39 t361 x60_2).f1⟩ : S39), (⟨false, false, (⟨t367, t368⟩ : S25), (⟨(⟨0, 0⟩ : S25), (⟨0, 0⟩ : S25)⟩ : S27), 0⟩ : S29)⟩ : S65) [.int .u64 ((rd_T39 t361 x60_2).f0), .int .u64 ((rd_T39 t361 x60_2).f1), .bool false, .bool false, .int .u64 t367, .int .u64 t368, .int .u64 0, .int .u64 0, .int .u64 0, .int .u64 0, .int .i64 0] (fun _ => True) (fun _ => False) rfl rfl ?aP (fun _ hk => hk.elim) ?aF ?aO ?aB ?aS ?aL ?_
                        (case aP => exact k65_mkM _ _ _ (⟨(⟨(rd_T39 t361 x60_2).f0, (rd_T39 t361 x60_2).f1⟩ : S39), (⟨false, false, (⟨t367, t368⟩ : S25), (⟨(⟨0, 0⟩ : S25), (⟨0, 0⟩ : S25)⟩ : S27), 0⟩ : S29)⟩ : S65))
                        (case aB => exact (by repeat (first | (with_reducible first | exact HB.out | apply ba_ | apply bn_ | apply bd_ | refine below_set ?_ GE370.out) | exact HB.out)))
                        (case aF => exact (fun _ _ => trivial))
                        (case aO => exact (rl_ HO_5))
                        (case aS => exact (bz_ (by repeat (first | (with_reducible first | exact HB.out | apply ba_ | apply bn_ | apply bd_ | refine below_set ?_ GE370.out) | exact HB.out))))
                        (case aL => have := LMc30.out; omega)
                        intro v373 w38 ho hb hg hat
                        rw [← Ny372.out] at ho
                        replace HO_7 := ak_ (Kd.R_over' (rl_ HO_7) (Kd.R_typed (rl_ HO_5)) (by decide) hg)
                        replace BK370 := ak_ (blk_grown (g := gb370) (o := .cells #[.int .u64 t367, .int .u64 t368] 25 (0, 0)) (kl_ BK370) hg (Kd.R_ne HO_5.out BK370.out (by decide)))
                        replace HB := ak_ hb
                        have HO374 := ak_ ho
                        clear HO_5
                        clear ho hb hg hat
                        refine hK.out _ _ ?_
                        clear hK K
                        refine norm_ (a' := ?_) ?_ ?_
                        rotate_left
                        ·show Act.put _ (some 82) _ = _
                         simp only [Act.put, setIfInBounds_toArray, set_cons_zero, set_cons_succ, i64_w, i32_w]
                         rfl
                        refine pu_ HT_ 10 (some 5) #[true, true, true, true, true, true, true, true, true, true, true] ?_
                        refine done_ (done_of HT_.out (by kernel_rfl)) ?_
                        try go_wp2
                        go_roundg k2
                        case measure => have := HJ11.out; have := HK2.out; omega
                        case rel => exact ⟨(x2_2), (x3_2), (x4_2), (y372), (wrap64 (x60_2 + 1)), rf_, rf_, rf_, rf_, H', ⟨by have := HJ11.out; have := HK2.out; omega⟩, ⟨rl_ HO374⟩, ⟨rl_ HO_7⟩, ⟨by repeat (first | (with_reducible first | exact HB.out | apply ba_ | apply bn_ | apply bd_ | refine below_set ?_ GE370.out) | exact HB.out)⟩, ⟨HXN_.out⟩⟩
                       ·rw [if_neg c30] at H
                        exact absurd H (by simp)
                      ·rw [if_neg c29] at H
                       exact absurd H (by simp)
                     ·rw [if_neg c28] at H
                      exact absurd H (by simp)
                    ·rw [if_neg c27] at H
                     have c27b0 : (t369 == 0) = false := beq_eq_false_iff_ne.mpr c27
                     have c27b1 : (t369 != 0) = true := bne_iff_ne.mpr c27
                     simp only [some.injEq, Prod.mk.injEq] at H
                     obtain ⟨rfl, rfl, rfl, rfl, rfl⟩ := H
                     have hP_ := r6_piece HRZ_.out HM2_.out HCZ_.out HX0_.out HXM_.out HM3_.out hji22 (b := (wrap64 (27 + (wrap64 (16 * x60_2))))) rfl
                     have HR366 := ak_ hP_.1
                     have HC366 := ak_ (Nat.le_of_eq hP_.2.1)
                     have HPL_ := ak_ hP_.2.1
                     have HXN_ := ak_ hP_.2.2
                     clear hP_
                     go_wp2_with (first | ((with_reducible refine gate_callee (f := 79) rfl ?_); refine goesL_ (some 67) rfl rfl func79 (by kernel_rfl) rfl #[.slice (some (adz_.add (16 * x60_2.toNat))) ((l0.take ((wrap64 (27 + (wrap64 (16 * x60_2)))) : Int).toNat).drop ((ji22) : Int).toNat).length 16] rfl (by (try simp only [map_toArray, map_cons, map_nil]); first | done | (rw [HPL_.out] <;> rfl) | (simp only [hji22]; rfl) | rfl | (simp only [length_drop, length_take]; rfl)) ?_; (with_reducible refine (mix_Of.calls k2 _ _ ((l0.take ((wrap64 (27 + (wrap64 (16 * x60_2)))) : Int).toNat).drop ((ji22) : Int).toNat) t367 t368 t369 _ ?side1 ?side2 A26.out).mono ?_); (case side1 => repeat (first | exact (Kd.C_below HR366.out HB.out) | (with_reducible refine Kd.C_alloc ?_ _) | (with_reducible refine Kd.C_drewN ?_ _) | (with_reducible refine Kd.C_drew ?_))); (case side2 => exact HC366.out); rintro e w40 ⟨rfl, hb⟩; refine ⟨_, rfl, ?_⟩; replace HO_5 := ak_ (Kd.R_below (rl_ HO_5) hb); replace HO_7 := ak_ (Kd.R_below (rl_ HO_7) hb); replace HB := ak_ (bt_ (bl_ HB) hb); (try clear hb); (try clear hk)) | ((with_reducible refine gate_dst (N := 10) rfl ?_); (try (refine gate_guard (by rfl) ?_; dsimp only)); refine bx_ 10 #[.int .u64 0, .int .u64 0] 25 ?_; intro gb370 hg w41 hbox hb; replace HO_5 := ak_ (Kd.R_below (rl_ HO_5) hb); replace HO_7 := ak_ (Kd.R_below (rl_ HO_7) hb); have BK370 := ak_ hbox; have GW370 := ak_ (by rw [hg]; exact (bz_ (bl_ HB)) : wz_.heap.size ≤ gb370); have GE370 := ak_ (by rw [hg]; exact (bz_ (bl_ HB)) : wz_.heap.size ≤ gb370); replace HB := ak_ (bt_ (bl_ HB) hb); clear hb hbox hg; have hcz42_0 := kq_ BK370.out 0 rfl; have hcz42_1 := kq_ BK370.out 1 rfl; have hfz42_0 := kf_ BK370.out 0; have hfz42_1 := kf_ BK370.out 1))
                     refine bodyPost_ret (results_list (rs := [.tmp 2, .tmp 3, .tmp 4, .tmp 5, .tmp 6]) rfl (by simp) (.tmp (.tmp (.tmp (.tmp (.tmp .nil)))))) rfl ?_
                     exact ⟨_, by first | rfl | (simp <;> rfl) | (simp only [← hji22]; first | rfl | (simp <;> rfl)) | (simp [*] <;> rfl), by first | exact Kd.R_nil _ _ _ _ _ | exact Kd.N_nil _ _ _ _ _ | exact Kd.V_nil _ _ _ _ _ | exact Kd.Q_nil _ _ _ _ _ | exact Kd.S_nil _ _ _ _ _, bt_ HBZ_.out (by repeat (first | (with_reducible first | exact HB.out | apply ba_ | apply bn_ | apply bd_ | refine below_set ?_ GE370.out) | exact HB.out))⟩
                   ·rw [if_neg c25] at H
                    exact absurd H (by simp)
                  ·rw [if_neg c24] at H
                   exact absurd H (by simp)
                 ·rw [if_neg c23] at H
                  exact absurd H (by simp)
                ·rw [if_neg c21] at H
                 have c21b0 := decide_eq_false c21
                 clear c21
                 simp only [some.injEq, Prod.mk.injEq] at H
                 obtain ⟨rfl, rfl, rfl, rfl, rfl⟩ := H
                 go_wp2
                 refine bodyPost_ret (results_list (rs := [.tmp 2, .tmp 3, .tmp 4, .tmp 5, .tmp 6]) rfl (by simp) (.tmp (.tmp (.tmp (.tmp (.tmp .nil)))))) rfl ?_
                 exact ⟨_, by first | rfl | (simp <;> rfl) | (simp [*] <;> rfl), by (with_reducible repeat (first | apply Kd.R_alloc | apply Kd.R_drewN | apply Kd.R_drew)); exact Kd.R_lower HO_5.out (bz_ HBZ_.out), bt_ HBZ_.out (bl_ HB)⟩
             ·rw [if_neg c19] at H
              exact absurd H (by simp)
         ·rw [if_neg c9] at H
          exact absurd H (by simp)
        ·rw [if_neg c8] at H
         exact absurd H (by simp)
       ·rw [if_neg c7] at H
        exact absurd H (by simp)
      ·rw [if_neg c6] at H
       exact absurd H (by simp)
     ·rw [if_neg c5] at H
      have c5b0 : ((rd l0 0) == 1) = false := beq_eq_false_iff_ne.mpr c5
      have c5b1 : ((rd l0 0) != 1) = true := bne_iff_ne.mpr c5
      simp only [some.injEq, Prod.mk.injEq] at H
      obtain ⟨rfl, rfl, rfl, rfl, rfl⟩ := H
      have p356 : 0 ≤ (0 : Int) := (by omega)
      have q356 : 0 < (l0.length : Int) := od_ (by first | (with_reducible assumption) | assumption)
      obtain ⟨ad356, e356, hx356_0⟩ := Kd.at_int HR0.out 0 p356 q356
      cases e356
      have qi356 : (0 < l0.length) = True := eq_true (by omega)
      (try rw [show ((0 : Int)).toNat = 0 from rfl] at hx356_0)
      (try rw [Addr.add_zero'] at hx356_0)
      replace p356 := eq_true p356
      replace q356 := eq_true q356
      go_enter func35, ntmps35
      go_wp2
      refine bodyPost_ret (results_list (rs := [.tmp 2, .tmp 3, .tmp 4, .tmp 5, .tmp 6]) rfl (by simp) (.tmp (.tmp (.tmp (.tmp (.tmp .nil)))))) rfl ?_
      exact ⟨_, by first | rfl | (simp <;> rfl) | (simp [*] <;> rfl), by first | exact Kd.R_nil _ _ _ _ _ | exact Kd.N_nil _ _ _ _ _ | exact Kd.V_nil _ _ _ _ _ | exact Kd.Q_nil _ _ _ _ _ | exact Kd.S_nil _ _ _ _ _, bl_ HB⟩
    ·rw [if_neg c4] at H
     exact absurd H (by simp)
end Go.Proofs.Ytoljdfgkkkpnbaa.MP
