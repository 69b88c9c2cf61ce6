-- written by a program of this session (wip/tools/mprint.sh) for this seat
import Derived.Test.YtoljdfgkkkpnbaaMPx0
import Derived.Test.YtoljdfgkkkpnbaaMPx1
import Derived.Test.YtoljdfgkkkpnbaaMPx4
import Derived.WalkMore
import Derived.Deep.RegionHeld3
namespace Go.Proofs.Ytoljdfgkkkpnbaa.MP
open Go.RowKit Go.Proofs.YtoljdfgkkkpnbaaW.PrintWords Go.Proofs.YtoljdfgkkkpnbaaW.PrintLast Go.Proofs.YtoljdfgkkkpnbaaW.PrintMore
open Option (bind_eq_some_iff some.injEq)
open _root_.Go.Proofs.Try
open List (setIfInBounds_toArray set_cons_zero set_cons_succ map_toArray map_cons map_nil length_drop length_take)
attribute [local go_sem] max2_int min2_int max_two min_two max_three min_three max_four min_four
set_option linter.unusedVariables false
set_option linter.unusedSimpArgs false
attribute [local go_sem high] eqA29
def bA5 (k n : Nat) : Array Bool := (Array.range n).map fun i => decide (i < k)
structure HrBut (g : Nat) (w w' : World) : Prop where
  os : w'.os = w.os
  tape : w'.tape = w.tape
  output : w'.output = w.output
  size : w.heap.size ≤ w'.heap.size
  block : ∀ k, k < w.heap.size → k ≠ g → w'.heap[k]? = w.heap[k]?
theorem HrBut.refl (g : Nat) (w : World) : HrBut g w w := ⟨rfl, rfl, rfl, Nat.le_refl _, fun _ _ _ => rfl⟩
theorem HrBut.trans {g : Nat} {a b c : World} (h : HrBut g a b) (k : HrBut g b c) : HrBut g a c :=
  ⟨k.os.trans h.os, k.tape.trans h.tape, k.output.trans h.output, Nat.le_trans h.size k.size, fun i hi hn => (k.block i (Nat.lt_of_lt_of_le hi h.size) hn).trans (h.block i hi hn)⟩
theorem HrBut.of {g : Nat} {a b : World} (h : Below a.heap.size a b) : HrBut g a b := ⟨h.os, h.tape, h.output, h.size, fun k hk _ => h.block k hk⟩
theorem HrBut.set (g i : Nat) (w : World) (u : Value) : HrBut g w (w.setCell ⟨g, i, none⟩ u) :=
  ⟨rfl, rfl, rfl, by simp [World.setCell], fun k _ hn => Below.heap_setCell w _ u k hn⟩
theorem HrBut.new {g q : Nat} {a b : World} (h : HrBut g a b) (hq : a.heap.size ≤ q) (i : Nat) (u : Value) : HrBut g a (b.setCell ⟨q, i, none⟩ u) :=
  ⟨h.os, h.tape, h.output, by simpa [World.setCell] using h.size, fun k hk hn => (Below.heap_setCell b _ u k (by simp; omega)).trans (h.block k hk hn)⟩
theorem HrBut.drew {g : Nat} {a b : World} (h : HrBut g a b) : HrBut g a b.drew := ⟨h.os, h.tape, h.output, h.size, h.block⟩
theorem HrBut.below {g B : Nat} {a b : World} (h : HrBut g a b) (hg : B ≤ g) (hB : B ≤ a.heap.size) : Below B a b :=
  ⟨h.os, h.tape, h.output, h.size, fun k hk => h.block k (Nat.lt_of_lt_of_le hk hB) (by omega)⟩
set_option maxHeartbeats 4000000 in
set_option maxRecDepth 100000 in
theorem hr_cut (w : World) (g : Nat) (A : Option Addr) (len c n : Nat) (h0 : 0 < n) (hn : n ≤ len) (hc : len ≤ c)
   (hg : w.heap[g]? = some (.cells #[.slice A len c] 88 (0, 0))) :
   Calls Try.prog 53 #[.pointer (some ⟨g, 0, none⟩), .int .i64 n] w fun e w' => e = .returned (.slice A n n) ∧
    w'.heap[g]? = some (.cells #[.slice (if c = n then A else A.map (·.add (n * 1))) (len - n) (c - n)] 88 (0, 0)) ∧ HrBut g w w' := by
  have HG := ak_ hg
  have y0 : w.cell? ⟨g, 0, none⟩ = some (.slice A len c) := (kc_ hg 0).trans rfl
  have hf0 := kf_ hg 0
  have hu := underlying88
  have b0 : (0 : Int) ≤ (n : Int) := by omega
  have b1 : (n : Int) ≤ (n : Int) := by omega
  have b2 : (n : Int) ≤ (c : Int) := by omega
  have b3 : (n : Int) ≤ (len : Int) := by omega
  clear hg
  go_enter func53, ntmps53
  go_wp2
  go_region
  all_goals
   go_wp2
   all_goals
    go_ret
    exact ⟨rfl, blk_put HG.out 0 _ rfl, (HrBut.set _ _ _ _).drew⟩
theorem hr_cut' (w : World) (g : Nat) (A A' : Option Addr) (len c n : Nat) (h0 : 0 < n) (hn : n ≤ len) (hc : len ≤ c)
   (hA : (if c = n then A else A.map (·.add (n * 1))) = A') (hg : w.heap[g]? = some (.cells #[.slice A len c] 88 (0, 0))) :
   Calls Try.prog 53 #[.pointer (some ⟨g, 0, none⟩), .int .i64 n] w fun e w' => e = .returned (.slice A n n) ∧
    w'.heap[g]? = some (.cells #[.slice A' (len - n) (c - n)] 88 (0, 0)) ∧ HrBut g w w' := by
  subst hA; exact hr_cut w g A len c n h0 hn hc hg
def hr_num.l0 : Nat → List Int → Int → Int → Option Int
  | 0, _, _, _ => none
  | k + 1, l, x, i => if i < (l.length : Int) then (if 0 ≤ i then (if 0 ≤ (wrap64 (8 * i)) then hr_num.l0 k l (Go.bits .or .u64 x (shl .u64 (IntKind.u64.wrap (rd l i)) (wrap64 (8 * i)))) (wrap64 (i + 1)) else none) else none) else some x
set_option maxHeartbeats 8000000 in
set_option maxRecDepth 100000 in
theorem hr_number (k : Nat) (w0 w : World) (g : Nat) (A A' : Option Addr) (c n : Nat) (l : List Int) (r : Int) (hA : (if c = n then A else A.map (·.add (n * 1))) = A') (h0 : 0 < n) (hn : n ≤ l.length) (hc : l.length ≤ c)
   (hC : Kd.C (Kd.int .u8) w0 A l.length l) (hB : Below w0.heap.size w0 w) (hge : w0.heap.size ≤ g)
   (hg : w.heap[g]? = some (.cells #[.slice A l.length c] 88 (0, 0))) (h : hr_num.l0 k (l.take n) 0 0 = some r) :
   Calls Try.prog 52 #[.pointer (some ⟨g, 0, none⟩), .int .i64 n] w fun e w' => e = .returned (.int .u64 r) ∧
    w'.heap[g]? = some (.cells #[.slice A' (l.length - n) (c - n)] 88 (0, 0)) ∧ HrBut g w w' := by
  have hgw : g < w.heap.size := blk_lt hg
  have CUT := ak_ (fun (W : World) (hW : W.heap = w.heap) => hr_cut' W g A A' l.length c n h0 hn hc hA (by rw [hW]; exact hg))
  have HB := ak_ hB
  have GE := ak_ hge
  have CT : Kd.C (Kd.int .u8) w0 A (l.take n).length (l.take n) := Kd.C_take hC hn
  have hL : (l.take n).length = n := by rw [List.length_take]; omega
  generalize l.take n = l' at CT hL h
  have HC := ak_ CT
  have HL := ak_ hL
  have H' := ak_ h
  clear hC hB hge hg h CT hn hc h0 hA
  subst hL
  go_enter func52, ntmps52
  go_wp2_with (first | (go_at_call 53; with_reducible refine (CUT.out _ ?s1).mono ?_; (case s1 => rfl); rintro e w1 ⟨rfl, hg1, hb1⟩; have BK := ak_ hg1; have n0_ := ak_ (show Below w0.heap.size w0 w1 from HB.out.trans (hb1.below GE.out HB.out.size)); have SZ := ak_ hb1; clear HB; have HB := n0_; clear n0_ hg1 hb1))
  go_loopg [4, 11] k (fun kq v4 v11 w' => ∃ (x i : Int), v4 = .int .u64 x ∧ v11 = .int .i64 i ∧ Aside0 (hr_num.l0 kq l' x i = some r) ∧ Aside0 (kq ≤ k) ∧ Aside0 (w'.heap = w1.heap ∧ Below w1.heap.size w1 w'))
  case atStart => exact ⟨0, 0, rfl, (by first | rfl | (simp; done)), H', ⟨Nat.le_refl _⟩, ⟨rfl, (by repeat (first | exact Below.refl _ _ | apply bn_ | apply bd_))⟩⟩
  case round =>
   clear H'
   obtain ⟨x, i, rfl, rfl, HA, HK1, HW⟩ := hrel
   cases gk with
   | zero => exact absurd HA.out (by simp [hr_num.l0])
   | succ k1 =>
    have H := HA.out
    clear HA
    simp only [hr_num.l0] at H
    by_cases c6 : i < (l'.length : Int)
    ·rw [if_pos c6] at H
     have c6b0 := decide_eq_true c6
     by_cases c7 : 0 ≤ i
     ·rw [if_pos c7] at H
      obtain ⟨ad, e_, hxl⟩ := Kd.at_int HC.out i c7 c6
      cases e_
      replace hxl := (HB.out.cell (World.block_lt_of_cell? w0 _ hxl)).trans hxl
      replace hxl := (HW.out.2.cell (World.block_lt_of_cell? w1 _ hxl)).trans hxl
      have c7b := eq_true c7
      have c6b := eq_true c6
      clear c6 c7
      obtain ⟨ji, hji⟩ : ∃ j_ : Int, wrap64 (8 * i) = j_ := ⟨_, rfl⟩
      rw [hji] at H
      have hjiw : (IntKind.i64.wrap (8 * i)) = ji := (i64_w _).trans hji
      by_cases c8 : 0 ≤ ji
      ·rw [if_pos c8] at H
       have c8b0 := eq_true c8
       have c8b1 := decide_eq_true c8
       clear c8
       have H' := ak_ H
       clear H
       go_wp2
       go_roundg k1
       case measure => have := HK1.out; omega
       case rel => exact ⟨_, _, rfl, rfl, H', ⟨by have := HK1.out; omega⟩, ⟨HW.out.1, (by repeat (first | exact HW.out.2 | apply bn_ | apply bd_))⟩⟩
      ·rw [if_neg c8] at H
       exact absurd H (by simp)
     ·rw [if_neg c7] at H
      exact absurd H (by simp)
    ·rw [if_neg c6] at H
     have c6b0 := decide_eq_false c6
     clear c6
     obtain rfl := Option.some.inj H
     go_wp2
     go_ret
     exact ⟨rfl, by rw [HW.out.1]; exact BK.out, SZ.out.trans (HrBut.of HW.out.2)⟩
def hr_val (k : Nat) (l : List Int) : Option (Int × Int × Int × Int) := (seal_Of.f k (l.take 32)).bind fun y => some (y.1, y.2.1, y.2.2.1, y.2.2.2.1)
set_option maxHeartbeats 8000000 in
set_option maxRecDepth 100000 in
theorem hr_value (k : Nat) (w0 w : World) (g : Nat) (A A' : Option Addr) (c : Nat) (l : List Int) (r1 r2 r3 r4 : Int) (hA : (if c = 32 then A else A.map (·.add (32 * 1))) = A') (hn : 32 ≤ l.length) (hc : l.length ≤ c)
   (hC : Kd.C (Kd.int .u8) w0 A l.length l) (hB : Below w0.heap.size w0 w) (hge : w0.heap.size ≤ g)
   (hg : w.heap[g]? = some (.cells #[.slice A l.length c] 88 (0, 0))) (h : hr_val k l = some (r1, r2, r3, r4)) :
   Calls Try.prog 54 #[.pointer (some ⟨g, 0, none⟩)] w fun e w' => e = .returned (.agg #[.bool false, .bool true, .int .u64 0, .int .u64 0, .int .u64 r1, .int .u64 r2, .int .u64 r3, .int .u64 r4, .int .i64 0]) ∧
    w'.heap[g]? = some (.cells #[.slice A' (l.length - 32) (c - 32)] 88 (0, 0)) ∧ HrBut g w w' := by
  have hgw : g < w.heap.size := blk_lt hg
  have hu29 := underlying29
  have hu27 := underlying27
  obtain ⟨⟨s1, s2, s3, s4, s5⟩, hs, h⟩ := bind_eq_some_iff.mp h
  simp only [some.injEq, Prod.mk.injEq] at h
  obtain ⟨rfl, rfl, rfl, rfl⟩ := h
  have CUT : Aside0 (∀ W : World, W.heap[g]? = some (.cells #[.slice A l.length c] 88 (0, 0)) → Calls Try.prog 53 #[.pointer (some ⟨g, 0, none⟩), .int .i64 32] W fun e w' => e = .returned (.slice A 32 32) ∧
    w'.heap[g]? = some (.cells #[.slice A' (l.length - 32) (c - 32)] 88 (0, 0)) ∧ HrBut g W w') := ⟨fun W hW => hr_cut' W g A A' l.length c 32 (by decide) hn hc hA hW⟩
  have hL : (l.take 32).length = 32 := by rw [List.length_take]; omega
  have SO : Aside0 (∀ W : World, Below w0.heap.size w0 W → Calls Try.prog 101 #[.slice A 32 32] W fun e w' => e = .returned (.tuple #[.agg #[.int .u64 s1, .int .u64 s2, .int .u64 s3, .int .u64 s4], .int .i64 s5]) ∧ Below W.heap.size W w') := ⟨fun W hW => by
   have := seal_Of.calls k A 32 (l.take 32) s1 s2 s3 s4 s5 W (Kd.C_below (Kd.C_take hC hn) hW) (by omega) hs
   rwa [hL] at this⟩
  have HB := ak_ hB
  have BK := ak_ hg
  have HR := ak_ (HrBut.refl g w)
  have GE := ak_ hge
  have GW := ak_ hgw
  clear hB hge hg hs hC hn hc hA hL hgw
  go_enter func54, ntmps54
  go_wp2_with (first | ((with_reducible refine gate_dst (N := 2) rfl ?_); refine bx_ 2 #[.bool false, .bool false, .int .u64 0, .int .u64 0, .int .u64 0, .int .u64 0, .int .u64 0, .int .u64 0, .int .i64 0] 29 ?_; intro g2 hg2 w1 hbox hb; have n0_ := ak_ (HB.out.trans (hb.mono HB.out.size)); have n1_ := ak_ (HR.out.trans (HrBut.of hb)); have n2_ := ak_ (kb_ BK.out hb); have B2 := ak_ hbox; have G2 := ak_ (show w.heap.size ≤ g2 by rw [hg2]; exact HR.out.size); clear HB HR BK; have HB := n0_; have HR := n1_; have BK := n2_; clear n0_ n1_ n2_ hbox hb hg2) | (go_at_call 53; with_reducible refine (CUT.out _ ?s1).mono ?_; (case s1 => exact BK.out); rintro e w2 ⟨rfl, hg1, hb1⟩; have n0_ := ak_ (HB.out.trans (hb1.below GE.out HB.out.size)); have n1_ := ak_ (HR.out.trans hb1); have n2_ := ak_ hg1; have n3_ := ak_ ((hb1.block _ (blk_lt B2.out) (Nat.ne_of_gt (Nat.lt_of_lt_of_le GW.out G2.out))).trans B2.out); clear HB HR BK B2; have HB := n0_; have HR := n1_; have BK := n2_; have B2 := n3_; clear n0_ n1_ n2_ n3_ hg1 hb1) | (go_at_call 101; with_reducible refine (SO.out _ ?s2).mono ?_; (case s2 => exact HB.out); rintro e w3 ⟨rfl, hb⟩; have n0_ := ak_ (HB.out.trans (hb.mono HB.out.size)); have n1_ := ak_ (HR.out.trans (HrBut.of hb)); have n2_ := ak_ (kb_ BK.out hb); have n3_ := ak_ (kb_ B2.out hb); clear HB HR BK B2; have HB := n0_; have HR := n1_; have BK := n2_; have B2 := n3_; clear n0_ n1_ n2_ n3_ hb) | ((with_reducible refine gate_dst (N := 3) rfl ?_); refine bx_ 3 #[.int .u64 0, .int .u64 0, .int .u64 0, .int .u64 0] 27 ?_; intro g3 hg3 w4 hbox hb; have B3 := ak_ hbox; have n3_ := ak_ (kb_ B2.out hb); have N23 := ak_ (show g2 ≠ g3 by rw [hg3]; exact Nat.ne_of_lt (blk_lt B2.out)); have N3g := ak_ (show g ≠ g3 by rw [hg3]; exact Nat.ne_of_lt (blk_lt BK.out)); have n0_ := ak_ (HB.out.trans (hb.mono HB.out.size)); have n1_ := ak_ (HR.out.trans (HrBut.of hb)); have n2_ := ak_ (kb_ BK.out hb); have G3 := ak_ (show w.heap.size ≤ g3 by rw [hg3]; exact HR.out.size); clear HB HR BK B2; have HB := n0_; have HR := n1_; have BK := n2_; have B2 := n3_; clear n0_ n1_ n2_ n3_ hbox hb hg3; have hn23 := N23.out; have hn32 := Ne.symm N23.out; have hz0 : w4.cell? ⟨g3, 0, none⟩ = some (.int .u64 0) := (kc_ B3.out 0).trans rfl; have hz1 : w4.cell? ⟨g3, 1, none⟩ = some (.int .u64 0) := (kc_ B3.out 1).trans rfl; have hz2 : w4.cell? ⟨g3, 2, none⟩ = some (.int .u64 0) := (kc_ B3.out 2).trans rfl; have hz3 : w4.cell? ⟨g3, 3, none⟩ = some (.int .u64 0) := (kc_ B3.out 3).trans rfl; have hf0 := kf_ B3.out 0; have hf1 := kf_ B3.out 1; have hf2 := kf_ B3.out 2; have hf3 := kf_ B3.out 3; have hy0 : w4.cell? ⟨g2, 0, none⟩ = some (.bool false) := (kc_ B2.out 0).trans rfl; have hy1 : w4.cell? ⟨g2, 1, none⟩ = some (.bool false) := (kc_ B2.out 1).trans rfl; have hy2 : w4.cell? ⟨g2, 2, none⟩ = some (.int .u64 0) := (kc_ B2.out 2).trans rfl; have hy3 : w4.cell? ⟨g2, 3, none⟩ = some (.int .u64 0) := (kc_ B2.out 3).trans rfl; have hy4 : w4.cell? ⟨g2, 4, none⟩ = some (.int .u64 0) := (kc_ B2.out 4).trans rfl; have hy5 : w4.cell? ⟨g2, 5, none⟩ = some (.int .u64 0) := (kc_ B2.out 5).trans rfl; have hy6 : w4.cell? ⟨g2, 6, none⟩ = some (.int .u64 0) := (kc_ B2.out 6).trans rfl; have hy7 : w4.cell? ⟨g2, 7, none⟩ = some (.int .u64 0) := (kc_ B2.out 7).trans rfl; have hy8 : w4.cell? ⟨g2, 8, none⟩ = some (.int .i64 0) := (kc_ B2.out 8).trans rfl; have he0 := kf_ B2.out 0; have he1 := kf_ B2.out 1; have he2 := kf_ B2.out 2; have he3 := kf_ B2.out 3; have he4 := kf_ B2.out 4; have he5 := kf_ B2.out 5; have he6 := kf_ B2.out 6; have he7 := kf_ B2.out 7; have he8 := kf_ B2.out 8))
  have N2g := ak_ (show g ≠ g2 from Nat.ne_of_lt (Nat.lt_of_lt_of_le GW.out G2.out))
  refine bodyPost_ret (results_cell_row rfl _ _ g2 29 #[.bool false, .bool true, .int .u64 0, .int .u64 0, .int .u64 s1, .int .u64 s2, .int .u64 s3, .int .u64 s4, .int .i64 0] (0, 0) _ rfl (blk_put (blk_put (blk_put (blk_put (blk_put (blk_put (blk_put (blk_put (blk_put (blk_far (blk_far (blk_far (blk_far B2.out N23.out _) N23.out _) N23.out _) N23.out _) 0 _ rfl) 1 _ rfl) 2 _ rfl) 3 _ rfl) 4 _ rfl) 5 _ rfl) 6 _ rfl) 7 _ rfl) 8 _ rfl) underlying29 rfl (by kernel_rfl)) rfl ?_
  exact ⟨rfl, blk_far (blk_far (blk_far (blk_far (blk_far (blk_far (blk_far (blk_far (blk_far (blk_far (blk_far (blk_far (blk_far BK.out N3g.out _) N3g.out _) N3g.out _) N3g.out _) N2g.out _) N2g.out _) N2g.out _) N2g.out _) N2g.out _) N2g.out _) N2g.out _) N2g.out _) N2g.out _, (((((((((((((HR.out.new G3.out 0 _).new G3.out 1 _).new G3.out 2 _).new G3.out 3 _).new G2.out 0 _).new G2.out 1 _).new G2.out 2 _).new G2.out 3 _).new G2.out 4 _).new G2.out 5 _).new G2.out 6 _).new G2.out 7 _).new G2.out 8 _)⟩
theorem HrBut.ne {g : Nat} {a b : World} (h : HrBut g a b) {q : Nat} {x : Obj} (hq : a.heap[q]? = some x) (hn : q ≠ g) : b.heap[q]? = some x := (h.block q (blk_lt hq) hn).trans hq
theorem hr_bel {g : Nat} {w W w' : World} (h : Below w.heap.size w W) (hb : HrBut g W w') (hge : w.heap.size ≤ g) : Below w.heap.size w w' := h.trans (hb.below hge h.size)
structure HrSt (w0 : World) (A : Option Addr) (c : Nat) (l : List Int) : Prop where
  C : Kd.C (Kd.int .u8) w0 A l.length l
  le : l.length ≤ c
theorem HrSt.next {w0 : World} {A : Option Addr} {c : Nat} {l : List Int} (h : HrSt w0 A c l) (n : Nat) (hn : n ≤ l.length) : HrSt w0 (if c = n then A else A.map (·.add (n * 1))) (c - n) (l.drop n) :=
  ⟨Kd.C_drop h.C hn h.le, by have := h.le; rw [List.length_drop]; omega⟩
theorem hr_cut2 (w0 w : World) (g : Nat) (A : Option Addr) (c n : Nat) {ni : Int} (hni : (n : Int) = ni) (l : List Int) (hs : HrSt w0 A c l) (h0 : 0 < n) (hn : n ≤ l.length) (hg : w.heap[g]? = some (.cells #[.slice A l.length c] 88 (0, 0))) :
   Calls Try.prog 53 #[.pointer (some ⟨g, 0, none⟩), .int .i64 ni] w fun e w' => e = .returned (.slice A n n) ∧ ∃ A', HrSt w0 A' (c - n) (l.drop n) ∧ w'.heap[g]? = some (.cells #[.slice A' (l.drop n).length (c - n)] 88 (0, 0)) ∧ HrBut g w w' :=
  hni ▸ (hr_cut' w g A _ l.length c n h0 hn hs.le rfl hg).mono fun e w' ⟨h1, h2, h3⟩ => ⟨h1, _, hs.next n hn, by rw [List.length_drop]; exact h2, h3⟩
theorem hr_number2 (k : Nat) (w0 w : World) (g : Nat) (A : Option Addr) (c n : Nat) {ni : Int} (hni : (n : Int) = ni) (l : List Int) (r : Int) (hs : HrSt w0 A c l) (h0 : 0 < n) (hn : n ≤ l.length) (hge : w0.heap.size ≤ g) (h : hr_num.l0 k (l.take n) 0 0 = some r) (hB : Below w0.heap.size w0 w)
   (hg : w.heap[g]? = some (.cells #[.slice A l.length c] 88 (0, 0))) :
   Calls Try.prog 52 #[.pointer (some ⟨g, 0, none⟩), .int .i64 ni] w fun e w' => e = .returned (.int .u64 r) ∧ ∃ A', HrSt w0 A' (c - n) (l.drop n) ∧ w'.heap[g]? = some (.cells #[.slice A' (l.drop n).length (c - n)] 88 (0, 0)) ∧ HrBut g w w' :=
  hni ▸ (hr_number k w0 w g A _ c n l r rfl h0 hn hs.le hs.C hB hge hg h).mono fun e w' ⟨h1, h2, h3⟩ => ⟨h1, _, hs.next n hn, by rw [List.length_drop]; exact h2, h3⟩
theorem hr_value2 (k : Nat) (w0 w : World) (g : Nat) (A : Option Addr) (c : Nat) (l : List Int) (r1 r2 r3 r4 : Int) (hs : HrSt w0 A c l) (hn : 32 ≤ l.length) (hge : w0.heap.size ≤ g) (h : hr_val k l = some (r1, r2, r3, r4)) (hB : Below w0.heap.size w0 w)
   (hg : w.heap[g]? = some (.cells #[.slice A l.length c] 88 (0, 0))) :
   Calls Try.prog 54 #[.pointer (some ⟨g, 0, none⟩)] w fun e w' => e = .returned (.agg #[.bool false, .bool true, .int .u64 0, .int .u64 0, .int .u64 r1, .int .u64 r2, .int .u64 r3, .int .u64 r4, .int .i64 0]) ∧ ∃ A', HrSt w0 A' (c - 32) (l.drop 32) ∧ w'.heap[g]? = some (.cells #[.slice A' (l.drop 32).length (c - 32)] 88 (0, 0)) ∧ HrBut g w w' :=
  (hr_value k w0 w g A _ c l r1 r2 r3 r4 rfl hn hs.le hs.C hB hge hg h).mono fun e w' ⟨h1, h2, h3⟩ => ⟨h1, _, hs.next 32 hn, by rw [List.length_drop]; exact h2, h3⟩
section
variable {w w' : World} {base g : Nat} {ok : Nat → Prop} {v : Value} {L : List S41} {cs : Array Value}
theorem hr_R (h : Kd.R k41 41 w base ok v L) (hg : ∃ cs, w.heap[g]? = some (.cells cs 88 (0, 0))) (hb : HrBut g w w') : Kd.R k41 41 w' base ok v L :=
  let ⟨_, hg⟩ := hg; Kd.R_mono (Kd.R_step (Kd.R_types h hg (by decide)) (fun k hk hlt => hb.block k hlt hk.2)) (fun _ hk => hk.1)
theorem hr_Rset (h : Kd.R k41 41 w base ok v L) (hg : w.heap[g]? = some (.cells cs 31 (0, 0))) (i : Nat) (u : Value) : Kd.R k41 41 (w.setCell ⟨g, i, none⟩ u) base ok v L :=
  Kd.R_mono (Kd.R_far (Kd.R_types h hg (by decide)) (p := ⟨g, i, none⟩) (fun k hk => hk.2) u) (fun _ hk => hk.1)
theorem hr_Rnew (h : Kd.R k41 41 w base (fun _ => True) v L) (hb : Below w.heap.size w w') : Kd.R k41 41 w' base (fun k => k ≠ w.heap.size) v L :=
  Kd.R_below (Kd.R_mono (Kd.R_bound h) (fun k hk => Nat.ne_of_lt hk.2.2.1)) hb
theorem hr_far0_11 (h : Kd.R k41 41 w base (fun k => k ≠ g) v L) (u0 u1 u2 u3 u4 u5 u6 u7 u8 u9 u10 : Value) : Kd.R k41 41 (((((((((((w.setCell ⟨g, 0, none⟩ u0).setCell ⟨g, 1, none⟩ u1).setCell ⟨g, 2, none⟩ u2).setCell ⟨g, 3, none⟩ u3).setCell ⟨g, 4, none⟩ u4).setCell ⟨g, 5, none⟩ u5).setCell ⟨g, 6, none⟩ u6).setCell ⟨g, 7, none⟩ u7).setCell ⟨g, 8, none⟩ u8).setCell ⟨g, 9, none⟩ u9).setCell ⟨g, 10, none⟩ u10) base (fun k => k ≠ g) v L := (Kd.R_far (p := ⟨g, 10, none⟩) (Kd.R_far (p := ⟨g, 9, none⟩) (Kd.R_far (p := ⟨g, 8, none⟩) (Kd.R_far (p := ⟨g, 7, none⟩) (Kd.R_far (p := ⟨g, 6, none⟩) (Kd.R_far (p := ⟨g, 5, none⟩) (Kd.R_far (p := ⟨g, 4, none⟩) (Kd.R_far (p := ⟨g, 3, none⟩) (Kd.R_far (p := ⟨g, 2, none⟩) (Kd.R_far (p := ⟨g, 1, none⟩) (Kd.R_far (p := ⟨g, 0, none⟩) h (fun k_ hk => hk) u0) (fun k_ hk => hk) u1) (fun k_ hk => hk) u2) (fun k_ hk => hk) u3) (fun k_ hk => hk) u4) (fun k_ hk => hk) u5) (fun k_ hk => hk) u6) (fun k_ hk => hk) u7) (fun k_ hk => hk) u8) (fun k_ hk => hk) u9) (fun k_ hk => hk) u10)
theorem hr_far2_9 (h : Kd.R k41 41 w base (fun k => k ≠ g) v L) (u2 u3 u4 u5 u6 u7 u8 u9 u10 : Value) : Kd.R k41 41 (((((((((w.setCell ⟨g, 2, none⟩ u2).setCell ⟨g, 3, none⟩ u3).setCell ⟨g, 4, none⟩ u4).setCell ⟨g, 5, none⟩ u5).setCell ⟨g, 6, none⟩ u6).setCell ⟨g, 7, none⟩ u7).setCell ⟨g, 8, none⟩ u8).setCell ⟨g, 9, none⟩ u9).setCell ⟨g, 10, none⟩ u10) base (fun k => k ≠ g) v L := (Kd.R_far (p := ⟨g, 10, none⟩) (Kd.R_far (p := ⟨g, 9, none⟩) (Kd.R_far (p := ⟨g, 8, none⟩) (Kd.R_far (p := ⟨g, 7, none⟩) (Kd.R_far (p := ⟨g, 6, none⟩) (Kd.R_far (p := ⟨g, 5, none⟩) (Kd.R_far (p := ⟨g, 4, none⟩) (Kd.R_far (p := ⟨g, 3, none⟩) (Kd.R_far (p := ⟨g, 2, none⟩) h (fun k_ hk => hk) u2) (fun k_ hk => hk) u3) (fun k_ hk => hk) u4) (fun k_ hk => hk) u5) (fun k_ hk => hk) u6) (fun k_ hk => hk) u7) (fun k_ hk => hk) u8) (fun k_ hk => hk) u9) (fun k_ hk => hk) u10)
theorem hr_far4_9 (h : Kd.R k41 41 w base (fun k => k ≠ g) v L) (u4 u5 u6 u7 u8 u9 u10 u11 u12 : Value) : Kd.R k41 41 (((((((((w.setCell ⟨g, 4, none⟩ u4).setCell ⟨g, 5, none⟩ u5).setCell ⟨g, 6, none⟩ u6).setCell ⟨g, 7, none⟩ u7).setCell ⟨g, 8, none⟩ u8).setCell ⟨g, 9, none⟩ u9).setCell ⟨g, 10, none⟩ u10).setCell ⟨g, 11, none⟩ u11).setCell ⟨g, 12, none⟩ u12) base (fun k => k ≠ g) v L := (Kd.R_far (p := ⟨g, 12, none⟩) (Kd.R_far (p := ⟨g, 11, none⟩) (Kd.R_far (p := ⟨g, 10, none⟩) (Kd.R_far (p := ⟨g, 9, none⟩) (Kd.R_far (p := ⟨g, 8, none⟩) (Kd.R_far (p := ⟨g, 7, none⟩) (Kd.R_far (p := ⟨g, 6, none⟩) (Kd.R_far (p := ⟨g, 5, none⟩) (Kd.R_far (p := ⟨g, 4, none⟩) h (fun k_ hk => hk) u4) (fun k_ hk => hk) u5) (fun k_ hk => hk) u6) (fun k_ hk => hk) u7) (fun k_ hk => hk) u8) (fun k_ hk => hk) u9) (fun k_ hk => hk) u10) (fun k_ hk => hk) u11) (fun k_ hk => hk) u12)
theorem hr_far0_13 (h : Kd.R k41 41 w base (fun k => k ≠ g) v L) (u0 u1 u2 u3 u4 u5 u6 u7 u8 u9 u10 u11 u12 : Value) : Kd.R k41 41 (((((((((((((w.setCell ⟨g, 0, none⟩ u0).setCell ⟨g, 1, none⟩ u1).setCell ⟨g, 2, none⟩ u2).setCell ⟨g, 3, none⟩ u3).setCell ⟨g, 4, none⟩ u4).setCell ⟨g, 5, none⟩ u5).setCell ⟨g, 6, none⟩ u6).setCell ⟨g, 7, none⟩ u7).setCell ⟨g, 8, none⟩ u8).setCell ⟨g, 9, none⟩ u9).setCell ⟨g, 10, none⟩ u10).setCell ⟨g, 11, none⟩ u11).setCell ⟨g, 12, none⟩ u12) base (fun k => k ≠ g) v L := (Kd.R_far (p := ⟨g, 12, none⟩) (Kd.R_far (p := ⟨g, 11, none⟩) (Kd.R_far (p := ⟨g, 10, none⟩) (Kd.R_far (p := ⟨g, 9, none⟩) (Kd.R_far (p := ⟨g, 8, none⟩) (Kd.R_far (p := ⟨g, 7, none⟩) (Kd.R_far (p := ⟨g, 6, none⟩) (Kd.R_far (p := ⟨g, 5, none⟩) (Kd.R_far (p := ⟨g, 4, none⟩) (Kd.R_far (p := ⟨g, 3, none⟩) (Kd.R_far (p := ⟨g, 2, none⟩) (Kd.R_far (p := ⟨g, 1, none⟩) (Kd.R_far (p := ⟨g, 0, none⟩) h (fun k_ hk => hk) u0) (fun k_ hk => hk) u1) (fun k_ hk => hk) u2) (fun k_ hk => hk) u3) (fun k_ hk => hk) u4) (fun k_ hk => hk) u5) (fun k_ hk => hk) u6) (fun k_ hk => hk) u7) (fun k_ hk => hk) u8) (fun k_ hk => hk) u9) (fun k_ hk => hk) u10) (fun k_ hk => hk) u11) (fun k_ hk => hk) u12)
end
theorem hr_keep {W w1 : World} {g : Nat} {o : Obj} (hb : Below W.heap.size W w1) (h : W.heap[g]? = some o) : w1.heap[g]? = some o := kb_ h hb
theorem hr_below {w w' : World} {base : Nat} {ok : Nat → Prop} {v : Value} {L : List S41} (hb : Below w.heap.size w w') (h : Kd.R k41 41 w base ok v L) : Kd.R k41 41 w' base ok v L := Kd.R_below h hb
theorem hr_info : (Try.prog.info? 41).map (fun i => (i.zero, i.size, i.bytes)) = some (some (.agg #[(.int .u64 0), (.int .u64 0), (.bool false), (.bool false), (.int .u64 0), (.int .u64 0), (.int .u64 0), (.int .u64 0), (.int .u64 0), (.int .u64 0), (.int .i64 0)]), 11, 80) := by kernel_rfl
theorem hr_info8 : (Try.prog.info? 5).map (fun i => (i.zero, i.size, i.bytes)) = some (some (.int .u8 0), 1, 1) := by kernel_rfl
theorem hr_size (w : World) (p : Addr) (u : Value) : (w.setCell p u).heap.size = w.heap.size := by simp [World.setCell]
theorem hr_append {P : Program} {ops : Array Oper} {o : Oper} {rest : List Oper} {a : Act} {Q : Exit → Act → World → Prop} {α : Type} (d : Kd α) {w0 W : World} (base n0 : Nat) (hn0 : W.heap.size = n0) (hgd : o.guard = none) (s x : Operand) (t e : TypeId) (z : Value) (bytes : Nat)
   (ho : o.op = .call { callee := .builtin .append, args := #[s, x], argTypes := #[t, t] })
   (ht : P.underlying t = some (.slice e)) (hinfo : (P.info? e).map (fun i => (i.zero, i.size, i.bytes)) = some (some z, d.sz, bytes)) (hz : z.cells.size = d.sz) (hs0 : 0 < d.sz) (hb0 : 0 < bytes)
   (v : Value) (xs : List α) (p : α) (cs : List Value) (ok okp : Nat → Prop) (hs : a.eval s = v) (hx : a.eval x = .slice (some ⟨n0, 0, none⟩) 1 1) (hp : d.M W base okp p cs) (hokp : ∀ k, okp k → ok k ∧ some k ≠ v.ownBlock) (hfresh : ∀ k, W.heap.size ≤ k → ok k)
   (HO : d.R e W base ok v xs) (HB : Below base w0 W) (hbase : base ≤ W.heap.size) (hl : (xs.length + 1) * bytes ≤ 140737488355328)
   (h : ∀ v1 w1, d.R e w1 base ok v1 (xs ++ [p]) → Below base w0 w1 → W.grownBy w1 v.ownBlock → (v1.ownBlock = v.ownBlock ∨ ∃ b, v1.ownBlock = some b ∧ W.heap.size ≤ b) → wpList P ops Q rest (a.put o.dst v1) w1) :
   wpList P ops Q (o :: rest) a (W.alloc (.cells cs.toArray e)) := by
  subst hn0; exact Kd.R_append d base hgd s x t e z bytes ho ht hinfo hz hs0 hb0 v xs p cs ok okp hs hx hp hokp hfresh HO HB hbase hl h
theorem hr_grown {W w1 : World} {g : Nat} {o : Obj} {row : Option Nat} (hg : W.grownBy w1 row) (hne : some g ≠ row) (h : W.heap[g]? = some o) : w1.heap[g]? = some o := (hg.5 g (blk_lt h) (by first | exact hne | exact fun e => hne e.symm)).trans h
def head_From.l0 : Nat → List Int → List S41 → Option (List Int × List S41)
  | 0, _, _ => none
  | k + 1, l, L => if 32 < l.length then (if 48 ≤ l.length then ((hr_num.l0 k (l.take 8) 0 0).bind fun i => ((hr_num.l0 k ((l.drop 8).take 8) 0 0).bind fun j => ((hr_val k (l.drop 16)).bind fun y => (if L.length < 1759218604441 then (head_From.l0 k (l.drop 48) (L ++ [⟨⟨i, j⟩, ⟨false, true, ⟨0, 0⟩, ⟨⟨y.1, y.2.1⟩, ⟨y.2.2.1, y.2.2.2⟩⟩, 0⟩⟩])) else none)))) else none) else (if 32 ≤ l.length then some (l, L) else none)
def head_From.g (k : Nat) (l0 : List Int) : Option (Int × Int × Int × List S41 × Bool × Bool × Int × Int × Int × Int × Int × Int × Int × Int) :=
  (hr_num.l0 k ((l0.drop 1).take 1) 0 0).bind fun s => (hr_num.l0 k ((l0.drop 2).take 1) 0 0).bind fun h => (hr_num.l0 k ((l0.drop 3).take 8) 0 0).bind fun ep => (head_From.l0 k (l0.drop 15) []).bind fun q => (hr_val k q.1).bind fun y =>
   (head_Bytes.f k (wrap64 s) (wrap64 h) (wrap64 ep) q.2 false true 0 0 y.1 y.2.1 y.2.2.1 y.2.2.2 0).bind fun t => if t.2 = 0 then ((bytes_Equal.f t.1 l0).bind fun z => if z = true then some (wrap64 s, wrap64 h, wrap64 ep, q.2, false, true, 0, 0, y.1, y.2.1, y.2.2.1, y.2.2.2, 0, 0) else some (0, 0, 0, [], false, false, 0, 0, 0, 0, 0, 0, 0, 2)) else some (0, 0, 0, [], false, false, 0, 0, 0, 0, 0, 0, 0, 2)
def head_From.f (k : Nat) (l0 : List Int) : Option (Int × Int × Int × List S41 × Bool × Bool × Int × Int × Int × Int × Int × Int × Int × Int) :=
  if (l0.length : Int) > 2097152 then some (0, 0, 0, [], false, false, 0, 0, 0, 0, 0, 0, 0, 3) else if (l0.length : Int) < 47 then some (0, 0, 0, [], false, false, 0, 0, 0, 0, 0, 0, 0, 2) else if (Int.tmod ((l0.length : Int) - 47) 48) = 0 then head_From.g k l0 else some (0, 0, 0, [], false, false, 0, 0, 0, 0, 0, 0, 0, 2)
theorem hr_num.mono : ∀ k l x i, LeO (hr_num.l0 k l x i) (hr_num.l0 (k + 1) l x i)
  | 0 => fun _ _ _ r h => by simp [hr_num.l0] at h
  | k + 1 => fun l x i => by
   unfold hr_num.l0
   repeat' first
    | exact hr_num.mono k _ _ _
    | exact LeO.refl _
    | refine LeO.ite ?_ ?_
theorem hr_val.mono (k : Nat) (l : List Int) : LeO (hr_val k l) (hr_val (k + 1) l) := LeO.bind (seal_Of.mono _ _) (fun _ => LeO.refl _)
theorem head_From.mono_l : ∀ k l L, LeO (head_From.l0 k l L) (head_From.l0 (k + 1) l L)
  | 0 => fun _ _ r h => by simp [head_From.l0] at h
  | k + 1 => fun l L => by
   unfold head_From.l0
   repeat' first
    | exact head_From.mono_l k _ _
    | exact hr_num.mono k _ _ _
    | exact hr_val.mono k _
    | exact LeO.refl _
    | refine LeO.ite ?_ ?_
    | refine LeO.bind ?_ (fun _ => ?_)
theorem head_From.mono : ∀ a0 k, LeO (head_From.f k a0) (head_From.f (k + 1) a0) := by
  intro a0 k
  unfold head_From.f head_From.g
  repeat' first
   | exact head_From.mono_l k _ _
   | exact hr_num.mono k _ _ _
   | exact hr_val.mono k _
   | exact head_Bytes.mono _ _ _ _ _ _ _ _ _ _ _ _ _ _
   | exact LeO.refl _
   | refine LeO.ite ?_ ?_
   | refine LeO.bind ?_ (fun _ => ?_)
set_option maxHeartbeats 64000000 in
set_option maxRecDepth 100000 in
theorem head_From.calls (k : Nat) (A0 : Option Addr) (c0 : Nat) (l0 : List Int) (r1 : Int) (r2 : Int) (r3 : Int) (r4 : List S41) (r5 : Bool) (r6 : Bool) (r7 r8 r9 r10 r11 r12 r13 r14 : Int) (w : World) (hr0 : Kd.C (Kd.int .u8) w A0 l0.length l0) (hc0 : l0.length ≤ c0) (h : head_From.f k l0 = some (r1, r2, r3, r4, r5, r6, r7, r8, r9, r10, r11, r12, r13, r14)) :
   Calls Try.prog 19 #[.slice A0 l0.length c0] w fun e w' => ∃ v0_ : Value, e = .returned (.tuple #[.agg #[.int .i64 r1, .int .i64 r2, .int .i64 r3, v0_, .bool r5, .bool r6, .int .u64 r7, .int .u64 r8, .int .u64 r9, .int .u64 r10, .int .u64 r11, .int .u64 r12, .int .i64 r13], .int .i64 r14]) ∧ Kd.R k41 41 w' w.heap.size (fun _ => True) v0_ r4 ∧ Below w.heap.size w w' := by
  have hu31 := underlying31
  have hu41 := underlying41
  have hu29 := underlying29
  have hu88 := underlying88
  have HB := ak_ (Below.refl w.heap.size w)
  have HC := ak_ hr0
  have HL := ak_ hc0
  have hlm := hr0.2.1
  clear hr0 hc0
  rw [head_From.f] at h
  by_cases c1 : (l0.length : Int) > 2097152
  ·rw [if_pos c1] at h
   simp only [some.injEq, Prod.mk.injEq] at h
   obtain ⟨rfl, rfl, rfl, rfl, rfl, rfl, rfl, rfl, rfl, rfl, rfl, rfl, rfl, rfl⟩ := h
   have c1b : decide (2097152 < (l0.length : Int)) = true := decide_eq_true c1
   clear c1 hlm
   go_enter func19, ntmps19
   go_wp2_with (first | ((with_reducible refine gate_dst (N := 2) rfl ?_); refine bx_ 2 #[.int .i64 0, .int .i64 0, .int .i64 0, .slice none 0 0, .bool false, .bool false, .int .u64 0, .int .u64 0, .int .u64 0, .int .u64 0, .int .u64 0, .int .u64 0, .int .i64 0] 31 ?_; intro g2 hgq w2 hbox hb; have G2 := ak_ (show w.heap.size ≤ g2 by rw [hgq]; exact bz_ (bl_ HB)); have m_ := ak_ (bt_ (bl_ HB) hb); clear HB; have HB := m_; clear m_; have B2 := ak_ hbox; clear hbox hb hgq; have hz2_0 : w2.cell? ⟨g2, 0, none⟩ = some (.int .i64 0) := (kc_ B2.out 0).trans rfl; have hf2_0 := kf_ B2.out 0; have hz2_1 : w2.cell? ⟨g2, 1, none⟩ = some (.int .i64 0) := (kc_ B2.out 1).trans rfl; have hf2_1 := kf_ B2.out 1; have hz2_2 : w2.cell? ⟨g2, 2, none⟩ = some (.int .i64 0) := (kc_ B2.out 2).trans rfl; have hf2_2 := kf_ B2.out 2; have hz2_3 : w2.cell? ⟨g2, 3, none⟩ = some (.slice none 0 0) := (kc_ B2.out 3).trans rfl; have hf2_3 := kf_ B2.out 3; have hz2_4 : w2.cell? ⟨g2, 4, none⟩ = some (.bool false) := (kc_ B2.out 4).trans rfl; have hf2_4 := kf_ B2.out 4; have hz2_5 : w2.cell? ⟨g2, 5, none⟩ = some (.bool false) := (kc_ B2.out 5).trans rfl; have hf2_5 := kf_ B2.out 5; have hz2_6 : w2.cell? ⟨g2, 6, none⟩ = some (.int .u64 0) := (kc_ B2.out 6).trans rfl; have hf2_6 := kf_ B2.out 6; have hz2_7 : w2.cell? ⟨g2, 7, none⟩ = some (.int .u64 0) := (kc_ B2.out 7).trans rfl; have hf2_7 := kf_ B2.out 7; have hz2_8 : w2.cell? ⟨g2, 8, none⟩ = some (.int .u64 0) := (kc_ B2.out 8).trans rfl; have hf2_8 := kf_ B2.out 8; have hz2_9 : w2.cell? ⟨g2, 9, none⟩ = some (.int .u64 0) := (kc_ B2.out 9).trans rfl; have hf2_9 := kf_ B2.out 9; have hz2_10 : w2.cell? ⟨g2, 10, none⟩ = some (.int .u64 0) := (kc_ B2.out 10).trans rfl; have hf2_10 := kf_ B2.out 10; have hz2_11 : w2.cell? ⟨g2, 11, none⟩ = some (.int .u64 0) := (kc_ B2.out 11).trans rfl; have hf2_11 := kf_ B2.out 11; have hz2_12 : w2.cell? ⟨g2, 12, none⟩ = some (.int .i64 0) := (kc_ B2.out 12).trans rfl; have hf2_12 := kf_ B2.out 12))
   refine bodyPost_ret (results_ct rfl _ _ g2 31 #[.int .i64 0, .int .i64 0, .int .i64 0, .slice none 0 0, .bool false, .bool false, .int .u64 0, .int .u64 0, .int .u64 0, .int .u64 0, .int .u64 0, .int .u64 0, .int .i64 0] (0, 0) _ rfl ((sC_blk B2.out rfl rfl)) underlying31 rfl (by kernel_rfl)) rfl ?_
   exact ⟨.slice none 0 0, rfl, Kd.R_nil _ _ _ _ _, (bw1_ HB G2)⟩
  rw [if_neg c1] at h
  have c1b : decide (2097152 < (l0.length : Int)) = false := decide_eq_false c1
  by_cases c2 : (l0.length : Int) < 47
  ·rw [if_pos c2] at h
   simp only [some.injEq, Prod.mk.injEq] at h
   obtain ⟨rfl, rfl, rfl, rfl, rfl, rfl, rfl, rfl, rfl, rfl, rfl, rfl, rfl, rfl⟩ := h
   have c2b : decide ((l0.length : Int) < 47) = true := decide_eq_true c2
   clear c1 c2 hlm
   go_enter func19, ntmps19
   go_wp2_with (first | ((with_reducible refine gate_dst (N := 2) rfl ?_); refine bx_ 2 #[.int .i64 0, .int .i64 0, .int .i64 0, .slice none 0 0, .bool false, .bool false, .int .u64 0, .int .u64 0, .int .u64 0, .int .u64 0, .int .u64 0, .int .u64 0, .int .i64 0] 31 ?_; intro g2 hgq w2 hbox hb; have G2 := ak_ (show w.heap.size ≤ g2 by rw [hgq]; exact bz_ (bl_ HB)); have m_ := ak_ (bt_ (bl_ HB) hb); clear HB; have HB := m_; clear m_; have B2 := ak_ hbox; clear hbox hb hgq; have hz2_0 : w2.cell? ⟨g2, 0, none⟩ = some (.int .i64 0) := (kc_ B2.out 0).trans rfl; have hf2_0 := kf_ B2.out 0; have hz2_1 : w2.cell? ⟨g2, 1, none⟩ = some (.int .i64 0) := (kc_ B2.out 1).trans rfl; have hf2_1 := kf_ B2.out 1; have hz2_2 : w2.cell? ⟨g2, 2, none⟩ = some (.int .i64 0) := (kc_ B2.out 2).trans rfl; have hf2_2 := kf_ B2.out 2; have hz2_3 : w2.cell? ⟨g2, 3, none⟩ = some (.slice none 0 0) := (kc_ B2.out 3).trans rfl; have hf2_3 := kf_ B2.out 3; have hz2_4 : w2.cell? ⟨g2, 4, none⟩ = some (.bool false) := (kc_ B2.out 4).trans rfl; have hf2_4 := kf_ B2.out 4; have hz2_5 : w2.cell? ⟨g2, 5, none⟩ = some (.bool false) := (kc_ B2.out 5).trans rfl; have hf2_5 := kf_ B2.out 5; have hz2_6 : w2.cell? ⟨g2, 6, none⟩ = some (.int .u64 0) := (kc_ B2.out 6).trans rfl; have hf2_6 := kf_ B2.out 6; have hz2_7 : w2.cell? ⟨g2, 7, none⟩ = some (.int .u64 0) := (kc_ B2.out 7).trans rfl; have hf2_7 := kf_ B2.out 7; have hz2_8 : w2.cell? ⟨g2, 8, none⟩ = some (.int .u64 0) := (kc_ B2.out 8).trans rfl; have hf2_8 := kf_ B2.out 8; have hz2_9 : w2.cell? ⟨g2, 9, none⟩ = some (.int .u64 0) := (kc_ B2.out 9).trans rfl; have hf2_9 := kf_ B2.out 9; have hz2_10 : w2.cell? ⟨g2, 10, none⟩ = some (.int .u64 0) := (kc_ B2.out 10).trans rfl; have hf2_10 := kf_ B2.out 10; have hz2_11 : w2.cell? ⟨g2, 11, none⟩ = some (.int .u64 0) := (kc_ B2.out 11).trans rfl; have hf2_11 := kf_ B2.out 11; have hz2_12 : w2.cell? ⟨g2, 12, none⟩ = some (.int .i64 0) := (kc_ B2.out 12).trans rfl; have hf2_12 := kf_ B2.out 12))
   refine bodyPost_ret (results_ct rfl _ _ g2 31 #[.int .i64 0, .int .i64 0, .int .i64 0, .slice none 0 0, .bool false, .bool false, .int .u64 0, .int .u64 0, .int .u64 0, .int .u64 0, .int .u64 0, .int .u64 0, .int .i64 0] (0, 0) _ rfl ((sC_blk B2.out rfl rfl)) underlying31 rfl (by kernel_rfl)) rfl ?_
   exact ⟨.slice none 0 0, rfl, Kd.R_nil _ _ _ _ _, (bw1_ HB G2)⟩
  rw [if_neg c2] at h
  have c2b : decide ((l0.length : Int) < 47) = false := decide_eq_false c2
  have e5 : IntKind.i64.wrap ((l0.length : Int) - 15) = (l0.length : Int) - 15 := by rw [IntKind.wrap_i64]; omega
  have e6 : IntKind.i64.wrap ((l0.length : Int) - 15 - 32) = (l0.length : Int) - 47 := by rw [IntKind.wrap_i64]; omega
  have e5w : wrap64 ((l0.length : Int) - 15) = (l0.length : Int) - 15 := by rw [← i64_w]; exact e5
  have e6w : wrap64 ((l0.length : Int) - 15 - 32) = (l0.length : Int) - 47 := by rw [← i64_w]; exact e6
  by_cases c3 : (Int.tmod ((l0.length : Int) - 47) 48) = 0
  case neg =>
   rw [if_neg c3] at h
   simp only [some.injEq, Prod.mk.injEq] at h
   obtain ⟨rfl, rfl, rfl, rfl, rfl, rfl, rfl, rfl, rfl, rfl, rfl, rfl, rfl, rfl⟩ := h
   have c3b : ((Int.tmod ((l0.length : Int) - 47) 48) == 0) = false := beq_eq_false_iff_ne.mpr c3
   have c3d : ((Int.tmod ((l0.length : Int) - 47) 48) != 0) = true := bne_iff_ne.mpr c3
   clear c1 c2 hlm
   go_enter func19, ntmps19
   go_wp2_with (first | ((with_reducible refine gate_dst (N := 2) rfl ?_); refine bx_ 2 #[.int .i64 0, .int .i64 0, .int .i64 0, .slice none 0 0, .bool false, .bool false, .int .u64 0, .int .u64 0, .int .u64 0, .int .u64 0, .int .u64 0, .int .u64 0, .int .i64 0] 31 ?_; intro g2 hgq w2 hbox hb; have G2 := ak_ (show w.heap.size ≤ g2 by rw [hgq]; exact bz_ (bl_ HB)); have m_ := ak_ (bt_ (bl_ HB) hb); clear HB; have HB := m_; clear m_; have B2 := ak_ hbox; clear hbox hb hgq; have hz2_0 : w2.cell? ⟨g2, 0, none⟩ = some (.int .i64 0) := (kc_ B2.out 0).trans rfl; have hf2_0 := kf_ B2.out 0; have hz2_1 : w2.cell? ⟨g2, 1, none⟩ = some (.int .i64 0) := (kc_ B2.out 1).trans rfl; have hf2_1 := kf_ B2.out 1; have hz2_2 : w2.cell? ⟨g2, 2, none⟩ = some (.int .i64 0) := (kc_ B2.out 2).trans rfl; have hf2_2 := kf_ B2.out 2; have hz2_3 : w2.cell? ⟨g2, 3, none⟩ = some (.slice none 0 0) := (kc_ B2.out 3).trans rfl; have hf2_3 := kf_ B2.out 3; have hz2_4 : w2.cell? ⟨g2, 4, none⟩ = some (.bool false) := (kc_ B2.out 4).trans rfl; have hf2_4 := kf_ B2.out 4; have hz2_5 : w2.cell? ⟨g2, 5, none⟩ = some (.bool false) := (kc_ B2.out 5).trans rfl; have hf2_5 := kf_ B2.out 5; have hz2_6 : w2.cell? ⟨g2, 6, none⟩ = some (.int .u64 0) := (kc_ B2.out 6).trans rfl; have hf2_6 := kf_ B2.out 6; have hz2_7 : w2.cell? ⟨g2, 7, none⟩ = some (.int .u64 0) := (kc_ B2.out 7).trans rfl; have hf2_7 := kf_ B2.out 7; have hz2_8 : w2.cell? ⟨g2, 8, none⟩ = some (.int .u64 0) := (kc_ B2.out 8).trans rfl; have hf2_8 := kf_ B2.out 8; have hz2_9 : w2.cell? ⟨g2, 9, none⟩ = some (.int .u64 0) := (kc_ B2.out 9).trans rfl; have hf2_9 := kf_ B2.out 9; have hz2_10 : w2.cell? ⟨g2, 10, none⟩ = some (.int .u64 0) := (kc_ B2.out 10).trans rfl; have hf2_10 := kf_ B2.out 10; have hz2_11 : w2.cell? ⟨g2, 11, none⟩ = some (.int .u64 0) := (kc_ B2.out 11).trans rfl; have hf2_11 := kf_ B2.out 11; have hz2_12 : w2.cell? ⟨g2, 12, none⟩ = some (.int .i64 0) := (kc_ B2.out 12).trans rfl; have hf2_12 := kf_ B2.out 12))
   refine bodyPost_ret (results_ct rfl _ _ g2 31 #[.int .i64 0, .int .i64 0, .int .i64 0, .slice none 0 0, .bool false, .bool false, .int .u64 0, .int .u64 0, .int .u64 0, .int .u64 0, .int .u64 0, .int .u64 0, .int .i64 0] (0, 0) _ rfl ((sC_blk B2.out rfl rfl)) underlying31 rfl (by kernel_rfl)) rfl ?_
   exact ⟨.slice none 0 0, rfl, Kd.R_nil _ _ _ _ _, (bw1_ HB G2)⟩
  rw [if_pos c3] at h
  have c3b : ((Int.tmod ((l0.length : Int) - 47) 48) == 0) = true := beq_iff_eq.mpr c3
  have c3d : ((Int.tmod ((l0.length : Int) - 47) 48) != 0) = false := bne_eq_false_iff_eq.mpr c3
  rw [head_From.g] at h
  obtain ⟨s, h1, h⟩ := bind_eq_some_iff.mp h
  obtain ⟨hh, h2, h⟩ := bind_eq_some_iff.mp h
  obtain ⟨ep, h3, h⟩ := bind_eq_some_iff.mp h
  obtain ⟨⟨lr, Lr⟩, h4, h⟩ := bind_eq_some_iff.mp h
  obtain ⟨⟨y1, y2, y3, y4⟩, h5, h⟩ := bind_eq_some_iff.mp h
  obtain ⟨⟨t, e1⟩, h6, h⟩ := bind_eq_some_iff.mp h
  dsimp only at h5 h6 h
  obtain ⟨i0, hi0, _, hsz0, _⟩ := info_parts hr_info8
  obtain ⟨A1, hcut0, hA0, hC0⟩ := print_drop_of (P := Try.prog) (Value.int .u8) 0 35 5 .i64 underlying35 hi0 hsz0 A0 c0 l0 1 (by omega) (by omega) HL.out
  have S1 : HrSt w A1 (c0 - 1) (l0.drop 1) := ⟨Kd.C_of_reads (h1 := fun _ => rfl) (hA0 _ (Kd.reads_of_C HC.out)), hC0⟩
  have N1 := ak_ (fun (g : Nat) (hge : w.heap.size ≤ g) (W : World) => hr_number2 k w W g A1 (c0 - 1) 1 (ni := 1) rfl (l0.drop 1) s S1 (by decide) (by rw [List.length_drop]; omega) hge h1)
  have N2 := ak_ (fun (A : Option Addr) (c : Nat) (S : HrSt w A c (l0.drop 2)) (g : Nat) (hge : w.heap.size ≤ g) (W : World) => hr_number2 k w W g A c 1 (ni := 1) rfl (l0.drop 2) hh S (by decide) (by rw [List.length_drop]; omega) hge h2)
  have N3 := ak_ (fun (A : Option Addr) (c : Nat) (S : HrSt w A c (l0.drop 3)) (g : Nat) (hge : w.heap.size ≤ g) (W : World) => hr_number2 k w W g A c 8 (ni := 8) rfl (l0.drop 3) ep S (by decide) (by rw [List.length_drop]; omega) hge h3)
  have N4 := ak_ (fun (A : Option Addr) (c : Nat) (S : HrSt w A c (l0.drop 11)) (g : Nat) (W : World) => hr_cut2 w W g A c 4 (ni := 4) rfl (l0.drop 11) S (by decide) (by rw [List.length_drop]; omega))
  obtain ⟨l1, hl1⟩ : ∃ y_ : List Int, y_ = l0.drop 1 := ⟨_, rfl⟩
  have hcut : ∀ W : World, (Instr.slice 35 (.slice A0 l0.length c0) (some (.int .i64 1)) none none).run Try.prog W = .ok (.slice A1 l1.length (c0 - 1)) W := by rw [hl1]; exact hcut0
  clear hcut0 hA0 hC0 hi0 hsz0
  rw [← hl1] at N1 S1
  have HL1 := ak_ hl1
  have H1 := ak_ S1
  have H4 := ak_ h4
  have H5 := ak_ h5
  have H6 := ak_ h6
  have H' := ak_ h
  have C2 := ak_ c2
  clear hl1 S1 h1 h2 h3 h4 h5 h6 h c1 c2 c3 hlm
  go_enter func19, ntmps19
  go_wp2_with (first | ((with_reducible refine gate_dst (N := 2) rfl ?_); refine bx_ 2 #[.int .i64 0, .int .i64 0, .int .i64 0, .slice none 0 0, .bool false, .bool false, .int .u64 0, .int .u64 0, .int .u64 0, .int .u64 0, .int .u64 0, .int .u64 0, .int .i64 0] 31 ?_; intro g2 hgq w2 hbox hb; have G2 := ak_ (show w.heap.size ≤ g2 by rw [hgq]; exact bz_ (bl_ HB)); have m_ := ak_ (bt_ (bl_ HB) hb); clear HB; have HB := m_; clear m_; have B2 := ak_ hbox; clear hbox hb hgq; have hz2_0 : w2.cell? ⟨g2, 0, none⟩ = some (.int .i64 0) := (kc_ B2.out 0).trans rfl; have hf2_0 := kf_ B2.out 0; have hz2_1 : w2.cell? ⟨g2, 1, none⟩ = some (.int .i64 0) := (kc_ B2.out 1).trans rfl; have hf2_1 := kf_ B2.out 1; have hz2_2 : w2.cell? ⟨g2, 2, none⟩ = some (.int .i64 0) := (kc_ B2.out 2).trans rfl; have hf2_2 := kf_ B2.out 2; have hz2_3 : w2.cell? ⟨g2, 3, none⟩ = some (.slice none 0 0) := (kc_ B2.out 3).trans rfl; have hf2_3 := kf_ B2.out 3; have hz2_4 : w2.cell? ⟨g2, 4, none⟩ = some (.bool false) := (kc_ B2.out 4).trans rfl; have hf2_4 := kf_ B2.out 4; have hz2_5 : w2.cell? ⟨g2, 5, none⟩ = some (.bool false) := (kc_ B2.out 5).trans rfl; have hf2_5 := kf_ B2.out 5; have hz2_6 : w2.cell? ⟨g2, 6, none⟩ = some (.int .u64 0) := (kc_ B2.out 6).trans rfl; have hf2_6 := kf_ B2.out 6; have hz2_7 : w2.cell? ⟨g2, 7, none⟩ = some (.int .u64 0) := (kc_ B2.out 7).trans rfl; have hf2_7 := kf_ B2.out 7; have hz2_8 : w2.cell? ⟨g2, 8, none⟩ = some (.int .u64 0) := (kc_ B2.out 8).trans rfl; have hf2_8 := kf_ B2.out 8; have hz2_9 : w2.cell? ⟨g2, 9, none⟩ = some (.int .u64 0) := (kc_ B2.out 9).trans rfl; have hf2_9 := kf_ B2.out 9; have hz2_10 : w2.cell? ⟨g2, 10, none⟩ = some (.int .u64 0) := (kc_ B2.out 10).trans rfl; have hf2_10 := kf_ B2.out 10; have hz2_11 : w2.cell? ⟨g2, 11, none⟩ = some (.int .u64 0) := (kc_ B2.out 11).trans rfl; have hf2_11 := kf_ B2.out 11; have hz2_12 : w2.cell? ⟨g2, 12, none⟩ = some (.int .i64 0) := (kc_ B2.out 12).trans rfl; have hf2_12 := kf_ B2.out 12) | ((with_reducible refine gate_dst (N := 30) rfl ?_); refine bx_ 30 #[.slice A1 l1.length (c0 - 1)] 88 ?_; intro gr hgq wr hbox hb; have Gr := ak_ (show w.heap.size ≤ gr by rw [hgq]; exact bz_ (bl_ HB)); have N2r := ak_ (show g2 ≠ gr by rw [hgq]; exact Nat.ne_of_lt (blk_lt (B2.out))); have m2 := ak_ (kb_ (B2.out) hb); have m_ := ak_ (bt_ (bl_ HB) hb); clear HB; have HB := m_; clear m_; clear B2; have B2 := m2; clear m2; have Br := ak_ hbox; clear hbox hb hgq) | (go_at_call 52; with_reducible refine (N1.out gr Gr.out _ ?s1 ?s2).mono ?_; (case s1 => exact (bl_ HB)); (case s2 => exact Br.out); rintro e wn1 ⟨rfl, A2, S2, hgn, hb⟩; have m2 := ak_ (hb.ne (B2.out) N2r.out); have m_ := ak_ (hr_bel (bl_ HB) hb Gr.out); rw [HL1.out, List.drop_drop] at S2 hgn; clear HB; have HB := m_; clear m_; clear Br; have Br := ak_ hgn; clear B2; have B2 := m2; clear m2; clear hgn hb) | (go_at_call 52; with_reducible refine (N2.out A2 _ S2 gr Gr.out _ ?s1 ?s2).mono ?_; (case s1 => exact (bl_ HB)); (case s2 => exact Br.out); rintro e wn2 ⟨rfl, A3, S3, hgn, hb⟩; have m2 := ak_ (hb.ne (B2.out) N2r.out); have m_ := ak_ (hr_bel (bl_ HB) hb Gr.out); rw [List.drop_drop] at S3 hgn; clear HB; have HB := m_; clear m_; clear Br; have Br := ak_ hgn; clear B2; have B2 := m2; clear m2; clear hgn hb) | (go_at_call 52; with_reducible refine (N3.out A3 _ S3 gr Gr.out _ ?s1 ?s2).mono ?_; (case s1 => exact (bl_ HB)); (case s2 => exact Br.out); rintro e wn3 ⟨rfl, A4, S4, hgn, hb⟩; have m2 := ak_ (hb.ne (B2.out) N2r.out); have m_ := ak_ (hr_bel (bl_ HB) hb Gr.out); rw [List.drop_drop] at S4 hgn; clear HB; have HB := m_; clear m_; clear Br; have Br := ak_ hgn; clear B2; have B2 := m2; clear m2; clear hgn hb) | ((with_reducible refine gate_dst (N := 5) rfl ?_); refine bx_ 5 #[.int .i64 0, .int .i64 0, .int .i64 0, .slice none 0 0, .bool false, .bool false, .int .u64 0, .int .u64 0, .int .u64 0, .int .u64 0, .int .u64 0, .int .u64 0, .int .i64 0] 31 ?_; intro g5 hgq w5 hbox hb; have G5 := ak_ (show w.heap.size ≤ g5 by rw [hgq]; exact bz_ (bl_ HB)); have N25 := ak_ (show g2 ≠ g5 by rw [hgq]; exact Nat.ne_of_lt (blk_lt (B2.out))); have m2 := ak_ (kb_ (B2.out) hb); have Nr5 := ak_ (show gr ≠ g5 by rw [hgq]; exact Nat.ne_of_lt (blk_lt (Br.out))); have mr := ak_ (kb_ (Br.out) hb); have m_ := ak_ (bt_ (bl_ HB) hb); clear HB; have HB := m_; clear m_; clear B2; have B2 := m2; clear m2; clear Br; have Br := mr; clear mr; have B5 := ak_ hbox; clear hbox hb hgq; have hz5_0 : w5.cell? ⟨g5, 0, none⟩ = some (.int .i64 0) := (kc_ B5.out 0).trans rfl; have hf5_0 := kf_ B5.out 0; have hz5_1 : w5.cell? ⟨g5, 1, none⟩ = some (.int .i64 0) := (kc_ B5.out 1).trans rfl; have hf5_1 := kf_ B5.out 1; have hz5_2 : w5.cell? ⟨g5, 2, none⟩ = some (.int .i64 0) := (kc_ B5.out 2).trans rfl; have hf5_2 := kf_ B5.out 2; have hz5_3 : w5.cell? ⟨g5, 3, none⟩ = some (.slice none 0 0) := (kc_ B5.out 3).trans rfl; have hf5_3 := kf_ B5.out 3; have hz5_4 : w5.cell? ⟨g5, 4, none⟩ = some (.bool false) := (kc_ B5.out 4).trans rfl; have hf5_4 := kf_ B5.out 4; have hz5_5 : w5.cell? ⟨g5, 5, none⟩ = some (.bool false) := (kc_ B5.out 5).trans rfl; have hf5_5 := kf_ B5.out 5; have hz5_6 : w5.cell? ⟨g5, 6, none⟩ = some (.int .u64 0) := (kc_ B5.out 6).trans rfl; have hf5_6 := kf_ B5.out 6; have hz5_7 : w5.cell? ⟨g5, 7, none⟩ = some (.int .u64 0) := (kc_ B5.out 7).trans rfl; have hf5_7 := kf_ B5.out 7; have hz5_8 : w5.cell? ⟨g5, 8, none⟩ = some (.int .u64 0) := (kc_ B5.out 8).trans rfl; have hf5_8 := kf_ B5.out 8; have hz5_9 : w5.cell? ⟨g5, 9, none⟩ = some (.int .u64 0) := (kc_ B5.out 9).trans rfl; have hf5_9 := kf_ B5.out 9; have hz5_10 : w5.cell? ⟨g5, 10, none⟩ = some (.int .u64 0) := (kc_ B5.out 10).trans rfl; have hf5_10 := kf_ B5.out 10; have hz5_11 : w5.cell? ⟨g5, 11, none⟩ = some (.int .u64 0) := (kc_ B5.out 11).trans rfl; have hf5_11 := kf_ B5.out 11; have hz5_12 : w5.cell? ⟨g5, 12, none⟩ = some (.int .i64 0) := (kc_ B5.out 12).trans rfl; have hf5_12 := kf_ B5.out 12) | (go_at_call 53; with_reducible refine (N4.out A4 _ S4 gr _ ?s2).mono ?_; (case s2 => exact blk_far (blk_far (blk_far (blk_far (blk_far (blk_far (blk_far (blk_far (blk_far (blk_far (blk_far (blk_far (blk_far (Br.out) Nr5.out _) Nr5.out _) Nr5.out _) Nr5.out _) Nr5.out _) Nr5.out _) Nr5.out _) Nr5.out _) Nr5.out _) Nr5.out _) Nr5.out _) Nr5.out _) Nr5.out _); rintro e wn4 ⟨rfl, A5, S5, hgn, hb⟩; have m2 := ak_ (hb.ne (blk_far (blk_far (blk_far (blk_far (blk_far (blk_far (blk_far (blk_far (blk_far (blk_far (blk_far (blk_far (blk_far (B2.out) N25.out _) N25.out _) N25.out _) N25.out _) N25.out _) N25.out _) N25.out _) N25.out _) N25.out _) N25.out _) N25.out _) N25.out _) N25.out _) N2r.out); have m5 : Aside0 (wn4.heap[g5]? = some (.cells #[.int .i64 (wrap64 s), .int .i64 (wrap64 hh), .int .i64 (wrap64 ep), .slice none 0 0, .bool false, .bool false, .int .u64 0, .int .u64 0, .int .u64 0, .int .u64 0, .int .u64 0, .int .u64 0, .int .i64 0] 31 (0, 0))) := ⟨hb.ne (sC_blk B5.out rfl rfl) Nr5.out.symm⟩; have m_ := ak_ (hr_bel (bw1_ HB G5) hb Gr.out); rw [List.drop_drop] at S5 hgn; clear HB; have HB := m_; clear m_; clear Br; have Br := ak_ hgn; clear B2; have B2 := m2; clear m2; clear B5; have B5 := m5; clear m5; clear hgn hb))
  go_loopg [43] k (fun kq v43 w' => ∃ (A : Option Addr) (c : Nat) (l : List Int) (L : List S41) (v : Value), Aside0 (HrSt w A c l) ∧ Aside0 (head_From.l0 kq l L = some (lr, Lr)) ∧ Aside0 (kq ≤ k) ∧ Aside0 (w'.heap[gr]? = some (.cells #[.slice A l.length c] 88 (0, 0))) ∧ Aside0 (w'.heap[g5]? = some (.cells #[.int .i64 (wrap64 s), .int .i64 (wrap64 hh), .int .i64 (wrap64 ep), v, .bool false, .bool false, .int .u64 0, .int .u64 0, .int .u64 0, .int .u64 0, .int .u64 0, .int .u64 0, .int .i64 0] 31 (0, 0))) ∧ Aside0 (w'.heap[g2]? = some (.cells #[.int .i64 0, .int .i64 0, .int .i64 0, .slice none 0 0, .bool false, .bool false, .int .u64 0, .int .u64 0, .int .u64 0, .int .u64 0, .int .u64 0, .int .u64 0, .int .i64 0] 31 (0, 0))) ∧ Aside0 (Kd.R k41 41 w' w.heap.size (fun _ => True) v L) ∧ Aside0 (Below w.heap.size w w'))
  case atStart => exact ⟨A5, _, l0.drop 15, [], .slice none 0 0, ⟨S5⟩, H4, ⟨Nat.le_refl _⟩, Br, B5, B2, ⟨Kd.R_nil _ _ _ _ _⟩, HB⟩
  case round =>
   clear H4 Br B5 B2 HB S5 S4 S3 S2 hcut N1 N2 N3 N4
   obtain ⟨A, c, l, L, v, ST, HA, HK1, Br, B5, B2, HV, HB⟩ := hrel
   cases gk with
   | zero => exact absurd HA.out (by simp [head_From.l0])
   | succ k1 =>
    have H := HA.out
    clear HA
    rw [head_From.l0] at H
    have hrc : wr.cell? ⟨gr, 0, none⟩ = some (.slice A l.length c) := (kc_ Br.out 0).trans rfl
    by_cases c6 : 32 < l.length
    ·rw [if_pos c6] at H
     by_cases c7 : 48 ≤ l.length
     ·rw [if_pos c7] at H
      have c6b : decide (32 < (l.length : Int)) = true := decide_eq_true (by omega)
      obtain ⟨i, h1, H⟩ := bind_eq_some_iff.mp H
      obtain ⟨j, h2, H⟩ := bind_eq_some_iff.mp H
      obtain ⟨⟨a, b, c_, d⟩, h3, H⟩ := bind_eq_some_iff.mp H
      dsimp only at H
      by_cases c8 : L.length < 1759218604441
      ·rw [if_pos c8] at H
       have HL8 := ak_ c8
       have N1 := ak_ (fun (W : World) => hr_number2 k1 w W gr A c 8 (ni := 8) rfl l i ST.out (by decide) (by omega) Gr.out h1)
       have N2 := ak_ (fun (A : Option Addr) (c : Nat) (S : HrSt w A c (l.drop 8)) (W : World) => hr_number2 k1 w W gr A c 8 (ni := 8) rfl (l.drop 8) j S (by decide) (by rw [List.length_drop]; omega) Gr.out h2)
       have N3 := ak_ (fun (A : Option Addr) (c : Nat) (S : HrSt w A c (l.drop 16)) (W : World) => hr_value2 k1 w W gr A c (l.drop 16) a b c_ d S (by rw [List.length_drop]; omega) Gr.out h3)
       have H0 := ak_ H
       clear H h1 h2 h3 c6 c7 c8
       go_wp2_with (first | (go_at_call 52; with_reducible refine (N1.out _ ?s1 ?s2).mono ?_; (case s1 => exact (bl_ HB)); (case s2 => exact Br.out); rintro e wn1 ⟨rfl, A2, S2, hgn, hb⟩; have m2 := ak_ (hb.ne (B2.out) N2r.out); have m5 := ak_ (hb.ne (B5.out) Nr5.out.symm); have m_ := ak_ (hr_bel (bl_ HB) hb Gr.out); have mV := ak_ (hr_R HV.out ⟨_, Br.out⟩ hb); clear HV; have HV := mV; clear mV; clear HB; have HB := m_; clear m_; clear Br; have Br := ak_ hgn; clear B2; have B2 := m2; clear m2; clear B5; have B5 := m5; clear m5; clear hgn hb) | (go_at_call 52; with_reducible refine (N2.out A2 _ S2 _ ?s1 ?s2).mono ?_; (case s1 => exact (bl_ HB)); (case s2 => exact Br.out); rintro e wn2 ⟨rfl, A3, S3, hgn, hb⟩; have m2 := ak_ (hb.ne (B2.out) N2r.out); have m5 := ak_ (hb.ne (B5.out) Nr5.out.symm); have m_ := ak_ (hr_bel (bl_ HB) hb Gr.out); have mV := ak_ (hr_R HV.out ⟨_, Br.out⟩ hb); clear HV; have HV := mV; clear mV; rw [List.drop_drop] at S3 hgn; clear HB; have HB := m_; clear m_; clear Br; have Br := ak_ hgn; clear B2; have B2 := m2; clear m2; clear B5; have B5 := m5; clear m5; clear hgn hb) | ((with_reducible refine gate_dst (N := 6) rfl ?_); refine bx_ 6 #[.int .u64 0, .int .u64 0, .bool false, .bool false, .int .u64 0, .int .u64 0, .int .u64 0, .int .u64 0, .int .u64 0, .int .u64 0, .int .i64 0] 41 ?_; intro g6 hgq w6 hbox hb; have G6 := ak_ (show w.heap.size ≤ g6 by rw [hgq]; exact bz_ (bl_ HB)); have N26 := ak_ (show g2 ≠ g6 by rw [hgq]; exact Nat.ne_of_lt (blk_lt (B2.out))); have m2 := ak_ (kb_ (B2.out) hb); have Nr6 := ak_ (show gr ≠ g6 by rw [hgq]; exact Nat.ne_of_lt (blk_lt (Br.out))); have mr := ak_ (kb_ (Br.out) hb); have N56 := ak_ (show g5 ≠ g6 by rw [hgq]; exact Nat.ne_of_lt (blk_lt (B5.out))); have m5 := ak_ (kb_ (B5.out) hb); have m_ := ak_ (bt_ (bl_ HB) hb); have mV := ak_ (hr_Rnew HV.out hb); rw [← hgq] at mV; clear HV; have HV := mV; clear mV; clear HB; have HB := m_; clear m_; clear B2; have B2 := m2; clear m2; clear Br; have Br := mr; clear mr; clear B5; have B5 := m5; clear m5; have B6 := ak_ hbox; clear hbox hb hgq; have hz6_0 : w6.cell? ⟨g6, 0, none⟩ = some (.int .u64 0) := (kc_ B6.out 0).trans rfl; have hf6_0 := kf_ B6.out 0; have hz6_1 : w6.cell? ⟨g6, 1, none⟩ = some (.int .u64 0) := (kc_ B6.out 1).trans rfl; have hf6_1 := kf_ B6.out 1; have hz6_2 : w6.cell? ⟨g6, 2, none⟩ = some (.bool false) := (kc_ B6.out 2).trans rfl; have hf6_2 := kf_ B6.out 2; have hz6_3 : w6.cell? ⟨g6, 3, none⟩ = some (.bool false) := (kc_ B6.out 3).trans rfl; have hf6_3 := kf_ B6.out 3; have hz6_4 : w6.cell? ⟨g6, 4, none⟩ = some (.int .u64 0) := (kc_ B6.out 4).trans rfl; have hf6_4 := kf_ B6.out 4; have hz6_5 : w6.cell? ⟨g6, 5, none⟩ = some (.int .u64 0) := (kc_ B6.out 5).trans rfl; have hf6_5 := kf_ B6.out 5; have hz6_6 : w6.cell? ⟨g6, 6, none⟩ = some (.int .u64 0) := (kc_ B6.out 6).trans rfl; have hf6_6 := kf_ B6.out 6; have hz6_7 : w6.cell? ⟨g6, 7, none⟩ = some (.int .u64 0) := (kc_ B6.out 7).trans rfl; have hf6_7 := kf_ B6.out 7; have hz6_8 : w6.cell? ⟨g6, 8, none⟩ = some (.int .u64 0) := (kc_ B6.out 8).trans rfl; have hf6_8 := kf_ B6.out 8; have hz6_9 : w6.cell? ⟨g6, 9, none⟩ = some (.int .u64 0) := (kc_ B6.out 9).trans rfl; have hf6_9 := kf_ B6.out 9; have hz6_10 : w6.cell? ⟨g6, 10, none⟩ = some (.int .i64 0) := (kc_ B6.out 10).trans rfl; have hf6_10 := kf_ B6.out 10) | (go_at_call 54; with_reducible refine (N3.out A3 _ S3 _ ?s1 ?s2).mono ?_; (case s1 => exact (bw1_ HB G6)); (case s2 => exact blk_far (blk_far (blk_far (blk_far (blk_far (blk_far (blk_far (blk_far (blk_far (blk_far (blk_far (Br.out) Nr6.out _) Nr6.out _) Nr6.out _) Nr6.out _) Nr6.out _) Nr6.out _) Nr6.out _) Nr6.out _) Nr6.out _) Nr6.out _) Nr6.out _); rintro e wn3 ⟨rfl, A4, S4, hgn, hb⟩; have m2 := ak_ (hb.ne (blk_far (blk_far (blk_far (blk_far (blk_far (blk_far (blk_far (blk_far (blk_far (blk_far (blk_far (B2.out) N26.out _) N26.out _) N26.out _) N26.out _) N26.out _) N26.out _) N26.out _) N26.out _) N26.out _) N26.out _) N26.out _) N2r.out); have m5 := ak_ (hb.ne (blk_far (blk_far (blk_far (blk_far (blk_far (blk_far (blk_far (blk_far (blk_far (blk_far (blk_far (B5.out) N56.out _) N56.out _) N56.out _) N56.out _) N56.out _) N56.out _) N56.out _) N56.out _) N56.out _) N56.out _) N56.out _) Nr5.out.symm); have m6 : Aside0 (wn3.heap[g6]? = some (.cells #[.int .u64 i, .int .u64 j, .bool false, .bool false, .int .u64 0, .int .u64 0, .int .u64 0, .int .u64 0, .int .u64 0, .int .u64 0, .int .i64 0] 41 (0, 0))) := ⟨hb.ne (sC_blk B6.out rfl rfl) Nr6.out.symm⟩; have m_ := ak_ (hr_bel (bw1_ HB G6) hb Gr.out); have mV : Aside0 (Kd.R k41 41 wn3 w.heap.size (fun k_ => k_ ≠ g6) v L) := ⟨by refine hr_R ?_ ?_ hb; exact (hr_far0_11 HV.out _ _ _ _ _ _ _ _ _ _ _); exact ⟨_, blk_far (blk_far (blk_far (blk_far (blk_far (blk_far (blk_far (blk_far (blk_far (blk_far (blk_far (Br.out) Nr6.out _) Nr6.out _) Nr6.out _) Nr6.out _) Nr6.out _) Nr6.out _) Nr6.out _) Nr6.out _) Nr6.out _) Nr6.out _) Nr6.out _⟩⟩; clear HV; have HV := mV; clear mV; rw [List.drop_drop] at S4 hgn; clear HB; have HB := m_; clear m_; clear Br; have Br := ak_ hgn; clear B2; have B2 := m2; clear m2; clear B5; have B5 := m5; clear m5; clear B6; have B6 := m6; clear m6; clear hgn hb; have hz6q_0 : wn3.cell? ⟨g6, 0, none⟩ = some (.int .u64 i) := (kc_ B6.out 0).trans rfl; have hf6q_0 := kf_ B6.out 0; have hz6q_1 : wn3.cell? ⟨g6, 1, none⟩ = some (.int .u64 j) := (kc_ B6.out 1).trans rfl; have hf6q_1 := kf_ B6.out 1; have hz6q_2 : wn3.cell? ⟨g6, 2, none⟩ = some (.bool false) := (kc_ B6.out 2).trans rfl; have hf6q_2 := kf_ B6.out 2; have hz6q_3 : wn3.cell? ⟨g6, 3, none⟩ = some (.bool false) := (kc_ B6.out 3).trans rfl; have hf6q_3 := kf_ B6.out 3; have hz6q_4 : wn3.cell? ⟨g6, 4, none⟩ = some (.int .u64 0) := (kc_ B6.out 4).trans rfl; have hf6q_4 := kf_ B6.out 4; have hz6q_5 : wn3.cell? ⟨g6, 5, none⟩ = some (.int .u64 0) := (kc_ B6.out 5).trans rfl; have hf6q_5 := kf_ B6.out 5; have hz6q_6 : wn3.cell? ⟨g6, 6, none⟩ = some (.int .u64 0) := (kc_ B6.out 6).trans rfl; have hf6q_6 := kf_ B6.out 6; have hz6q_7 : wn3.cell? ⟨g6, 7, none⟩ = some (.int .u64 0) := (kc_ B6.out 7).trans rfl; have hf6q_7 := kf_ B6.out 7; have hz6q_8 : wn3.cell? ⟨g6, 8, none⟩ = some (.int .u64 0) := (kc_ B6.out 8).trans rfl; have hf6q_8 := kf_ B6.out 8; have hz6q_9 : wn3.cell? ⟨g6, 9, none⟩ = some (.int .u64 0) := (kc_ B6.out 9).trans rfl; have hf6q_9 := kf_ B6.out 9; have hz6q_10 : wn3.cell? ⟨g6, 10, none⟩ = some (.int .i64 0) := (kc_ B6.out 10).trans rfl; have hf6q_10 := kf_ B6.out 10; have h53 : wn3.cell? ⟨g5, 3, none⟩ = some v := (kc_ B5.out 3).trans rfl; have f53 := kf_ B5.out 3; have hn56 := N56.out; have hn65 := Ne.symm N56.out; have E5 := ak_ (Kd.R_ne HV.out B5.out (by decide)); have E2 := ak_ (Kd.R_ne HV.out B2.out (by decide)); have Er := ak_ (Kd.R_ne HV.out Br.out (by decide))) | (at_builtin; refine hr_append k41 (w0 := w) w.heap.size wn3.heap.size (by simp only [hr_size]) rfl (.tmp 59) (.tmp 61) 22 41 (.agg #[.int .u64 0, .int .u64 0, .bool false, .bool false, .int .u64 0, .int .u64 0, .int .u64 0, .int .u64 0, .int .u64 0, .int .u64 0, .int .i64 0]) 80 rfl underlying22 hr_info rfl (by decide) (by omega) v L (⟨⟨i, j⟩, ⟨false, true, ⟨0, 0⟩, ⟨⟨a, b⟩, ⟨c_, d⟩⟩, 0⟩⟩ : S41) [.int .u64 i, .int .u64 j, .bool false, .bool true, .int .u64 0, .int .u64 0, .int .u64 a, .int .u64 b, .int .u64 c_, .int .u64 d, .int .i64 0] (fun k_ => k_ ≠ g6) (fun _ => False) rfl rfl ?aP (fun _ hk => hk.elim) ?aF ?aO ?aB ?aS ?aL ?_; (case aP => exact k41_mkM _ _ _ (⟨⟨i, j⟩, ⟨false, true, ⟨0, 0⟩, ⟨⟨a, b⟩, ⟨c_, d⟩⟩, 0⟩⟩ : S41)); (case aB => exact (bw1_ HB G6)); (case aF => intro k_ hk; simp only [hr_size] at hk; exact Nat.ne_of_gt (Nat.lt_of_lt_of_le (blk_lt B6.out) hk)); (case aO => exact (hr_far2_9 HV.out _ _ _ _ _ _ _ _ _)); (case aS => exact bz_ (bw1_ HB G6)); (case aL => have := HL8.out; omega); intro v1 w8 ho hb hg hat; have m2 := ak_ (hr_grown hg E2.out (blk_far (blk_far (blk_far (blk_far (blk_far (blk_far (blk_far (blk_far (blk_far (B2.out) N26.out _) N26.out _) N26.out _) N26.out _) N26.out _) N26.out _) N26.out _) N26.out _) N26.out _)); have m5 := ak_ (hr_grown hg E5.out (blk_far (blk_far (blk_far (blk_far (blk_far (blk_far (blk_far (blk_far (blk_far (B5.out) N56.out _) N56.out _) N56.out _) N56.out _) N56.out _) N56.out _) N56.out _) N56.out _) N56.out _)); have mr := ak_ (hr_grown hg Er.out (blk_far (blk_far (blk_far (blk_far (blk_far (blk_far (blk_far (blk_far (blk_far (Br.out) Nr6.out _) Nr6.out _) Nr6.out _) Nr6.out _) Nr6.out _) Nr6.out _) Nr6.out _) Nr6.out _) Nr6.out _)); have mV := ak_ ho; have m_ := ak_ hb; clear HB HV B2 B5 Br h53 f53; have HB := m_; have HV := mV; have B2 := m2; have B5 := m5; have Br := mr; clear m_ mV m2 m5 mr hb hg ho hat; have h53 : w8.cell? ⟨g5, 3, none⟩ = some v := (kc_ B5.out 3).trans rfl; have f53 := kf_ B5.out 3; obtain ⟨Av, cv, ev⟩ := Kd.R_slice HV.out; have ev2 : v1 = .slice Av (L.length + 1) cv := (by rw [ev, List.length_append]; rfl); clear ev; subst ev2))
       go_roundg k1
       case measure => have := HK1.out; omega
       case rel => exact ⟨A4, _, l.drop 48, L ++ [(⟨⟨i, j⟩, ⟨false, true, ⟨0, 0⟩, ⟨⟨a, b⟩, ⟨c_, d⟩⟩, 0⟩⟩ : S41)], .slice Av (L.length + 1) cv, ⟨S4⟩, H0, ⟨by have := HK1.out; omega⟩, ⟨blk_far Br.out Nr5.out _⟩, ⟨(bp_ B5.out 3 _)⟩, ⟨blk_far B2.out N25.out _⟩, ⟨Kd.R_mono (hr_Rset HV.out B5.out 3 _) (fun _ _ => trivial)⟩, ⟨(bw1_ HB G5)⟩⟩
      ·rw [if_neg c8] at H
       exact absurd H (by simp)
     ·rw [if_neg c7] at H
      exact absurd H (by simp)
    ·rw [if_neg c6] at H
     by_cases c7 : 32 ≤ l.length
     ·rw [if_pos c7] at H
      simp only [some.injEq, Prod.mk.injEq] at H
      obtain ⟨rfl, rfl⟩ := H
      obtain ⟨Av, cv, ev⟩ := Kd.R_slice HV.out
      subst ev
      have c6b : decide (32 < (l.length : Int)) = false := decide_eq_false (by omega)
      have VL := ak_ (fun (W : World) => hr_value2 k w W gr A c l y1 y2 y3 y4 ST.out c7 Gr.out H5.out)
      have BY := ak_ (fun (W : World) (hC : Kd.C k41 W Av L.length L) (hl : L.length ≤ cv) => head_Bytes.calls k (wrap64 s) (wrap64 hh) (wrap64 ep) Av cv L false true 0 0 y1 y2 y3 y4 0 t e1 W hC hl H6.out)
      have h := H'.out
      clear H'
      clear c6 c7
      by_cases c9 : e1 = 0
      ·rw [if_pos c9] at h
       subst c9
       obtain ⟨z, hz, h⟩ := bind_eq_some_iff.mp h
       have HZ := ak_ hz
       clear hz
       cases z with
       | false =>
        rw [if_neg (by decide)] at h
        simp only [some.injEq, Prod.mk.injEq] at h
        obtain ⟨rfl, rfl, rfl, rfl, rfl, rfl, rfl, rfl, rfl, rfl, rfl, rfl, rfl, rfl⟩ := h
        go_wp2_with (first | (go_at_call 54; with_reducible refine (VL.out _ ?s1 ?s2).mono ?_; (case s1 => exact (bl_ HB)); (case s2 => exact Br.out); rintro e wv ⟨rfl, A9, S9, hgn, hb⟩; have m2 := ak_ (hb.ne (B2.out) N2r.out); have m5 := ak_ (hb.ne (B5.out) Nr5.out.symm); have m_ := ak_ (hr_bel (bl_ HB) hb Gr.out); have mV := ak_ (hr_R HV.out ⟨_, Br.out⟩ hb); clear HV; have HV := mV; clear mV; clear HB; have HB := m_; clear m_; clear Br; have Br := ak_ hgn; clear B2; have B2 := m2; clear m2; clear B5; have B5 := m5; clear m5; clear hgn hb; have hz5x_0 : wv.cell? ⟨g5, 0, none⟩ = some (.int .i64 (wrap64 s)) := (kc_ B5.out 0).trans rfl; have hf5x_0 := kf_ B5.out 0; have hz5x_1 : wv.cell? ⟨g5, 1, none⟩ = some (.int .i64 (wrap64 hh)) := (kc_ B5.out 1).trans rfl; have hf5x_1 := kf_ B5.out 1; have hz5x_2 : wv.cell? ⟨g5, 2, none⟩ = some (.int .i64 (wrap64 ep)) := (kc_ B5.out 2).trans rfl; have hf5x_2 := kf_ B5.out 2; have hz5x_3 : wv.cell? ⟨g5, 3, none⟩ = some (.slice Av L.length cv) := (kc_ B5.out 3).trans rfl; have hf5x_3 := kf_ B5.out 3; have hz5x_4 : wv.cell? ⟨g5, 4, none⟩ = some (.bool false) := (kc_ B5.out 4).trans rfl; have hf5x_4 := kf_ B5.out 4; have hz5x_5 : wv.cell? ⟨g5, 5, none⟩ = some (.bool false) := (kc_ B5.out 5).trans rfl; have hf5x_5 := kf_ B5.out 5; have hz5x_6 : wv.cell? ⟨g5, 6, none⟩ = some (.int .u64 0) := (kc_ B5.out 6).trans rfl; have hf5x_6 := kf_ B5.out 6; have hz5x_7 : wv.cell? ⟨g5, 7, none⟩ = some (.int .u64 0) := (kc_ B5.out 7).trans rfl; have hf5x_7 := kf_ B5.out 7; have hz5x_8 : wv.cell? ⟨g5, 8, none⟩ = some (.int .u64 0) := (kc_ B5.out 8).trans rfl; have hf5x_8 := kf_ B5.out 8; have hz5x_9 : wv.cell? ⟨g5, 9, none⟩ = some (.int .u64 0) := (kc_ B5.out 9).trans rfl; have hf5x_9 := kf_ B5.out 9; have hz5x_10 : wv.cell? ⟨g5, 10, none⟩ = some (.int .u64 0) := (kc_ B5.out 10).trans rfl; have hf5x_10 := kf_ B5.out 10; have hz5x_11 : wv.cell? ⟨g5, 11, none⟩ = some (.int .u64 0) := (kc_ B5.out 11).trans rfl; have hf5x_11 := kf_ B5.out 11; have hz5x_12 : wv.cell? ⟨g5, 12, none⟩ = some (.int .i64 0) := (kc_ B5.out 12).trans rfl; have hf5x_12 := kf_ B5.out 12; have R5 := ak_ (Kd.R_mono (ok' := fun k_ => k_ ≠ g5) (Kd.R_types HV.out B5.out (by decide)) (fun k_ hk => hk.2))) | (go_at_call 17; with_reducible refine (BY.out _ ?s1 ?s2).mono ?_; (case s1 => exact (Kd.R_reads' (hr_far4_9 R5.out _ _ _ _ _ _ _ _ _)).2.2); (case s2 => exact (Kd.R_reads' HV.out).2.1); rintro e wb ⟨vb, rfl, hob, hb⟩; have m2 := ak_ (hr_keep hb (blk_far (blk_far (blk_far (blk_far (blk_far (blk_far (blk_far (blk_far (blk_far (B2.out) N25.out _) N25.out _) N25.out _) N25.out _) N25.out _) N25.out _) N25.out _) N25.out _) N25.out _)); have m5 : Aside0 (wb.heap[g5]? = some (.cells #[.int .i64 (wrap64 s), .int .i64 (wrap64 hh), .int .i64 (wrap64 ep), .slice Av L.length cv, .bool false, .bool true, .int .u64 0, .int .u64 0, .int .u64 y1, .int .u64 y2, .int .u64 y3, .int .u64 y4, .int .i64 0] 31 (0, 0))) := ⟨hr_keep hb (bp_ (bp_ (bp_ (bp_ (bp_ (bp_ (bp_ (bp_ (bp_ B5.out 4 _) 5 _) 6 _) 7 _) 8 _) 9 _) 10 _) 11 _) 12 _)⟩; have mV : Aside0 (Kd.R k41 41 wb w.heap.size (fun _ => True) (.slice Av L.length cv) L) := ⟨Kd.R_mono (ok := fun k_ => k_ ≠ g5) (hr_below hb (hr_far4_9 R5.out _ _ _ _ _ _ _ _ _)) (fun _ _ => trivial)⟩; have m_ := ak_ (bt_ (bw1_ HB G5) hb); obtain ⟨Ab, cb, eb⟩ := Kd.R_slice hob; subst eb; have CT := ak_ (Kd.R_reads' hob).2.2; have CTl := ak_ (Kd.R_reads' hob).2.1; clear HB B2 B5 HV hob hb; have HB := m_; have B2 := m2; have B5 := m5; have HV := mV; clear m_ m2 m5 mV; have R2 := ak_ (Kd.R_mono (ok' := fun k_ => k_ ≠ g2) (Kd.R_types HV.out B2.out (by decide)) (fun k_ hk => hk.2)); have hn25 := N25.out; have hn52 := Ne.symm N25.out; have hz5y_0 : wb.cell? ⟨g5, 0, none⟩ = some (.int .i64 (wrap64 s)) := (kc_ B5.out 0).trans rfl; have hf5y_0 := kf_ B5.out 0; have hz5y_1 : wb.cell? ⟨g5, 1, none⟩ = some (.int .i64 (wrap64 hh)) := (kc_ B5.out 1).trans rfl; have hf5y_1 := kf_ B5.out 1; have hz5y_2 : wb.cell? ⟨g5, 2, none⟩ = some (.int .i64 (wrap64 ep)) := (kc_ B5.out 2).trans rfl; have hf5y_2 := kf_ B5.out 2; have hz5y_3 : wb.cell? ⟨g5, 3, none⟩ = some (.slice Av L.length cv) := (kc_ B5.out 3).trans rfl; have hf5y_3 := kf_ B5.out 3; have hz5y_4 : wb.cell? ⟨g5, 4, none⟩ = some (.bool false) := (kc_ B5.out 4).trans rfl; have hf5y_4 := kf_ B5.out 4; have hz5y_5 : wb.cell? ⟨g5, 5, none⟩ = some (.bool true) := (kc_ B5.out 5).trans rfl; have hf5y_5 := kf_ B5.out 5; have hz5y_6 : wb.cell? ⟨g5, 6, none⟩ = some (.int .u64 0) := (kc_ B5.out 6).trans rfl; have hf5y_6 := kf_ B5.out 6; have hz5y_7 : wb.cell? ⟨g5, 7, none⟩ = some (.int .u64 0) := (kc_ B5.out 7).trans rfl; have hf5y_7 := kf_ B5.out 7; have hz5y_8 : wb.cell? ⟨g5, 8, none⟩ = some (.int .u64 y1) := (kc_ B5.out 8).trans rfl; have hf5y_8 := kf_ B5.out 8; have hz5y_9 : wb.cell? ⟨g5, 9, none⟩ = some (.int .u64 y2) := (kc_ B5.out 9).trans rfl; have hf5y_9 := kf_ B5.out 9; have hz5y_10 : wb.cell? ⟨g5, 10, none⟩ = some (.int .u64 y3) := (kc_ B5.out 10).trans rfl; have hf5y_10 := kf_ B5.out 10; have hz5y_11 : wb.cell? ⟨g5, 11, none⟩ = some (.int .u64 y4) := (kc_ B5.out 11).trans rfl; have hf5y_11 := kf_ B5.out 11; have hz5y_12 : wb.cell? ⟨g5, 12, none⟩ = some (.int .i64 0) := (kc_ B5.out 12).trans rfl; have hf5y_12 := kf_ B5.out 12; have hz2y_0 : wb.cell? ⟨g2, 0, none⟩ = some (.int .i64 0) := (kc_ B2.out 0).trans rfl; have hf2y_0 := kf_ B2.out 0; have hz2y_1 : wb.cell? ⟨g2, 1, none⟩ = some (.int .i64 0) := (kc_ B2.out 1).trans rfl; have hf2y_1 := kf_ B2.out 1; have hz2y_2 : wb.cell? ⟨g2, 2, none⟩ = some (.int .i64 0) := (kc_ B2.out 2).trans rfl; have hf2y_2 := kf_ B2.out 2; have hz2y_3 : wb.cell? ⟨g2, 3, none⟩ = some (.slice none 0 0) := (kc_ B2.out 3).trans rfl; have hf2y_3 := kf_ B2.out 3; have hz2y_4 : wb.cell? ⟨g2, 4, none⟩ = some (.bool false) := (kc_ B2.out 4).trans rfl; have hf2y_4 := kf_ B2.out 4; have hz2y_5 : wb.cell? ⟨g2, 5, none⟩ = some (.bool false) := (kc_ B2.out 5).trans rfl; have hf2y_5 := kf_ B2.out 5; have hz2y_6 : wb.cell? ⟨g2, 6, none⟩ = some (.int .u64 0) := (kc_ B2.out 6).trans rfl; have hf2y_6 := kf_ B2.out 6; have hz2y_7 : wb.cell? ⟨g2, 7, none⟩ = some (.int .u64 0) := (kc_ B2.out 7).trans rfl; have hf2y_7 := kf_ B2.out 7; have hz2y_8 : wb.cell? ⟨g2, 8, none⟩ = some (.int .u64 0) := (kc_ B2.out 8).trans rfl; have hf2y_8 := kf_ B2.out 8; have hz2y_9 : wb.cell? ⟨g2, 9, none⟩ = some (.int .u64 0) := (kc_ B2.out 9).trans rfl; have hf2y_9 := kf_ B2.out 9; have hz2y_10 : wb.cell? ⟨g2, 10, none⟩ = some (.int .u64 0) := (kc_ B2.out 10).trans rfl; have hf2y_10 := kf_ B2.out 10; have hz2y_11 : wb.cell? ⟨g2, 11, none⟩ = some (.int .u64 0) := (kc_ B2.out 11).trans rfl; have hf2y_11 := kf_ B2.out 11; have hz2y_12 : wb.cell? ⟨g2, 12, none⟩ = some (.int .i64 0) := (kc_ B2.out 12).trans rfl; have hf2y_12 := kf_ B2.out 12) | (go_at_call 55; with_reducible refine (bytes_Equal.calls Ab cb t A0 c0 l0 _ _ ?s1 CTl.out ?s2 HL.out HZ.out).mono ?_; (case s1 => repeat (first | exact CT.out | (with_reducible refine Kd.C_drewN ?_ _) | (with_reducible refine Kd.C_drew ?_))); (case s2 => exact Kd.C_below HC.out (bl_ HB)); rintro e we ⟨rfl, ⟨nd, rfl⟩⟩))
        refine bodyPost_ret (results_ct rfl _ _ g2 31 #[.int .i64 0, .int .i64 0, .int .i64 0, .slice none 0 0, .bool false, .bool false, .int .u64 0, .int .u64 0, .int .u64 0, .int .u64 0, .int .u64 0, .int .u64 0, .int .i64 0] (0, 0) _ rfl ((by refine blk_put (cs := #[.int .i64 0, .int .i64 0, .int .i64 0, .slice none 0 0, .bool false, .bool false, .int .u64 0, .int .u64 0, .int .u64 0, .int .u64 0, .int .u64 0, .int .u64 0, .int .i64 0]) ?_ 12 _ rfl; refine blk_put (cs := #[.int .i64 0, .int .i64 0, .int .i64 0, .slice none 0 0, .bool false, .bool false, .int .u64 0, .int .u64 0, .int .u64 0, .int .u64 0, .int .u64 0, .int .u64 0, .int .i64 0]) ?_ 11 _ rfl; refine blk_put (cs := #[.int .i64 0, .int .i64 0, .int .i64 0, .slice none 0 0, .bool false, .bool false, .int .u64 0, .int .u64 0, .int .u64 0, .int .u64 0, .int .u64 0, .int .u64 0, .int .i64 0]) ?_ 10 _ rfl; refine blk_put (cs := #[.int .i64 0, .int .i64 0, .int .i64 0, .slice none 0 0, .bool false, .bool false, .int .u64 0, .int .u64 0, .int .u64 0, .int .u64 0, .int .u64 0, .int .u64 0, .int .i64 0]) ?_ 9 _ rfl; refine blk_put (cs := #[.int .i64 0, .int .i64 0, .int .i64 0, .slice none 0 0, .bool false, .bool false, .int .u64 0, .int .u64 0, .int .u64 0, .int .u64 0, .int .u64 0, .int .u64 0, .int .i64 0]) ?_ 8 _ rfl; refine blk_put (cs := #[.int .i64 0, .int .i64 0, .int .i64 0, .slice none 0 0, .bool false, .bool false, .int .u64 0, .int .u64 0, .int .u64 0, .int .u64 0, .int .u64 0, .int .u64 0, .int .i64 0]) ?_ 7 _ rfl; refine blk_put (cs := #[.int .i64 0, .int .i64 0, .int .i64 0, .slice none 0 0, .bool false, .bool false, .int .u64 0, .int .u64 0, .int .u64 0, .int .u64 0, .int .u64 0, .int .u64 0, .int .i64 0]) ?_ 6 _ rfl; refine blk_put (cs := #[.int .i64 0, .int .i64 0, .int .i64 0, .slice none 0 0, .bool false, .bool false, .int .u64 0, .int .u64 0, .int .u64 0, .int .u64 0, .int .u64 0, .int .u64 0, .int .i64 0]) ?_ 5 _ rfl; refine blk_put (cs := #[.int .i64 0, .int .i64 0, .int .i64 0, .slice none 0 0, .bool false, .bool false, .int .u64 0, .int .u64 0, .int .u64 0, .int .u64 0, .int .u64 0, .int .u64 0, .int .i64 0]) ?_ 4 _ rfl; refine blk_put (cs := #[.int .i64 0, .int .i64 0, .int .i64 0, .slice none 0 0, .bool false, .bool false, .int .u64 0, .int .u64 0, .int .u64 0, .int .u64 0, .int .u64 0, .int .u64 0, .int .i64 0]) ?_ 3 _ rfl; refine blk_put (cs := #[.int .i64 0, .int .i64 0, .int .i64 0, .slice none 0 0, .bool false, .bool false, .int .u64 0, .int .u64 0, .int .u64 0, .int .u64 0, .int .u64 0, .int .u64 0, .int .i64 0]) ?_ 2 _ rfl; refine blk_put (cs := #[.int .i64 0, .int .i64 0, .int .i64 0, .slice none 0 0, .bool false, .bool false, .int .u64 0, .int .u64 0, .int .u64 0, .int .u64 0, .int .u64 0, .int .u64 0, .int .i64 0]) ?_ 1 _ rfl; refine blk_put (cs := #[.int .i64 0, .int .i64 0, .int .i64 0, .slice none 0 0, .bool false, .bool false, .int .u64 0, .int .u64 0, .int .u64 0, .int .u64 0, .int .u64 0, .int .u64 0, .int .i64 0]) ?_ 0 _ rfl; exact (by (with_reducible repeat (first | refine kn_ ?_ _ | refine kd_ ?_)); exact B2.out))) underlying31 rfl (by kernel_rfl)) rfl ?_
        exact ⟨.slice none 0 0, rfl, Kd.R_nil _ _ _ _ _, (bw1_ HB G2)⟩
       | true =>
        rw [if_pos rfl] at h
        simp only [some.injEq, Prod.mk.injEq] at h
        obtain ⟨rfl, rfl, rfl, rfl, rfl, rfl, rfl, rfl, rfl, rfl, rfl, rfl, rfl, rfl⟩ := h
        go_wp2_with (first | (go_at_call 54; with_reducible refine (VL.out _ ?s1 ?s2).mono ?_; (case s1 => exact (bl_ HB)); (case s2 => exact Br.out); rintro e wv ⟨rfl, A9, S9, hgn, hb⟩; have m2 := ak_ (hb.ne (B2.out) N2r.out); have m5 := ak_ (hb.ne (B5.out) Nr5.out.symm); have m_ := ak_ (hr_bel (bl_ HB) hb Gr.out); have mV := ak_ (hr_R HV.out ⟨_, Br.out⟩ hb); clear HV; have HV := mV; clear mV; clear HB; have HB := m_; clear m_; clear Br; have Br := ak_ hgn; clear B2; have B2 := m2; clear m2; clear B5; have B5 := m5; clear m5; clear hgn hb; have hz5x_0 : wv.cell? ⟨g5, 0, none⟩ = some (.int .i64 (wrap64 s)) := (kc_ B5.out 0).trans rfl; have hf5x_0 := kf_ B5.out 0; have hz5x_1 : wv.cell? ⟨g5, 1, none⟩ = some (.int .i64 (wrap64 hh)) := (kc_ B5.out 1).trans rfl; have hf5x_1 := kf_ B5.out 1; have hz5x_2 : wv.cell? ⟨g5, 2, none⟩ = some (.int .i64 (wrap64 ep)) := (kc_ B5.out 2).trans rfl; have hf5x_2 := kf_ B5.out 2; have hz5x_3 : wv.cell? ⟨g5, 3, none⟩ = some (.slice Av L.length cv) := (kc_ B5.out 3).trans rfl; have hf5x_3 := kf_ B5.out 3; have hz5x_4 : wv.cell? ⟨g5, 4, none⟩ = some (.bool false) := (kc_ B5.out 4).trans rfl; have hf5x_4 := kf_ B5.out 4; have hz5x_5 : wv.cell? ⟨g5, 5, none⟩ = some (.bool false) := (kc_ B5.out 5).trans rfl; have hf5x_5 := kf_ B5.out 5; have hz5x_6 : wv.cell? ⟨g5, 6, none⟩ = some (.int .u64 0) := (kc_ B5.out 6).trans rfl; have hf5x_6 := kf_ B5.out 6; have hz5x_7 : wv.cell? ⟨g5, 7, none⟩ = some (.int .u64 0) := (kc_ B5.out 7).trans rfl; have hf5x_7 := kf_ B5.out 7; have hz5x_8 : wv.cell? ⟨g5, 8, none⟩ = some (.int .u64 0) := (kc_ B5.out 8).trans rfl; have hf5x_8 := kf_ B5.out 8; have hz5x_9 : wv.cell? ⟨g5, 9, none⟩ = some (.int .u64 0) := (kc_ B5.out 9).trans rfl; have hf5x_9 := kf_ B5.out 9; have hz5x_10 : wv.cell? ⟨g5, 10, none⟩ = some (.int .u64 0) := (kc_ B5.out 10).trans rfl; have hf5x_10 := kf_ B5.out 10; have hz5x_11 : wv.cell? ⟨g5, 11, none⟩ = some (.int .u64 0) := (kc_ B5.out 11).trans rfl; have hf5x_11 := kf_ B5.out 11; have hz5x_12 : wv.cell? ⟨g5, 12, none⟩ = some (.int .i64 0) := (kc_ B5.out 12).trans rfl; have hf5x_12 := kf_ B5.out 12; have R5 := ak_ (Kd.R_mono (ok' := fun k_ => k_ ≠ g5) (Kd.R_types HV.out B5.out (by decide)) (fun k_ hk => hk.2))) | (go_at_call 17; with_reducible refine (BY.out _ ?s1 ?s2).mono ?_; (case s1 => exact (Kd.R_reads' (hr_far4_9 R5.out _ _ _ _ _ _ _ _ _)).2.2); (case s2 => exact (Kd.R_reads' HV.out).2.1); rintro e wb ⟨vb, rfl, hob, hb⟩; have m2 := ak_ (hr_keep hb (blk_far (blk_far (blk_far (blk_far (blk_far (blk_far (blk_far (blk_far (blk_far (B2.out) N25.out _) N25.out _) N25.out _) N25.out _) N25.out _) N25.out _) N25.out _) N25.out _) N25.out _)); have m5 : Aside0 (wb.heap[g5]? = some (.cells #[.int .i64 (wrap64 s), .int .i64 (wrap64 hh), .int .i64 (wrap64 ep), .slice Av L.length cv, .bool false, .bool true, .int .u64 0, .int .u64 0, .int .u64 y1, .int .u64 y2, .int .u64 y3, .int .u64 y4, .int .i64 0] 31 (0, 0))) := ⟨hr_keep hb (bp_ (bp_ (bp_ (bp_ (bp_ (bp_ (bp_ (bp_ (bp_ B5.out 4 _) 5 _) 6 _) 7 _) 8 _) 9 _) 10 _) 11 _) 12 _)⟩; have mV : Aside0 (Kd.R k41 41 wb w.heap.size (fun _ => True) (.slice Av L.length cv) L) := ⟨Kd.R_mono (ok := fun k_ => k_ ≠ g5) (hr_below hb (hr_far4_9 R5.out _ _ _ _ _ _ _ _ _)) (fun _ _ => trivial)⟩; have m_ := ak_ (bt_ (bw1_ HB G5) hb); obtain ⟨Ab, cb, eb⟩ := Kd.R_slice hob; subst eb; have CT := ak_ (Kd.R_reads' hob).2.2; have CTl := ak_ (Kd.R_reads' hob).2.1; clear HB B2 B5 HV hob hb; have HB := m_; have B2 := m2; have B5 := m5; have HV := mV; clear m_ m2 m5 mV; have R2 := ak_ (Kd.R_mono (ok' := fun k_ => k_ ≠ g2) (Kd.R_types HV.out B2.out (by decide)) (fun k_ hk => hk.2)); have hn25 := N25.out; have hn52 := Ne.symm N25.out; have hz5y_0 : wb.cell? ⟨g5, 0, none⟩ = some (.int .i64 (wrap64 s)) := (kc_ B5.out 0).trans rfl; have hf5y_0 := kf_ B5.out 0; have hz5y_1 : wb.cell? ⟨g5, 1, none⟩ = some (.int .i64 (wrap64 hh)) := (kc_ B5.out 1).trans rfl; have hf5y_1 := kf_ B5.out 1; have hz5y_2 : wb.cell? ⟨g5, 2, none⟩ = some (.int .i64 (wrap64 ep)) := (kc_ B5.out 2).trans rfl; have hf5y_2 := kf_ B5.out 2; have hz5y_3 : wb.cell? ⟨g5, 3, none⟩ = some (.slice Av L.length cv) := (kc_ B5.out 3).trans rfl; have hf5y_3 := kf_ B5.out 3; have hz5y_4 : wb.cell? ⟨g5, 4, none⟩ = some (.bool false) := (kc_ B5.out 4).trans rfl; have hf5y_4 := kf_ B5.out 4; have hz5y_5 : wb.cell? ⟨g5, 5, none⟩ = some (.bool true) := (kc_ B5.out 5).trans rfl; have hf5y_5 := kf_ B5.out 5; have hz5y_6 : wb.cell? ⟨g5, 6, none⟩ = some (.int .u64 0) := (kc_ B5.out 6).trans rfl; have hf5y_6 := kf_ B5.out 6; have hz5y_7 : wb.cell? ⟨g5, 7, none⟩ = some (.int .u64 0) := (kc_ B5.out 7).trans rfl; have hf5y_7 := kf_ B5.out 7; have hz5y_8 : wb.cell? ⟨g5, 8, none⟩ = some (.int .u64 y1) := (kc_ B5.out 8).trans rfl; have hf5y_8 := kf_ B5.out 8; have hz5y_9 : wb.cell? ⟨g5, 9, none⟩ = some (.int .u64 y2) := (kc_ B5.out 9).trans rfl; have hf5y_9 := kf_ B5.out 9; have hz5y_10 : wb.cell? ⟨g5, 10, none⟩ = some (.int .u64 y3) := (kc_ B5.out 10).trans rfl; have hf5y_10 := kf_ B5.out 10; have hz5y_11 : wb.cell? ⟨g5, 11, none⟩ = some (.int .u64 y4) := (kc_ B5.out 11).trans rfl; have hf5y_11 := kf_ B5.out 11; have hz5y_12 : wb.cell? ⟨g5, 12, none⟩ = some (.int .i64 0) := (kc_ B5.out 12).trans rfl; have hf5y_12 := kf_ B5.out 12; have hz2y_0 : wb.cell? ⟨g2, 0, none⟩ = some (.int .i64 0) := (kc_ B2.out 0).trans rfl; have hf2y_0 := kf_ B2.out 0; have hz2y_1 : wb.cell? ⟨g2, 1, none⟩ = some (.int .i64 0) := (kc_ B2.out 1).trans rfl; have hf2y_1 := kf_ B2.out 1; have hz2y_2 : wb.cell? ⟨g2, 2, none⟩ = some (.int .i64 0) := (kc_ B2.out 2).trans rfl; have hf2y_2 := kf_ B2.out 2; have hz2y_3 : wb.cell? ⟨g2, 3, none⟩ = some (.slice none 0 0) := (kc_ B2.out 3).trans rfl; have hf2y_3 := kf_ B2.out 3; have hz2y_4 : wb.cell? ⟨g2, 4, none⟩ = some (.bool false) := (kc_ B2.out 4).trans rfl; have hf2y_4 := kf_ B2.out 4; have hz2y_5 : wb.cell? ⟨g2, 5, none⟩ = some (.bool false) := (kc_ B2.out 5).trans rfl; have hf2y_5 := kf_ B2.out 5; have hz2y_6 : wb.cell? ⟨g2, 6, none⟩ = some (.int .u64 0) := (kc_ B2.out 6).trans rfl; have hf2y_6 := kf_ B2.out 6; have hz2y_7 : wb.cell? ⟨g2, 7, none⟩ = some (.int .u64 0) := (kc_ B2.out 7).trans rfl; have hf2y_7 := kf_ B2.out 7; have hz2y_8 : wb.cell? ⟨g2, 8, none⟩ = some (.int .u64 0) := (kc_ B2.out 8).trans rfl; have hf2y_8 := kf_ B2.out 8; have hz2y_9 : wb.cell? ⟨g2, 9, none⟩ = some (.int .u64 0) := (kc_ B2.out 9).trans rfl; have hf2y_9 := kf_ B2.out 9; have hz2y_10 : wb.cell? ⟨g2, 10, none⟩ = some (.int .u64 0) := (kc_ B2.out 10).trans rfl; have hf2y_10 := kf_ B2.out 10; have hz2y_11 : wb.cell? ⟨g2, 11, none⟩ = some (.int .u64 0) := (kc_ B2.out 11).trans rfl; have hf2y_11 := kf_ B2.out 11; have hz2y_12 : wb.cell? ⟨g2, 12, none⟩ = some (.int .i64 0) := (kc_ B2.out 12).trans rfl; have hf2y_12 := kf_ B2.out 12) | (go_at_call 55; with_reducible refine (bytes_Equal.calls Ab cb t A0 c0 l0 _ _ ?s1 CTl.out ?s2 HL.out HZ.out).mono ?_; (case s1 => repeat (first | exact CT.out | (with_reducible refine Kd.C_drewN ?_ _) | (with_reducible refine Kd.C_drew ?_))); (case s2 => exact Kd.C_below HC.out (bl_ HB)); rintro e we ⟨rfl, ⟨nd, rfl⟩⟩))
        refine bodyPost_ret (results_ct rfl _ _ g2 31 #[.int .i64 (wrap64 s), .int .i64 (wrap64 hh), .int .i64 (wrap64 ep), .slice Av L.length cv, .bool false, .bool true, .int .u64 0, .int .u64 0, .int .u64 y1, .int .u64 y2, .int .u64 y3, .int .u64 y4, .int .i64 0] (0, 0) _ rfl ((by refine blk_put (cs := #[.int .i64 (wrap64 s), .int .i64 (wrap64 hh), .int .i64 (wrap64 ep), .slice Av L.length cv, .bool false, .bool true, .int .u64 0, .int .u64 0, .int .u64 y1, .int .u64 y2, .int .u64 y3, .int .u64 y4, .int .i64 0]) ?_ 12 _ rfl; refine blk_put (cs := #[.int .i64 (wrap64 s), .int .i64 (wrap64 hh), .int .i64 (wrap64 ep), .slice Av L.length cv, .bool false, .bool true, .int .u64 0, .int .u64 0, .int .u64 y1, .int .u64 y2, .int .u64 y3, .int .u64 0, .int .i64 0]) ?_ 11 _ rfl; refine blk_put (cs := #[.int .i64 (wrap64 s), .int .i64 (wrap64 hh), .int .i64 (wrap64 ep), .slice Av L.length cv, .bool false, .bool true, .int .u64 0, .int .u64 0, .int .u64 y1, .int .u64 y2, .int .u64 0, .int .u64 0, .int .i64 0]) ?_ 10 _ rfl; refine blk_put (cs := #[.int .i64 (wrap64 s), .int .i64 (wrap64 hh), .int .i64 (wrap64 ep), .slice Av L.length cv, .bool false, .bool true, .int .u64 0, .int .u64 0, .int .u64 y1, .int .u64 0, .int .u64 0, .int .u64 0, .int .i64 0]) ?_ 9 _ rfl; refine blk_put (cs := #[.int .i64 (wrap64 s), .int .i64 (wrap64 hh), .int .i64 (wrap64 ep), .slice Av L.length cv, .bool false, .bool true, .int .u64 0, .int .u64 0, .int .u64 0, .int .u64 0, .int .u64 0, .int .u64 0, .int .i64 0]) ?_ 8 _ rfl; refine blk_put (cs := #[.int .i64 (wrap64 s), .int .i64 (wrap64 hh), .int .i64 (wrap64 ep), .slice Av L.length cv, .bool false, .bool true, .int .u64 0, .int .u64 0, .int .u64 0, .int .u64 0, .int .u64 0, .int .u64 0, .int .i64 0]) ?_ 7 _ rfl; refine blk_put (cs := #[.int .i64 (wrap64 s), .int .i64 (wrap64 hh), .int .i64 (wrap64 ep), .slice Av L.length cv, .bool false, .bool true, .int .u64 0, .int .u64 0, .int .u64 0, .int .u64 0, .int .u64 0, .int .u64 0, .int .i64 0]) ?_ 6 _ rfl; refine blk_put (cs := #[.int .i64 (wrap64 s), .int .i64 (wrap64 hh), .int .i64 (wrap64 ep), .slice Av L.length cv, .bool false, .bool false, .int .u64 0, .int .u64 0, .int .u64 0, .int .u64 0, .int .u64 0, .int .u64 0, .int .i64 0]) ?_ 5 _ rfl; refine blk_put (cs := #[.int .i64 (wrap64 s), .int .i64 (wrap64 hh), .int .i64 (wrap64 ep), .slice Av L.length cv, .bool false, .bool false, .int .u64 0, .int .u64 0, .int .u64 0, .int .u64 0, .int .u64 0, .int .u64 0, .int .i64 0]) ?_ 4 _ rfl; refine blk_put (cs := #[.int .i64 (wrap64 s), .int .i64 (wrap64 hh), .int .i64 (wrap64 ep), .slice none 0 0, .bool false, .bool false, .int .u64 0, .int .u64 0, .int .u64 0, .int .u64 0, .int .u64 0, .int .u64 0, .int .i64 0]) ?_ 3 _ rfl; refine blk_put (cs := #[.int .i64 (wrap64 s), .int .i64 (wrap64 hh), .int .i64 0, .slice none 0 0, .bool false, .bool false, .int .u64 0, .int .u64 0, .int .u64 0, .int .u64 0, .int .u64 0, .int .u64 0, .int .i64 0]) ?_ 2 _ rfl; refine blk_put (cs := #[.int .i64 (wrap64 s), .int .i64 0, .int .i64 0, .slice none 0 0, .bool false, .bool false, .int .u64 0, .int .u64 0, .int .u64 0, .int .u64 0, .int .u64 0, .int .u64 0, .int .i64 0]) ?_ 1 _ rfl; refine blk_put (cs := #[.int .i64 0, .int .i64 0, .int .i64 0, .slice none 0 0, .bool false, .bool false, .int .u64 0, .int .u64 0, .int .u64 0, .int .u64 0, .int .u64 0, .int .u64 0, .int .i64 0]) ?_ 0 _ rfl; exact (by (with_reducible repeat (first | refine kn_ ?_ _ | refine kd_ ?_)); exact B2.out))) underlying31 rfl (by kernel_rfl)) rfl ?_
        exact ⟨.slice Av L.length cv, rfl, Kd.R_mono (hr_far0_13 (rl_ R2) _ _ _ _ _ _ _ _ _ _ _ _ _) (fun _ _ => trivial), (bw1_ HB G2)⟩
      ·rw [if_neg c9] at h
       have c9b : (e1 == 0) = false := beq_eq_false_iff_ne.mpr c9
       have c9c : (e1 != 0) = true := bne_iff_ne.mpr c9
       simp only [some.injEq, Prod.mk.injEq] at h
       obtain ⟨rfl, rfl, rfl, rfl, rfl, rfl, rfl, rfl, rfl, rfl, rfl, rfl, rfl, rfl⟩ := h
       go_wp2_with (first | (go_at_call 54; with_reducible refine (VL.out _ ?s1 ?s2).mono ?_; (case s1 => exact (bl_ HB)); (case s2 => exact Br.out); rintro e wv ⟨rfl, A9, S9, hgn, hb⟩; have m2 := ak_ (hb.ne (B2.out) N2r.out); have m5 := ak_ (hb.ne (B5.out) Nr5.out.symm); have m_ := ak_ (hr_bel (bl_ HB) hb Gr.out); have mV := ak_ (hr_R HV.out ⟨_, Br.out⟩ hb); clear HV; have HV := mV; clear mV; clear HB; have HB := m_; clear m_; clear Br; have Br := ak_ hgn; clear B2; have B2 := m2; clear m2; clear B5; have B5 := m5; clear m5; clear hgn hb; have hz5x_0 : wv.cell? ⟨g5, 0, none⟩ = some (.int .i64 (wrap64 s)) := (kc_ B5.out 0).trans rfl; have hf5x_0 := kf_ B5.out 0; have hz5x_1 : wv.cell? ⟨g5, 1, none⟩ = some (.int .i64 (wrap64 hh)) := (kc_ B5.out 1).trans rfl; have hf5x_1 := kf_ B5.out 1; have hz5x_2 : wv.cell? ⟨g5, 2, none⟩ = some (.int .i64 (wrap64 ep)) := (kc_ B5.out 2).trans rfl; have hf5x_2 := kf_ B5.out 2; have hz5x_3 : wv.cell? ⟨g5, 3, none⟩ = some (.slice Av L.length cv) := (kc_ B5.out 3).trans rfl; have hf5x_3 := kf_ B5.out 3; have hz5x_4 : wv.cell? ⟨g5, 4, none⟩ = some (.bool false) := (kc_ B5.out 4).trans rfl; have hf5x_4 := kf_ B5.out 4; have hz5x_5 : wv.cell? ⟨g5, 5, none⟩ = some (.bool false) := (kc_ B5.out 5).trans rfl; have hf5x_5 := kf_ B5.out 5; have hz5x_6 : wv.cell? ⟨g5, 6, none⟩ = some (.int .u64 0) := (kc_ B5.out 6).trans rfl; have hf5x_6 := kf_ B5.out 6; have hz5x_7 : wv.cell? ⟨g5, 7, none⟩ = some (.int .u64 0) := (kc_ B5.out 7).trans rfl; have hf5x_7 := kf_ B5.out 7; have hz5x_8 : wv.cell? ⟨g5, 8, none⟩ = some (.int .u64 0) := (kc_ B5.out 8).trans rfl; have hf5x_8 := kf_ B5.out 8; have hz5x_9 : wv.cell? ⟨g5, 9, none⟩ = some (.int .u64 0) := (kc_ B5.out 9).trans rfl; have hf5x_9 := kf_ B5.out 9; have hz5x_10 : wv.cell? ⟨g5, 10, none⟩ = some (.int .u64 0) := (kc_ B5.out 10).trans rfl; have hf5x_10 := kf_ B5.out 10; have hz5x_11 : wv.cell? ⟨g5, 11, none⟩ = some (.int .u64 0) := (kc_ B5.out 11).trans rfl; have hf5x_11 := kf_ B5.out 11; have hz5x_12 : wv.cell? ⟨g5, 12, none⟩ = some (.int .i64 0) := (kc_ B5.out 12).trans rfl; have hf5x_12 := kf_ B5.out 12; have R5 := ak_ (Kd.R_mono (ok' := fun k_ => k_ ≠ g5) (Kd.R_types HV.out B5.out (by decide)) (fun k_ hk => hk.2))) | (go_at_call 17; with_reducible refine (BY.out _ ?s1 ?s2).mono ?_; (case s1 => exact (Kd.R_reads' (hr_far4_9 R5.out _ _ _ _ _ _ _ _ _)).2.2); (case s2 => exact (Kd.R_reads' HV.out).2.1); rintro e wb ⟨vb, rfl, hob, hb⟩; have m2 := ak_ (hr_keep hb (blk_far (blk_far (blk_far (blk_far (blk_far (blk_far (blk_far (blk_far (blk_far (B2.out) N25.out _) N25.out _) N25.out _) N25.out _) N25.out _) N25.out _) N25.out _) N25.out _) N25.out _)); have m5 : Aside0 (wb.heap[g5]? = some (.cells #[.int .i64 (wrap64 s), .int .i64 (wrap64 hh), .int .i64 (wrap64 ep), .slice Av L.length cv, .bool false, .bool true, .int .u64 0, .int .u64 0, .int .u64 y1, .int .u64 y2, .int .u64 y3, .int .u64 y4, .int .i64 0] 31 (0, 0))) := ⟨hr_keep hb (bp_ (bp_ (bp_ (bp_ (bp_ (bp_ (bp_ (bp_ (bp_ B5.out 4 _) 5 _) 6 _) 7 _) 8 _) 9 _) 10 _) 11 _) 12 _)⟩; have mV : Aside0 (Kd.R k41 41 wb w.heap.size (fun _ => True) (.slice Av L.length cv) L) := ⟨Kd.R_mono (ok := fun k_ => k_ ≠ g5) (hr_below hb (hr_far4_9 R5.out _ _ _ _ _ _ _ _ _)) (fun _ _ => trivial)⟩; have m_ := ak_ (bt_ (bw1_ HB G5) hb); obtain ⟨Ab, cb, eb⟩ := Kd.R_slice hob; subst eb; have CT := ak_ (Kd.R_reads' hob).2.2; have CTl := ak_ (Kd.R_reads' hob).2.1; clear HB B2 B5 HV hob hb; have HB := m_; have B2 := m2; have B5 := m5; have HV := mV; clear m_ m2 m5 mV; have R2 := ak_ (Kd.R_mono (ok' := fun k_ => k_ ≠ g2) (Kd.R_types HV.out B2.out (by decide)) (fun k_ hk => hk.2)); have hn25 := N25.out; have hn52 := Ne.symm N25.out; have hz5y_0 : wb.cell? ⟨g5, 0, none⟩ = some (.int .i64 (wrap64 s)) := (kc_ B5.out 0).trans rfl; have hf5y_0 := kf_ B5.out 0; have hz5y_1 : wb.cell? ⟨g5, 1, none⟩ = some (.int .i64 (wrap64 hh)) := (kc_ B5.out 1).trans rfl; have hf5y_1 := kf_ B5.out 1; have hz5y_2 : wb.cell? ⟨g5, 2, none⟩ = some (.int .i64 (wrap64 ep)) := (kc_ B5.out 2).trans rfl; have hf5y_2 := kf_ B5.out 2; have hz5y_3 : wb.cell? ⟨g5, 3, none⟩ = some (.slice Av L.length cv) := (kc_ B5.out 3).trans rfl; have hf5y_3 := kf_ B5.out 3; have hz5y_4 : wb.cell? ⟨g5, 4, none⟩ = some (.bool false) := (kc_ B5.out 4).trans rfl; have hf5y_4 := kf_ B5.out 4; have hz5y_5 : wb.cell? ⟨g5, 5, none⟩ = some (.bool true) := (kc_ B5.out 5).trans rfl; have hf5y_5 := kf_ B5.out 5; have hz5y_6 : wb.cell? ⟨g5, 6, none⟩ = some (.int .u64 0) := (kc_ B5.out 6).trans rfl; have hf5y_6 := kf_ B5.out 6; have hz5y_7 : wb.cell? ⟨g5, 7, none⟩ = some (.int .u64 0) := (kc_ B5.out 7).trans rfl; have hf5y_7 := kf_ B5.out 7; have hz5y_8 : wb.cell? ⟨g5, 8, none⟩ = some (.int .u64 y1) := (kc_ B5.out 8).trans rfl; have hf5y_8 := kf_ B5.out 8; have hz5y_9 : wb.cell? ⟨g5, 9, none⟩ = some (.int .u64 y2) := (kc_ B5.out 9).trans rfl; have hf5y_9 := kf_ B5.out 9; have hz5y_10 : wb.cell? ⟨g5, 10, none⟩ = some (.int .u64 y3) := (kc_ B5.out 10).trans rfl; have hf5y_10 := kf_ B5.out 10; have hz5y_11 : wb.cell? ⟨g5, 11, none⟩ = some (.int .u64 y4) := (kc_ B5.out 11).trans rfl; have hf5y_11 := kf_ B5.out 11; have hz5y_12 : wb.cell? ⟨g5, 12, none⟩ = some (.int .i64 0) := (kc_ B5.out 12).trans rfl; have hf5y_12 := kf_ B5.out 12; have hz2y_0 : wb.cell? ⟨g2, 0, none⟩ = some (.int .i64 0) := (kc_ B2.out 0).trans rfl; have hf2y_0 := kf_ B2.out 0; have hz2y_1 : wb.cell? ⟨g2, 1, none⟩ = some (.int .i64 0) := (kc_ B2.out 1).trans rfl; have hf2y_1 := kf_ B2.out 1; have hz2y_2 : wb.cell? ⟨g2, 2, none⟩ = some (.int .i64 0) := (kc_ B2.out 2).trans rfl; have hf2y_2 := kf_ B2.out 2; have hz2y_3 : wb.cell? ⟨g2, 3, none⟩ = some (.slice none 0 0) := (kc_ B2.out 3).trans rfl; have hf2y_3 := kf_ B2.out 3; have hz2y_4 : wb.cell? ⟨g2, 4, none⟩ = some (.bool false) := (kc_ B2.out 4).trans rfl; have hf2y_4 := kf_ B2.out 4; have hz2y_5 : wb.cell? ⟨g2, 5, none⟩ = some (.bool false) := (kc_ B2.out 5).trans rfl; have hf2y_5 := kf_ B2.out 5; have hz2y_6 : wb.cell? ⟨g2, 6, none⟩ = some (.int .u64 0) := (kc_ B2.out 6).trans rfl; have hf2y_6 := kf_ B2.out 6; have hz2y_7 : wb.cell? ⟨g2, 7, none⟩ = some (.int .u64 0) := (kc_ B2.out 7).trans rfl; have hf2y_7 := kf_ B2.out 7; have hz2y_8 : wb.cell? ⟨g2, 8, none⟩ = some (.int .u64 0) := (kc_ B2.out 8).trans rfl; have hf2y_8 := kf_ B2.out 8; have hz2y_9 : wb.cell? ⟨g2, 9, none⟩ = some (.int .u64 0) := (kc_ B2.out 9).trans rfl; have hf2y_9 := kf_ B2.out 9; have hz2y_10 : wb.cell? ⟨g2, 10, none⟩ = some (.int .u64 0) := (kc_ B2.out 10).trans rfl; have hf2y_10 := kf_ B2.out 10; have hz2y_11 : wb.cell? ⟨g2, 11, none⟩ = some (.int .u64 0) := (kc_ B2.out 11).trans rfl; have hf2y_11 := kf_ B2.out 11; have hz2y_12 : wb.cell? ⟨g2, 12, none⟩ = some (.int .i64 0) := (kc_ B2.out 12).trans rfl; have hf2y_12 := kf_ B2.out 12))
       refine bodyPost_ret (results_ct rfl _ _ g2 31 #[.int .i64 0, .int .i64 0, .int .i64 0, .slice none 0 0, .bool false, .bool false, .int .u64 0, .int .u64 0, .int .u64 0, .int .u64 0, .int .u64 0, .int .u64 0, .int .i64 0] (0, 0) _ rfl ((by refine blk_put (cs := #[.int .i64 0, .int .i64 0, .int .i64 0, .slice none 0 0, .bool false, .bool false, .int .u64 0, .int .u64 0, .int .u64 0, .int .u64 0, .int .u64 0, .int .u64 0, .int .i64 0]) ?_ 12 _ rfl; refine blk_put (cs := #[.int .i64 0, .int .i64 0, .int .i64 0, .slice none 0 0, .bool false, .bool false, .int .u64 0, .int .u64 0, .int .u64 0, .int .u64 0, .int .u64 0, .int .u64 0, .int .i64 0]) ?_ 11 _ rfl; refine blk_put (cs := #[.int .i64 0, .int .i64 0, .int .i64 0, .slice none 0 0, .bool false, .bool false, .int .u64 0, .int .u64 0, .int .u64 0, .int .u64 0, .int .u64 0, .int .u64 0, .int .i64 0]) ?_ 10 _ rfl; refine blk_put (cs := #[.int .i64 0, .int .i64 0, .int .i64 0, .slice none 0 0, .bool false, .bool false, .int .u64 0, .int .u64 0, .int .u64 0, .int .u64 0, .int .u64 0, .int .u64 0, .int .i64 0]) ?_ 9 _ rfl; refine blk_put (cs := #[.int .i64 0, .int .i64 0, .int .i64 0, .slice none 0 0, .bool false, .bool false, .int .u64 0, .int .u64 0, .int .u64 0, .int .u64 0, .int .u64 0, .int .u64 0, .int .i64 0]) ?_ 8 _ rfl; refine blk_put (cs := #[.int .i64 0, .int .i64 0, .int .i64 0, .slice none 0 0, .bool false, .bool false, .int .u64 0, .int .u64 0, .int .u64 0, .int .u64 0, .int .u64 0, .int .u64 0, .int .i64 0]) ?_ 7 _ rfl; refine blk_put (cs := #[.int .i64 0, .int .i64 0, .int .i64 0, .slice none 0 0, .bool false, .bool false, .int .u64 0, .int .u64 0, .int .u64 0, .int .u64 0, .int .u64 0, .int .u64 0, .int .i64 0]) ?_ 6 _ rfl; refine blk_put (cs := #[.int .i64 0, .int .i64 0, .int .i64 0, .slice none 0 0, .bool false, .bool false, .int .u64 0, .int .u64 0, .int .u64 0, .int .u64 0, .int .u64 0, .int .u64 0, .int .i64 0]) ?_ 5 _ rfl; refine blk_put (cs := #[.int .i64 0, .int .i64 0, .int .i64 0, .slice none 0 0, .bool false, .bool false, .int .u64 0, .int .u64 0, .int .u64 0, .int .u64 0, .int .u64 0, .int .u64 0, .int .i64 0]) ?_ 4 _ rfl; refine blk_put (cs := #[.int .i64 0, .int .i64 0, .int .i64 0, .slice none 0 0, .bool false, .bool false, .int .u64 0, .int .u64 0, .int .u64 0, .int .u64 0, .int .u64 0, .int .u64 0, .int .i64 0]) ?_ 3 _ rfl; refine blk_put (cs := #[.int .i64 0, .int .i64 0, .int .i64 0, .slice none 0 0, .bool false, .bool false, .int .u64 0, .int .u64 0, .int .u64 0, .int .u64 0, .int .u64 0, .int .u64 0, .int .i64 0]) ?_ 2 _ rfl; refine blk_put (cs := #[.int .i64 0, .int .i64 0, .int .i64 0, .slice none 0 0, .bool false, .bool false, .int .u64 0, .int .u64 0, .int .u64 0, .int .u64 0, .int .u64 0, .int .u64 0, .int .i64 0]) ?_ 1 _ rfl; refine blk_put (cs := #[.int .i64 0, .int .i64 0, .int .i64 0, .slice none 0 0, .bool false, .bool false, .int .u64 0, .int .u64 0, .int .u64 0, .int .u64 0, .int .u64 0, .int .u64 0, .int .i64 0]) ?_ 0 _ rfl; exact (by (with_reducible repeat (first | refine kn_ ?_ _ | refine kd_ ?_)); exact B2.out))) underlying31 rfl (by kernel_rfl)) rfl ?_
       exact ⟨.slice none 0 0, rfl, Kd.R_nil _ _ _ _ _, (bw1_ HB G2)⟩
     ·rw [if_neg c7] at H
      exact absurd H (by simp)
def medlarref01_power.l0 : Nat → Int → Int → Int → Option (Int)
  | 0, _, _, _ => none
  | k + 1, x3, x4, x5 => if x5 < x4 then (medlarref01_power.l0 k (IntKind.u64.wrap (2 * x3)) x4 (wrap64 (x5 + 1))) else (some x3)
def medlarref01_power.f (k : Nat) (a0 : Int) : Option (Int) := medlarref01_power.l0 k 1 a0 0
theorem medlarref01_power.mono_l : ∀ k, (∀ y0 y1 y2, LeO (medlarref01_power.l0 k y0 y1 y2) (medlarref01_power.l0 (k + 1) y0 y1 y2))
  | 0 => fun _ _ _ r h => by simp [medlarref01_power.l0] at h
  | k + 1 => by
   have ih0 := medlarref01_power.mono_l k
   ·intro y0 y1 y2
    unfold medlarref01_power.l0
    repeat' first | (with_reducible first | exact ih0 .. | exact LeO.refl _ | exact LeO.none _ | refine LeO.ite ?_ ?_ | refine LeO.bind ?_ (fun _ => ?_)) | exact ih0 .. | refine LeO.ite ?_ ?_ | refine LeO.bind ?_ (fun _ => ?_)
theorem medlarref01_power.mono : ∀ a0 k, LeO (medlarref01_power.f k a0) (medlarref01_power.f (k + 1) a0) := by
  intro a0 k
  have ih0 := medlarref01_power.mono_l k
  unfold medlarref01_power.f
  repeat' first | (with_reducible first | exact ih0 .. | exact LeO.refl _ | exact LeO.none _ | refine LeO.ite ?_ ?_ | refine LeO.bind ?_ (fun _ => ?_)) | exact ih0 .. | refine LeO.ite ?_ ?_ | refine LeO.bind ?_ (fun _ => ?_)
set_option maxHeartbeats 8000000 in
set_option maxRecDepth 100000 in
theorem medlarref01_power.calls (k : Nat) (a0 : Int) (r : Int) (w : World) (h : medlarref01_power.f k a0 = some r) :
   Calls Try.prog 103 #[.int .i64 a0] w fun e w' => e = .returned (.int .u64 r) ∧ Drawn0 w w' := by
  have H : (medlarref01_power.l0 k 1 a0 0) = some r := h
  clear h
  have H' := ak_ H
  clear H
  go_enter func103, ntmps103
  go_wp2
  go_loopg [3, 5] k (fun kq v3 v5 w' => ∃ (x3_1 : Int) (x5_1 : Int), v3 = .int .u64 x3_1 ∧ v5 = .int .i64 x5_1 ∧ Aside0 (medlarref01_power.l0 kq x3_1 a0 x5_1 = some r) ∧ Aside0 (kq ≤ k) ∧ Drawn0 w w')
  case atStart => exact ⟨(1), (0), rf_, rf_, H', ⟨Nat.le_refl _⟩, by repeat (first | exact Drawn0.refl _ | apply Drawn0.step)⟩
  case round =>
   clear H'
   try clear c1
   obtain ⟨x3_1, x5_1, rfl, rfl, HA, HK1, ⟨m1, rfl⟩⟩ := hrel
   cases gk with
   | zero => exact absurd HA.out (by simp [medlarref01_power.l0])
   | succ k1 =>
    have H := HA.out
    clear HA
    simp only [medlarref01_power.l0] at H
    by_cases c2 : x5_1 < a0
    ·rw [if_pos c2] at H
     have c2b0 := decide_eq_true c2
     clear c2
     have H' := ak_ H
     clear H
     go_wp2
     go_roundg k1
     case measure => have := HK1.out; omega
     case rel => exact ⟨(IntKind.u64.wrap (2 * x3_1)), (wrap64 (x5_1 + 1)), rf_, rf_, H', ⟨by have := HK1.out; omega⟩, by repeat (first | exact Drawn0.refl _ | apply Drawn0.step)⟩
    ·rw [if_neg c2] at H
     have c2b0 := decide_eq_false c2
     clear c2
     obtain rfl := Option.some.inj H
     go_wp2
     go_ret
     exact ⟨by first | rfl | (simp; done) | (simp [*]; done), by repeat (first | exact Drawn0.refl _ | apply Drawn0.step)⟩
def medlarref01_May.f (k : Nat) (a0 : Int) (a1 : Int) : Option (Bool) := if a0 ≥ 1 then (if a0 ≤ 32 then (if a1 ≥ 1 then ((medlarref01_power.f k (wrap64 (a0 + 1))).bind fun t235 => (some (decide (a1 < t235)))) else (some false)) else (some false)) else (some false)
theorem medlarref01_May.mono : ∀ a0 a1 k, LeO (medlarref01_May.f k a0 a1) (medlarref01_May.f (k + 1) a0 a1) := by
  intro a0 a1 k
  unfold medlarref01_May.f
  repeat' first | (with_reducible first | exact medlarref01_power.mono .. | exact LeO.refl _ | exact LeO.none _ | refine LeO.ite ?_ ?_ | refine LeO.bind ?_ (fun _ => ?_)) | exact medlarref01_power.mono .. | refine LeO.ite ?_ ?_ | refine LeO.bind ?_ (fun _ => ?_)
set_option maxHeartbeats 8000000 in
set_option maxRecDepth 100000 in
theorem medlarref01_May.calls (k : Nat) (a0 : Int) (a1 : Int) (r : Bool) (w : World) (h : medlarref01_May.f k a0 a1 = some r) :
   Calls Try.prog 60 #[.int .i64 a0, .int .u64 a1] w fun e w' => e = .returned (.bool r) ∧ Drawn0 w w' := by
  have H : (if a0 ≥ 1 then (if a0 ≤ 32 then (if a1 ≥ 1 then ((medlarref01_power.f k (wrap64 (a0 + 1))).bind fun t235 => (some (decide (a1 < t235)))) else (some false)) else (some false)) else (some false)) = some r := h
  clear h
  by_cases c3 : a0 ≥ 1
  ·rw [if_pos c3] at H
   have c3b0 : decide (1 ≤ a0) = true := decide_eq_true c3
   clear c3
   by_cases c4 : a0 ≤ 32
   ·rw [if_pos c4] at H
    have c4b0 := decide_eq_true c4
    clear c4
    by_cases c5 : a1 ≥ 1
    ·rw [if_pos c5] at H
     have c5b0 : decide (1 ≤ a1) = true := decide_eq_true c5
     clear c5
     replace H := bind_eq_some_iff.mp H
     obtain ⟨t235, A60, H⟩ := H
     replace H : (some (decide (a1 < t235))) = some r := H
     have A6 := ak_ A60
     clear A60
     obtain rfl := Option.some.inj H
     go_enter func60, ntmps60
     go_wp2_with (first | (go_at_call 103; (with_reducible refine (medlarref01_power.calls k (wrap64 (a0 + 1)) t235 _ A6.out).mono ?_); rintro e w' ⟨rfl, ⟨nd, rfl⟩⟩))
     go_ret
     exact ⟨by first | rfl | (simp; done) | (simp [*]; done), by repeat (first | exact Drawn0.refl _ | apply Drawn0.step)⟩
    ·rw [if_neg c5] at H
     have c5b0 : decide (1 ≤ a1) = false := decide_eq_false c5
     clear c5
     obtain rfl := Option.some.inj H
     go_enter func60, ntmps60
     go_wp2
     go_ret
     exact ⟨by first | rfl | (simp; done) | (simp [*]; done), by repeat (first | exact Drawn0.refl _ | apply Drawn0.step)⟩
   ·rw [if_neg c4] at H
    have c4b0 := decide_eq_false c4
    clear c4
    obtain rfl := Option.some.inj H
    go_enter func60, ntmps60
    go_wp2
    go_ret
    exact ⟨by first | rfl | (simp; done) | (simp [*]; done), by repeat (first | exact Drawn0.refl _ | apply Drawn0.step)⟩
  ·rw [if_neg c3] at H
   have c3b0 : decide (1 ≤ a0) = false := decide_eq_false c3
   clear c3
   obtain rfl := Option.some.inj H
   go_enter func60, ntmps60
   go_wp2
   go_ret
   exact ⟨by first | rfl | (simp; done) | (simp [*]; done), by repeat (first | exact Drawn0.refl _ | apply Drawn0.step)⟩
def medlarref16_shut.f (a0_0 : Bool) (a0_1 : Bool) (a0_2 : Int) (a0_3 : Int) (a0_4 : Int) (a0_5 : Int) (a0_6 : Int) (a0_7 : Int) (a0_8 : Int) : Option (Bool) := some (!a0_0 && (a0_1 && ((a0_2 == 0 && (a0_3 == 0)) && (a0_8 == 0))))
set_option maxHeartbeats 8000000 in
set_option maxRecDepth 100000 in
theorem medlarref16_shut.calls (a0_0 : Bool) (a0_1 : Bool) (a0_2 : Int) (a0_3 : Int) (a0_4 : Int) (a0_5 : Int) (a0_6 : Int) (a0_7 : Int) (a0_8 : Int) (r : Bool) (w : World) (h : medlarref16_shut.f a0_0 a0_1 a0_2 a0_3 a0_4 a0_5 a0_6 a0_7 a0_8 = some r) :
   Calls Try.prog 61 #[.agg #[.bool a0_0, .bool a0_1, .int .u64 a0_2, .int .u64 a0_3, .int .u64 a0_4, .int .u64 a0_5, .int .u64 a0_6, .int .u64 a0_7, .int .i64 a0_8]] w fun e w' => e = .returned (.bool r) ∧ Below w.heap.size w w' := by
  have hu29 := underlying29
  have hu27 := underlying27
  have HB := ak_ (Below.refl w.heap.size w)
  have H : (some (!a0_0 && (a0_1 && ((a0_2 == 0 && (a0_3 == 0)) && (a0_8 == 0))))) = some r := h
  clear h
  obtain rfl := Option.some.inj H
  go_enter func61, ntmps61
  go_wp2_with (first | ((with_reducible refine gate_dst (N := 1) rfl ?_); refine bx_ 1 #[.bool a0_0, .bool a0_1, .int .u64 a0_2, .int .u64 a0_3, .int .u64 a0_4, .int .u64 a0_5, .int .u64 a0_6, .int .u64 a0_7, .int .i64 a0_8] 29 ?_; intro gb236 hg w2 hbox hb; have BK236 := ak_ hbox; have GW236 := ak_ (gs_ hg HB); have GE236 := ak_ (gs_ hg HB); replace HB := ak_ (bt_ (bl_ HB) hb); clear hb hbox hg; obtain ⟨hcz3_0, hcz3_1, hcz3_2, hcz3_3, hcz3_4, hcz3_5, hcz3_6, hcz3_7, hcz3_8, hfz3_0, hfz3_1, hfz3_2, hfz3_3, hfz3_4, hfz3_5, hfz3_6, hfz3_7, hfz3_8⟩ := kc9_ BK236.out))
  go_ret
  exact ea_ (bw1_ HB GE236)
def medlarref12_scheme.f (k : Nat) (a0 : Int) (a1 : Int) : Option (Bool) := (medlarref01_May.f k a0 1).bind fun t237 => (if t237 = true then (if a1 ≥ 1 then (some (decide (a1 ≤ 3))) else (some false)) else (some false))
theorem medlarref12_scheme.mono : ∀ a0 a1 k, LeO (medlarref12_scheme.f k a0 a1) (medlarref12_scheme.f (k + 1) a0 a1) := by
  intro a0 a1 k
  unfold medlarref12_scheme.f
  repeat' first | (with_reducible first | exact medlarref01_May.mono .. | exact LeO.refl _ | exact LeO.none _ | refine LeO.ite ?_ ?_ | refine LeO.bind ?_ (fun _ => ?_)) | exact medlarref01_May.mono .. | refine LeO.ite ?_ ?_ | refine LeO.bind ?_ (fun _ => ?_)
set_option maxHeartbeats 8000000 in
set_option maxRecDepth 100000 in
theorem medlarref12_scheme.calls (k : Nat) (a0 : Int) (a1 : Int) (r : Bool) (w : World) (h : medlarref12_scheme.f k a0 a1 = some r) :
   Calls Try.prog 104 #[.int .i64 a0, .int .i64 a1] w fun e w' => e = .returned (.bool r) ∧ Drawn0 w w' := by
  have H : ((medlarref01_May.f k a0 1).bind fun t237 => (if t237 = true then (if a1 ≥ 1 then (some (decide (a1 ≤ 3))) else (some false)) else (some false))) = some r := h
  clear h
  replace H := bind_eq_some_iff.mp H
  obtain ⟨t237, A30, H⟩ := H
  replace H : (if t237 = true then (if a1 ≥ 1 then (some (decide (a1 ≤ 3))) else (some false)) else (some false)) = some r := H
  have A3 := ak_ A30
  clear A30
  by_cases c4 : t237 = true
  ·subst c4
   have H1 : (if a1 ≥ 1 then (some (decide (a1 ≤ 3))) else (some false)) = some r := by rw [if_pos rfl] at H; exact H
   clear H
   have H := H1
   clear H1
   by_cases c5 : a1 ≥ 1
   ·rw [if_pos c5] at H
    have c5b0 : decide (1 ≤ a1) = true := decide_eq_true c5
    clear c5
    obtain rfl := Option.some.inj H
    go_enter func104, ntmps104
    go_wp2_with (first | ((with_reducible refine gate_callee (f := 60) rfl ?_); refine gl_ (some 6) func60 #[.int .i64 a0, .int .u64 1] ?_; (with_reducible refine (medlarref01_May.calls k a0 1 true _ A3.out).mono ?_); rintro e w' ⟨rfl, ⟨nd, rfl⟩⟩; refine ⟨_, rfl, ?_⟩))
    go_ret
    exact ⟨by first | rfl | (simp; done) | (simp [*]; done), by repeat (first | exact Drawn0.refl _ | apply Drawn0.step)⟩
   ·rw [if_neg c5] at H
    have c5b0 : decide (1 ≤ a1) = false := decide_eq_false c5
    clear c5
    obtain rfl := Option.some.inj H
    go_enter func104, ntmps104
    go_wp2_with (first | ((with_reducible refine gate_callee (f := 60) rfl ?_); refine gl_ (some 6) func60 #[.int .i64 a0, .int .u64 1] ?_; (with_reducible refine (medlarref01_May.calls k a0 1 true _ A3.out).mono ?_); rintro e w' ⟨rfl, ⟨nd, rfl⟩⟩; refine ⟨_, rfl, ?_⟩))
    go_ret
    exact ⟨by first | rfl | (simp; done) | (simp [*]; done), by repeat (first | exact Drawn0.refl _ | apply Drawn0.step)⟩
  ·replace c4 := Bool.eq_false_iff.mpr c4
   subst c4
   have H1 : (some false) = some r := by rw [if_neg (show ¬ (false = true) by decide)] at H; exact H
   clear H
   have H := H1
   clear H1
   obtain rfl := Option.some.inj H
   go_enter func104, ntmps104
   go_wp2_with (first | ((with_reducible refine gate_callee (f := 60) rfl ?_); refine gl_ (some 6) func60 #[.int .i64 a0, .int .u64 1] ?_; (with_reducible refine (medlarref01_May.calls k a0 1 false _ A3.out).mono ?_); rintro e w' ⟨rfl, ⟨nd, rfl⟩⟩; refine ⟨_, rfl, ?_⟩))
   go_ret
   exact ⟨by first | rfl | (simp; done) | (simp [*]; done), by repeat (first | exact Drawn0.refl _ | apply Drawn0.step)⟩
def medlarref01_Chain.f : Nat → Int → Option (List Int)
  | 0, _ => none
  | k + 1, a0 => if a0 = 1 then (some (([1] : List Int))) else ((medlarref01_Chain.f k (IntKind.u64.wrap (Int.tdiv a0 2))).bind fun t241 => (if t241.length < 17592186044416 then (some (t241 ++ [a0])) else (none)))
theorem medlarref01_Chain.mono_l : ∀ k, (∀ y0, LeO (medlarref01_Chain.f k y0) (medlarref01_Chain.f (k + 1) y0))
  | 0 => fun _ r h => by simp [medlarref01_Chain.f] at h
  | k + 1 => by
   have ih0 := medlarref01_Chain.mono_l k
   ·intro y0
    unfold medlarref01_Chain.f
    repeat' first | (with_reducible first | exact ih0 .. | exact LeO.refl _ | exact LeO.none _ | refine LeO.ite ?_ ?_ | refine LeO.bind ?_ (fun _ => ?_)) | exact ih0 .. | refine LeO.ite ?_ ?_ | refine LeO.bind ?_ (fun _ => ?_)
theorem medlarref01_Chain.mono : ∀ a0 k, LeO (medlarref01_Chain.f k a0) (medlarref01_Chain.f (k + 1) a0) := by
  intro a0 k
  have ih0 := medlarref01_Chain.mono_l k
  exact ih0 a0
set_option maxHeartbeats 8000000 in
set_option maxRecDepth 100000 in
theorem medlarref01_Chain.calls (k : Nat) : ∀ (a0 : Int) (r : List Int) (w : World) (h : medlarref01_Chain.f k a0 = some r),
   Calls Try.prog 116 #[.int .u64 a0] w fun e w' => ∃ v0_ : Value, e = .returned (v0_) ∧ Kd.R (Kd.int .u64) 23 w' w.heap.size (fun _ => True) v0_ r ∧ Below w.heap.size w w' := by
  induction k using Nat.strongRecOn with
  | _ k ih =>
  intro a0 r w h
  cases k with
  | zero => exact absurd h (by simp [medlarref01_Chain.f])
  | succ k =>
  simp only [medlarref01_Chain.f] at h
  have HB := ak_ (Below.refl w.heap.size w)
  have H : (if a0 = 1 then (some (([1] : List Int))) else ((medlarref01_Chain.f k (IntKind.u64.wrap (Int.tdiv a0 2))).bind fun t241 => (if t241.length < 17592186044416 then (some (t241 ++ [a0])) else (none)))) = some r := h
  clear h
  by_cases c2 : a0 = 1
  ·rw [if_pos c2] at H
   have c2b0 : (a0 == 1) = true := beq_iff_eq.mpr c2
   have c2b1 : (a0 != 1) = false := bne_eq_false_iff_eq.mpr c2
   clear c2
   obtain ⟨y238, hy238⟩ : ∃ y_ : List Int, y_ = (([1] : List Int)) := ⟨_, rfl⟩
   replace H : (some y238) = some r := by first | (rw [hy238]; with_reducible exact H) | (have H2_ := (Option.bind_some _ _).symm.trans H; rw [hy238]; with_reducible exact H2_) | (have H2_ := (Option.bind_some _ _).symm.trans H; with_reducible exact H2_) | with_reducible exact H | (rw [hy238]; exact H) | exact H
   have Ny238 := ak_ hy238
   clear hy238
   obtain rfl := Option.some.inj H
   go_enter func116, ntmps116
   go_wp2_with (first | ((with_reducible refine gate_dst (N := 5) rfl ?_); refine Kd.R_lit (Kd.int .u64) _ 23 ?hg (N := 5) ?hd (xs := ([1] : List Int)) (inner := [.int .u64 1]) (ok := fun _ => True) (okp := fun _ => True) ?hr ?hp (fun _ hk => hk) trivial (Below.refl _ _) (Nat.le_refl _) (by simp) ?_; (case hd => rfl); (case hg => rfl); (case hr => first | (go_simp; done) | (go_simp; rfl)); (case hp => exact (Reps.one (show Kd.M (Kd.int .u64) _ _ _ 1 [.int .u64 1] from rfl) (Reps.none _ _))); intro v239 w3 ho4 hb hg_ hnew_; clear hg_ hnew_; (first | rw [← Ny238.out] at ho4 | (simp only [Int.reduceToNat] at ho4; rw [← Ny238.out] at ho4)); have HO240 := ak_ (Kd.R_lower ho4 (bz_ (bl_ HB))); replace HB := ak_ (bt_ (bl_ HB) hb); clear hb ho4))
   go_ret
   exact ⟨_, by first | rfl | (simp <;> rfl) | (simp [*] <;> rfl), by (with_reducible repeat (first | apply Kd.R_alloc | apply Kd.R_drewN | apply Kd.R_drew)); exact HO240.out, bl_ HB⟩
  ·rw [if_neg c2] at H
   have c2b0 : (a0 == 1) = false := beq_eq_false_iff_ne.mpr c2
   have c2b1 : (a0 != 1) = true := bne_iff_ne.mpr c2
   replace H := bind_eq_some_iff.mp H
   obtain ⟨t241, A50, H⟩ := H
   replace H : (if t241.length < 17592186044416 then (some (t241 ++ [a0])) else (none)) = some r := H
   have A5 := ak_ A50
   clear A50
   by_cases c6 : t241.length < 17592186044416
   ·rw [if_pos c6] at H
    have LMc6 := ak_ c6
    clear c6
    obtain ⟨y244, hy244⟩ : ∃ y_ : List Int, y_ = (t241 ++ [a0]) := ⟨_, rfl⟩
    replace H : (some y244) = some r := by first | (rw [hy244]; with_reducible exact H) | (have H2_ := (Option.bind_some _ _).symm.trans H; rw [hy244]; with_reducible exact H2_) | (have H2_ := (Option.bind_some _ _).symm.trans H; with_reducible exact H2_) | with_reducible exact H | (rw [hy244]; exact H) | exact H
    have Ny244 := ak_ hy244
    clear hy244
    obtain rfl := Option.some.inj H
    go_enter func116, ntmps116
    go_wp2_with (first | ((with_reducible refine gate_callee (f := 116) rfl ?_); refine gl_ (some 8) func116 #[.int .u64 (IntKind.u64.wrap (Int.tdiv a0 2))] ?_; (with_reducible refine (ih k (by omega) (IntKind.u64.wrap (Int.tdiv a0 2)) t241 _ A5.out).mono ?_); rintro e w7 ⟨v242, rfl, ho0, hb⟩; refine ⟨_, rfl, ?_⟩; have HO243 := ak_ (Kd.R_lower ho0 (bz_ (bl_ HB))); replace HB := ak_ (bt_ (bl_ HB) hb); (try clear hb); (try clear hk); (try clear ho0)) | ((with_reducible refine gate_builtin (b := .append) (xs := #[.tmp 8, .tmp 10]) rfl ?_); at_builtin; refine Kd.R_append (Kd.int .u64) (w0 := w) w.heap.size rfl (.tmp 8) (.tmp 10) 53 23 (.int .u64 0) 8 rfl underlying53 info23 rfl (by decide) (by omega) v242 t241 a0 [.int .u64 a0] (fun _ => True) (fun _ => False) rfl rfl ?aP (fun _ hk => hk.elim) ?aF ?aO ?aB ?aS ?aL ?_; (case aP => exact rfl); (case aB => exact (bl_ HB)); (case aF => exact (fun _ _ => trivial)); (case aO => exact (rl_ HO243)); (case aS => exact (bz_ (bl_ HB))); (case aL => have := LMc6.out; omega); intro v245 w8 ho hb hg hat; rw [← Ny244.out] at ho; replace HB := ak_ hb; have HO246 := ak_ ho; clear HO243; clear ho hb hg hat))
    go_ret
    exact ⟨_, by first | rfl | (simp <;> rfl) | (simp [*] <;> rfl), by (with_reducible repeat (first | apply Kd.R_alloc | apply Kd.R_drewN | apply Kd.R_drew)); exact HO246.out, bl_ HB⟩
   ·rw [if_neg c6] at H
    exact absurd H (by simp)
def medlarref01_Is.l0 : Nat → Int → List Int → Int → Int → Option (Bool)
  | 0, _, _, _, _ => none
  | k + 1, x0, x8, x9, x10 => if x10 < x9 then (if 0 ≤ x10 then (if x10 < (x8.length : Int) then (if (rd x8 x10) = x0 then (some true) else (medlarref01_Is.l0 k x0 x8 x9 (wrap64 (x10 + 1)))) else (none)) else (none)) else (some false)
def medlarref01_Is.f (k : Nat) (a0 : Int) (a1 : Int) : Option (Bool) := (medlarref01_Chain.f k a1).bind fun t247 => (medlarref01_Is.l0 k a0 t247 (t247.length : Int) 0)
theorem medlarref01_Is.mono_l : ∀ k, (∀ y0 y1 y2 y3, LeO (medlarref01_Is.l0 k y0 y1 y2 y3) (medlarref01_Is.l0 (k + 1) y0 y1 y2 y3))
  | 0 => fun _ _ _ _ r h => by simp [medlarref01_Is.l0] at h
  | k + 1 => by
   have ih0 := medlarref01_Is.mono_l k
   ·intro y0 y1 y2 y3
    unfold medlarref01_Is.l0
    repeat' first | (with_reducible first | exact ih0 .. | exact medlarref01_Chain.mono .. | exact LeO.refl _ | exact LeO.none _ | refine LeO.ite ?_ ?_ | refine LeO.bind ?_ (fun _ => ?_)) | exact ih0 .. | exact medlarref01_Chain.mono .. | refine LeO.ite ?_ ?_ | refine LeO.bind ?_ (fun _ => ?_)
theorem medlarref01_Is.mono : ∀ a0 a1 k, LeO (medlarref01_Is.f k a0 a1) (medlarref01_Is.f (k + 1) a0 a1) := by
  intro a0 a1 k
  have ih0 := medlarref01_Is.mono_l k
  unfold medlarref01_Is.f
  repeat' first | (with_reducible first | exact ih0 .. | exact medlarref01_Chain.mono .. | exact LeO.refl _ | exact LeO.none _ | refine LeO.ite ?_ ?_ | refine LeO.bind ?_ (fun _ => ?_)) | exact ih0 .. | exact medlarref01_Chain.mono .. | refine LeO.ite ?_ ?_ | refine LeO.bind ?_ (fun _ => ?_)
set_option maxHeartbeats 8000000 in
set_option maxRecDepth 100000 in
theorem medlarref01_Is.calls (k : Nat) (a0 : Int) (a1 : Int) (r : Bool) (w : World) (h : medlarref01_Is.f k a0 a1 = some r) :
   Calls Try.prog 139 #[.int .u64 a0, .int .u64 a1] w fun e w' => e = .returned (.bool r) ∧ Below w.heap.size w w' := by
  have HB := ak_ (Below.refl w.heap.size w)
  have H : ((medlarref01_Chain.f k a1).bind fun t247 => (medlarref01_Is.l0 k a0 t247 (t247.length : Int) 0)) = some r := h
  clear h
  replace H := bind_eq_some_iff.mp H
  obtain ⟨t247, A30, H⟩ := H
  replace H : (medlarref01_Is.l0 k a0 t247 (t247.length : Int) 0) = some r := H
  have A3 := ak_ A30
  clear A30
  have H' := ak_ H
  clear H
  go_enter func139, ntmps139
  go_wp2_with (first | ((with_reducible refine gate_callee (f := 116) rfl ?_); refine gl_ (some 8) func116 #[.int .u64 a1] ?_; (with_reducible refine (medlarref01_Chain.calls k a1 t247 _ A3.out).mono ?_); rintro e w4 ⟨v248, rfl, ho0, hb⟩; refine ⟨_, rfl, ?_⟩; have HO249 := ak_ (Kd.R_lower ho0 (bz_ (bl_ HB))); replace HB := ak_ (bt_ (bl_ HB) hb); (try clear hb); (try clear hk); (try clear ho0); obtain ⟨Ao5, co5, eo5⟩ := Kd.R_slice HO249.out; subst eo5))
  go_loopg [10] k (fun kq v10 w' => ∃ (x10_1 : Int), v10 = .int .i64 x10_1 ∧ Aside0 (medlarref01_Is.l0 kq a0 t247 (t247.length : Int) x10_1 = some r) ∧ Aside0 (kq ≤ k) ∧ Aside0 (Kd.R (Kd.int .u64) 23 w' w.heap.size (fun _ => True) (.slice Ao5 t247.length co5) t247) ∧ Aside0 (Below w.heap.size w w'))
  case atStart => exact ⟨(0), rf_, H', ⟨Nat.le_refl _⟩, ⟨rl_ HO249⟩, ⟨bl_ HB⟩⟩
  case round =>
   clear H'
   try clear c1
   try clear p2
   obtain ⟨x10_1, rfl, HA, HK1, HO_8, HB⟩ := hrel
   cases gk with
   | zero => exact absurd HA.out (by simp [medlarref01_Is.l0])
   | succ k1 =>
    have H := HA.out
    clear HA
    simp only [medlarref01_Is.l0] at H
    by_cases c6 : x10_1 < (t247.length : Int)
    ·rw [if_pos c6] at H
     have c6b0 := decide_eq_true c6
     clear c6
     by_cases c7 : 0 ≤ x10_1
     ·rw [if_pos c7] at H
      have c7b0 := decide_eq_true c7
      clear c7
      by_cases c8 : x10_1 < (t247.length : Int)
      ·rw [if_pos c8] at H
       have c8b0 := decide_eq_true c8
       clear c8
       by_cases c9 : (rd t247 x10_1) = a0
       ·rw [if_pos c9] at H
        have c9b0 : ((rd t247 x10_1) == a0) = true := beq_iff_eq.mpr c9
        have c9b1 : ((rd t247 x10_1) != a0) = false := bne_eq_false_iff_eq.mpr c9
        clear c9
        obtain rfl := Option.some.inj H
        have p250 : 0 ≤ (x10_1 : Int) := od_ (by first | (with_reducible assumption) | assumption)
        have q250 : x10_1 < (t247.length : Int) := od_ (by first | (with_reducible assumption) | assumption)
        obtain ⟨ad250, e250, hx250_0⟩ := Kd.at_int (Kd.R_reads' HO_8.out).2.2 x10_1 p250 q250
        cases e250
        replace p250 := eq_true p250
        replace q250 := eq_true q250
        go_wp2
        go_ret
        exact ea_ (bl_ HB)
       ·rw [if_neg c9] at H
        have c9b0 : ((rd t247 x10_1) == a0) = false := beq_eq_false_iff_ne.mpr c9
        have c9b1 : ((rd t247 x10_1) != a0) = true := bne_iff_ne.mpr c9
        have H' := ak_ H
        clear H
        have p250 : 0 ≤ (x10_1 : Int) := od_ (by first | (with_reducible assumption) | assumption)
        have q250 : x10_1 < (t247.length : Int) := od_ (by first | (with_reducible assumption) | assumption)
        obtain ⟨ad250, e250, hx250_0⟩ := Kd.at_int (Kd.R_reads' HO_8.out).2.2 x10_1 p250 q250
        cases e250
        replace p250 := eq_true p250
        replace q250 := eq_true q250
        go_wp2
        go_roundg k1
        case measure => have := HK1.out; omega
        case rel => exact ⟨(wrap64 (x10_1 + 1)), rf_, H', ⟨by have := HK1.out; omega⟩, ⟨rl_ HO_8⟩, ⟨bl_ HB⟩⟩
      ·rw [if_neg c8] at H
       exact absurd H (by simp)
     ·rw [if_neg c7] at H
      exact absurd H (by simp)
    ·rw [if_neg c6] at H
     have c6b0 := decide_eq_false c6
     clear c6
     obtain rfl := Option.some.inj H
     go_wp2
     go_ret
     exact ea_ (bl_ HB)
def medlarref08_Check.f (k : Nat) (a0 : Int) (a1_0 : Int) (a1_1 : Int) : Option (Int) := (medlarref01_May.f k a0 a1_0).bind fun t252 => (if t252 = true then (if a1_1 = 0 then (some 0) else ((medlarref01_May.f k a0 a1_1).bind fun t253 => (if t253 = true then (if a1_1 = a1_0 then (some 1) else ((medlarref01_Is.f k a1_0 a1_1).bind fun t254 => (if t254 = true then (some 0) else (some 1)))) else (some 1)))) else (some 1))
theorem medlarref08_Check.mono : ∀ a0 a1 a2 k, LeO (medlarref08_Check.f k a0 a1 a2) (medlarref08_Check.f (k + 1) a0 a1 a2) := by
  intro a0 a1 a2 k
  unfold medlarref08_Check.f
  repeat' first | (with_reducible first | exact medlarref01_Is.mono .. | exact medlarref01_May.mono .. | exact LeO.refl _ | exact LeO.none _ | refine LeO.ite ?_ ?_ | refine LeO.bind ?_ (fun _ => ?_)) | exact medlarref01_Is.mono .. | exact medlarref01_May.mono .. | refine LeO.ite ?_ ?_ | refine LeO.bind ?_ (fun _ => ?_)
set_option maxHeartbeats 8000000 in
set_option maxRecDepth 100000 in
theorem medlarref08_Check.calls (k : Nat) (a0 : Int) (a1_0 : Int) (a1_1 : Int) (r : Int) (w : World) (h : medlarref08_Check.f k a0 a1_0 a1_1 = some r) :
   Calls Try.prog 105 #[.int .i64 a0, .agg #[.int .u64 a1_0, .int .u64 a1_1]] w fun e w' => e = .returned (.int .i64 r) ∧ Below w.heap.size w w' := by
  have hu39 := underlying39
  have HB := ak_ (Below.refl w.heap.size w)
  have H : ((medlarref01_May.f k a0 a1_0).bind fun t252 => (if t252 = true then (if a1_1 = 0 then (some 0) else ((medlarref01_May.f k a0 a1_1).bind fun t253 => (if t253 = true then (if a1_1 = a1_0 then (some 1) else ((medlarref01_Is.f k a1_0 a1_1).bind fun t254 => (if t254 = true then (some 0) else (some 1)))) else (some 1)))) else (some 1))) = some r := h
  clear h
  replace H := bind_eq_some_iff.mp H
  obtain ⟨t252, A30, H⟩ := H
  replace H : (if t252 = true then (if a1_1 = 0 then (some 0) else ((medlarref01_May.f k a0 a1_1).bind fun t253 => (if t253 = true then (if a1_1 = a1_0 then (some 1) else ((medlarref01_Is.f k a1_0 a1_1).bind fun t254 => (if t254 = true then (some 0) else (some 1)))) else (some 1)))) else (some 1)) = some r := H
  have A3 := ak_ A30
  clear A30
  by_cases c4 : t252 = true
  ·subst c4
   have H1 : (if a1_1 = 0 then (some 0) else ((medlarref01_May.f k a0 a1_1).bind fun t253 => (if t253 = true then (if a1_1 = a1_0 then (some 1) else ((medlarref01_Is.f k a1_0 a1_1).bind fun t254 => (if t254 = true then (some 0) else (some 1)))) else (some 1)))) = some r := by rw [if_pos rfl] at H; exact H
   clear H
   have H := H1
   clear H1
   by_cases c5 : a1_1 = 0
   ·rw [if_pos c5] at H
    have c5b0 : (a1_1 == 0) = true := beq_iff_eq.mpr c5
    have c5b1 : (a1_1 != 0) = false := bne_eq_false_iff_eq.mpr c5
    clear c5
    obtain rfl := Option.some.inj H
    go_enter func105, ntmps105
    go_wp2_with (first | ((with_reducible refine gate_dst (N := 3) rfl ?_); refine bx_ 3 #[.int .u64 a1_0, .int .u64 a1_1] 39 ?_; intro gb251 hg w6 hbox hb; have BK251 := ak_ hbox; have GW251 := ak_ (gs_ hg HB); have GE251 := ak_ (gs_ hg HB); replace HB := ak_ (bt_ (bl_ HB) hb); clear hb hbox hg; obtain ⟨hcz7_0, hcz7_1, hfz7_0, hfz7_1⟩ := kc2_ BK251.out) | ((with_reducible refine gate_callee (f := 60) rfl ?_); refine gl_ (some 8) func60 #[.int .i64 a0, .int .u64 a1_0] ?_; (with_reducible refine (medlarref01_May.calls k a0 a1_0 true _ A3.out).mono ?_); rintro e w' ⟨rfl, ⟨nd, rfl⟩⟩; refine ⟨_, rfl, ?_⟩))
    go_ret
    exact ea_ (bw1_ HB GE251)
   ·rw [if_neg c5] at H
    have c5b0 : (a1_1 == 0) = false := beq_eq_false_iff_ne.mpr c5
    have c5b1 : (a1_1 != 0) = true := bne_iff_ne.mpr c5
    replace H := bind_eq_some_iff.mp H
    obtain ⟨t253, A80, H⟩ := H
    replace H : (if t253 = true then (if a1_1 = a1_0 then (some 1) else ((medlarref01_Is.f k a1_0 a1_1).bind fun t254 => (if t254 = true then (some 0) else (some 1)))) else (some 1)) = some r := H
    have A8 := ak_ A80
    clear A80
    by_cases c9 : t253 = true
    ·subst c9
     have H1 : (if a1_1 = a1_0 then (some 1) else ((medlarref01_Is.f k a1_0 a1_1).bind fun t254 => (if t254 = true then (some 0) else (some 1)))) = some r := by rw [if_pos rfl] at H; exact H
     clear H
     have H := H1
     clear H1
     by_cases c10 : a1_1 = a1_0
     ·rw [if_pos c10] at H
      have c10b0 : (a1_1 == a1_0) = true := beq_iff_eq.mpr c10
      have c10b1 : (a1_1 != a1_0) = false := bne_eq_false_iff_eq.mpr c10
      clear c10
      obtain rfl := Option.some.inj H
      go_enter func105, ntmps105
      go_wp2_with (first | ((with_reducible refine gate_dst (N := 3) rfl ?_); refine bx_ 3 #[.int .u64 a1_0, .int .u64 a1_1] 39 ?_; intro gb251 hg w11 hbox hb; have BK251 := ak_ hbox; have GW251 := ak_ (gs_ hg HB); have GE251 := ak_ (gs_ hg HB); replace HB := ak_ (bt_ (bl_ HB) hb); clear hb hbox hg; obtain ⟨hcz12_0, hcz12_1, hfz12_0, hfz12_1⟩ := kc2_ BK251.out) | ((with_reducible refine gate_callee (f := 60) rfl ?_); refine gl_ (some 8) func60 #[.int .i64 a0, .int .u64 a1_0] ?_; (with_reducible refine (medlarref01_May.calls k a0 a1_0 true _ A3.out).mono ?_); rintro e w' ⟨rfl, ⟨nd, rfl⟩⟩; refine ⟨_, rfl, ?_⟩) | (go_at_call 60; (with_reducible refine (medlarref01_May.calls k a0 a1_1 true _ A8.out).mono ?_); rintro e w' ⟨rfl, ⟨nd, rfl⟩⟩))
      go_ret
      exact ea_ (bw1_ HB GE251)
     ·rw [if_neg c10] at H
      have c10b0 : (a1_1 == a1_0) = false := beq_eq_false_iff_ne.mpr c10
      have c10b1 : (a1_1 != a1_0) = true := bne_iff_ne.mpr c10
      replace H := bind_eq_some_iff.mp H
      obtain ⟨t254, A130, H⟩ := H
      replace H : (if t254 = true then (some 0) else (some 1)) = some r := H
      have A13 := ak_ A130
      clear A130
      by_cases c14 : t254 = true
      ·subst c14
       have H1 : (some 0) = some r := by rw [if_pos rfl] at H; exact H
       clear H
       have H := H1
       clear H1
       obtain rfl := Option.some.inj H
       go_enter func105, ntmps105
       go_wp2_with (first | ((with_reducible refine gate_dst (N := 3) rfl ?_); refine bx_ 3 #[.int .u64 a1_0, .int .u64 a1_1] 39 ?_; intro gb251 hg w15 hbox hb; have BK251 := ak_ hbox; have GW251 := ak_ (gs_ hg HB); have GE251 := ak_ (gs_ hg HB); replace HB := ak_ (bt_ (bl_ HB) hb); clear hb hbox hg; obtain ⟨hcz16_0, hcz16_1, hfz16_0, hfz16_1⟩ := kc2_ BK251.out) | ((with_reducible refine gate_callee (f := 60) rfl ?_); refine gl_ (some 8) func60 #[.int .i64 a0, .int .u64 a1_0] ?_; (with_reducible refine (medlarref01_May.calls k a0 a1_0 true _ A3.out).mono ?_); rintro e w' ⟨rfl, ⟨nd, rfl⟩⟩; refine ⟨_, rfl, ?_⟩) | (go_at_call 60; (with_reducible refine (medlarref01_May.calls k a0 a1_1 true _ A8.out).mono ?_); rintro e w' ⟨rfl, ⟨nd, rfl⟩⟩) | (go_at_call 139; (with_reducible refine (medlarref01_Is.calls k a1_0 a1_1 true _ A13.out).mono ?_); rintro e w17 ⟨rfl, hb⟩; replace BK251 := ak_ (kb_ (kl_ BK251) hb); replace HB := ak_ (bt_ (bw1_ HB GE251) hb); (try clear hb); (try clear hk)))
       go_ret
       exact ea_ (bw1_ HB GE251)
      ·replace c14 := Bool.eq_false_iff.mpr c14
       subst c14
       have H1 : (some 1) = some r := by rw [if_neg (show ¬ (false = true) by decide)] at H; exact H
       clear H
       have H := H1
       clear H1
       obtain rfl := Option.some.inj H
       go_enter func105, ntmps105
       go_wp2_with (first | ((with_reducible refine gate_dst (N := 3) rfl ?_); refine bx_ 3 #[.int .u64 a1_0, .int .u64 a1_1] 39 ?_; intro gb251 hg w18 hbox hb; have BK251 := ak_ hbox; have GW251 := ak_ (gs_ hg HB); have GE251 := ak_ (gs_ hg HB); replace HB := ak_ (bt_ (bl_ HB) hb); clear hb hbox hg; obtain ⟨hcz19_0, hcz19_1, hfz19_0, hfz19_1⟩ := kc2_ BK251.out) | ((with_reducible refine gate_callee (f := 60) rfl ?_); refine gl_ (some 8) func60 #[.int .i64 a0, .int .u64 a1_0] ?_; (with_reducible refine (medlarref01_May.calls k a0 a1_0 true _ A3.out).mono ?_); rintro e w' ⟨rfl, ⟨nd, rfl⟩⟩; refine ⟨_, rfl, ?_⟩) | (go_at_call 60; (with_reducible refine (medlarref01_May.calls k a0 a1_1 true _ A8.out).mono ?_); rintro e w' ⟨rfl, ⟨nd, rfl⟩⟩) | (go_at_call 139; (with_reducible refine (medlarref01_Is.calls k a1_0 a1_1 false _ A13.out).mono ?_); rintro e w20 ⟨rfl, hb⟩; replace BK251 := ak_ (kb_ (kl_ BK251) hb); replace HB := ak_ (bt_ (bw1_ HB GE251) hb); (try clear hb); (try clear hk)))
       go_ret
       exact ea_ (bw1_ HB GE251)
    ·replace c9 := Bool.eq_false_iff.mpr c9
     subst c9
     have H1 : (some 1) = some r := by rw [if_neg (show ¬ (false = true) by decide)] at H; exact H
     clear H
     have H := H1
     clear H1
     obtain rfl := Option.some.inj H
     go_enter func105, ntmps105
     go_wp2_with (first | ((with_reducible refine gate_dst (N := 3) rfl ?_); refine bx_ 3 #[.int .u64 a1_0, .int .u64 a1_1] 39 ?_; intro gb251 hg w21 hbox hb; have BK251 := ak_ hbox; have GW251 := ak_ (gs_ hg HB); have GE251 := ak_ (gs_ hg HB); replace HB := ak_ (bt_ (bl_ HB) hb); clear hb hbox hg; obtain ⟨hcz22_0, hcz22_1, hfz22_0, hfz22_1⟩ := kc2_ BK251.out) | ((with_reducible refine gate_callee (f := 60) rfl ?_); refine gl_ (some 8) func60 #[.int .i64 a0, .int .u64 a1_0] ?_; (with_reducible refine (medlarref01_May.calls k a0 a1_0 true _ A3.out).mono ?_); rintro e w' ⟨rfl, ⟨nd, rfl⟩⟩; refine ⟨_, rfl, ?_⟩) | (go_at_call 60; (with_reducible refine (medlarref01_May.calls k a0 a1_1 false _ A8.out).mono ?_); rintro e w' ⟨rfl, ⟨nd, rfl⟩⟩))
     go_ret
     exact ea_ (bw1_ HB GE251)
  ·replace c4 := Bool.eq_false_iff.mpr c4
   subst c4
   have H1 : (some 1) = some r := by rw [if_neg (show ¬ (false = true) by decide)] at H; exact H
   clear H
   have H := H1
   clear H1
   obtain rfl := Option.some.inj H
   go_enter func105, ntmps105
   go_wp2_with (first | ((with_reducible refine gate_dst (N := 3) rfl ?_); refine bx_ 3 #[.int .u64 a1_0, .int .u64 a1_1] 39 ?_; intro gb251 hg w23 hbox hb; have BK251 := ak_ hbox; have GW251 := ak_ (gs_ hg HB); have GE251 := ak_ (gs_ hg HB); replace HB := ak_ (bt_ (bl_ HB) hb); clear hb hbox hg; obtain ⟨hcz24_0, hcz24_1, hfz24_0, hfz24_1⟩ := kc2_ BK251.out) | ((with_reducible refine gate_callee (f := 60) rfl ?_); refine gl_ (some 8) func60 #[.int .i64 a0, .int .u64 a1_0] ?_; (with_reducible refine (medlarref01_May.calls k a0 a1_0 false _ A3.out).mono ?_); rintro e w' ⟨rfl, ⟨nd, rfl⟩⟩; refine ⟨_, rfl, ?_⟩))
   go_ret
   exact ea_ (bw1_ HB GE251)
mutual
def medlarref08_Step.j0 : Nat → Int → Bool → Option (Int × Int)
  | 0, _, _ => none
  | k + 1, x0, x10 => if x10 = true then (some (0, 1)) else (medlarref08_Step.l0 k x0 1)
def medlarref08_Step.l0 : Nat → Int → Int → Option (Int × Int)
  | 0, _, _ => none
  | k + 1, x0, x4 => if (wrap64 (x4 * x4)) < x0 then (medlarref08_Step.l0 k x0 (wrap64 (x4 + 1))) else (some (x4, 0))
end
def medlarref08_Step.f (k : Nat) (a0 : Int) : Option (Int × Int) := if a0 < 1 then (medlarref08_Step.j0 k a0 true) else (medlarref08_Step.j0 k a0 (decide (a0 > 32)))
theorem medlarref08_Step.mono_l : ∀ k, (∀ y0 y1, LeO (medlarref08_Step.j0 k y0 y1) (medlarref08_Step.j0 (k + 1) y0 y1)) ∧ (∀ y0 y1, LeO (medlarref08_Step.l0 k y0 y1) (medlarref08_Step.l0 (k + 1) y0 y1))
  | 0 => ⟨fun _ _ r h => by simp [medlarref08_Step.j0] at h, fun _ _ r h => by simp [medlarref08_Step.l0] at h⟩
  | k + 1 => by
   obtain ⟨ih0, ih1⟩ := medlarref08_Step.mono_l k
   refine ⟨?_, ?_⟩
   all_goals intros
   all_goals first | unfold medlarref08_Step.j0 | unfold medlarref08_Step.l0
   all_goals repeat' first | (with_reducible first | exact ih0 .. | exact ih1 .. | exact LeO.refl _ | exact LeO.none _ | refine LeO.ite ?_ ?_ | refine LeO.bind ?_ (fun _ => ?_)) | exact ih0 .. | exact ih1 .. | refine LeO.ite ?_ ?_ | refine LeO.bind ?_ (fun _ => ?_)
theorem medlarref08_Step.mono : ∀ a0 k, LeO (medlarref08_Step.f k a0) (medlarref08_Step.f (k + 1) a0) := by
  intro a0 k
  obtain ⟨ih0, ih1⟩ := medlarref08_Step.mono_l k
  unfold medlarref08_Step.f
  repeat' first | (with_reducible first | exact ih0 .. | exact ih1 .. | exact LeO.refl _ | exact LeO.none _ | refine LeO.ite ?_ ?_ | refine LeO.bind ?_ (fun _ => ?_)) | exact ih0 .. | exact ih1 .. | refine LeO.ite ?_ ?_ | refine LeO.bind ?_ (fun _ => ?_)
set_option maxHeartbeats 8000000 in
set_option maxRecDepth 100000 in
theorem medlarref08_Step.calls (k : Nat) (a0 : Int) (r1 : Int) (r2 : Int) (w : World) (h : medlarref08_Step.f k a0 = some (r1, r2)) :
   Calls Try.prog 156 #[.int .i64 a0] w fun e w' => e = .returned (.tuple #[.int .i64 r1, .int .i64 r2]) ∧ Drawn0 w w' := by
  have H : (if a0 < 1 then (medlarref08_Step.j0 k a0 true) else (medlarref08_Step.j0 k a0 (decide (a0 > 32)))) = some (r1, r2) := h
  clear h
  have HC2 := ak_ H
  clear H
  go_enter func156, ntmps156
  go_upto_region 1 with (fail)
  go_cut [10] (fun v10 wc => ∃ (kq : Nat) (x10_1 : Bool), v10 = .bool x10_1 ∧ Aside0 (medlarref08_Step.j0 kq a0 x10_1 = some (r1, r2)) ∧ Aside0 (kq ≤ k) ∧ Drawn0 w wc)
  case first =>
   have H := HC2.out
   clear HC2
   by_cases c3 : a0 < 1
   ·rw [if_pos c3] at H
    have c3b0 := decide_eq_true c3
    clear c3
    (first | rw [c3b0] | (simp only [i64_w, i32_w]; rw [c3b0]) | skip)
    have H' := ak_ H
    clear H
    go_wp2
    go_meet
    case rel => exact ⟨_, (true), rf_, H', ⟨by first | omega | exact Nat.le_refl _⟩, by repeat (first | exact Drawn0.refl _ | apply Drawn0.step)⟩
   ·rw [if_neg c3] at H
    have c3b0 := decide_eq_false c3
    clear c3
    (first | rw [c3b0] | (simp only [i64_w, i32_w]; rw [c3b0]) | skip)
    have H' := ak_ H
    clear H
    go_wp2
    go_meet
    case rel => exact ⟨_, (decide (a0 > 32)), rf_, H', ⟨by first | omega | exact Nat.le_refl _⟩, by repeat (first | exact Drawn0.refl _ | apply Drawn0.step)⟩
  case rest =>
   clear HC2
   try clear c1
   try clear p2
   try clear c3
   try clear c3b0
   obtain ⟨kq, x10_1, rfl, HA, HJ1, ⟨mc1, rfl⟩⟩ := hcut
   cases kq with
   | zero => exact absurd HA.out (by simp [medlarref08_Step.j0])
   | succ kj1 =>
    have H := HA.out
    clear HA
    simp only [medlarref08_Step.j0] at H
    by_cases c4 : x10_1 = true
    ·subst c4
     have H1 : (some (0, 1)) = some (r1, r2) := by rw [if_pos rfl] at H; exact H
     clear H
     have H := H1
     clear H1
     simp only [some.injEq, Prod.mk.injEq] at H
     obtain ⟨rfl, rfl⟩ := H
     go_wp2
     go_ret2
     exact ⟨by first | rfl | (simp; done) | (simp [*]; done), by repeat (first | exact Drawn0.refl _ | apply Drawn0.step)⟩
    ·replace c4 := Bool.eq_false_iff.mpr c4
     subst c4
     have H1 : (medlarref08_Step.l0 kj1 a0 1) = some (r1, r2) := by rw [if_neg (show ¬ (false = true) by decide)] at H; exact H
     clear H
     have H := H1
     clear H1
     have H' := ak_ H
     clear H
     go_wp2
     go_loopg [4] kj1 (fun kq v4 w' => ∃ (x4_2 : Int), v4 = .int .i64 x4_2 ∧ Aside0 (medlarref08_Step.l0 kq a0 x4_2 = some (r1, r2)) ∧ Aside0 (kq ≤ kj1) ∧ Drawn0 w w')
     case atStart => exact ⟨(1), rf_, H', ⟨Nat.le_refl _⟩, by repeat (first | exact Drawn0.refl _ | apply Drawn0.step)⟩
     case round =>
      clear H'
      try clear c1
      try clear p2
      try clear c3
      try clear c3b0
      try clear c4
      try clear p2
      obtain ⟨x4_2, rfl, HA, HK2, ⟨m2, rfl⟩⟩ := hrel
      cases gk with
      | zero => exact absurd HA.out (by simp [medlarref08_Step.l0])
      | succ k2 =>
       have H := HA.out
       clear HA
       simp only [medlarref08_Step.l0] at H
       by_cases c5 : (wrap64 (x4_2 * x4_2)) < a0
       ·rw [if_pos c5] at H
        have c5b0 := decide_eq_true c5
        clear c5
        have H' := ak_ H
        clear H
        go_wp2
        go_roundg k2
        case measure => have := HJ1.out; have := HK2.out; omega
        case rel => exact ⟨(wrap64 (x4_2 + 1)), rf_, H', ⟨by have := HJ1.out; have := HK2.out; omega⟩, by repeat (first | exact Drawn0.refl _ | apply Drawn0.step)⟩
       ·rw [if_neg c5] at H
        have c5b0 := decide_eq_false c5
        clear c5
        simp only [some.injEq, Prod.mk.injEq] at H
        obtain ⟨rfl, rfl⟩ := H
        go_wp2
        go_ret2
        exact ⟨by first | rfl | (simp; done) | (simp [*]; done), by repeat (first | exact Drawn0.refl _ | apply Drawn0.step)⟩
def medlarref08_special.f (k : Nat) (a0 : Int) (a1 : Int) : Option (Bool) := (medlarref08_Step.f k a0).bind fun bt255 => (if bt255.1 = 0 then (none) else (if (Int.tmod a1 bt255.1) = 0 then (some true) else (some (a1 == a0))))
theorem medlarref08_special.mono : ∀ a0 a1 k, LeO (medlarref08_special.f k a0 a1) (medlarref08_special.f (k + 1) a0 a1) := by
  intro a0 a1 k
  unfold medlarref08_special.f
  repeat' first | (with_reducible first | exact medlarref08_Step.mono .. | exact LeO.refl _ | exact LeO.none _ | refine LeO.ite ?_ ?_ | refine LeO.bind ?_ (fun _ => ?_)) | exact medlarref08_Step.mono .. | refine LeO.ite ?_ ?_ | refine LeO.bind ?_ (fun _ => ?_)
set_option maxHeartbeats 8000000 in
set_option maxRecDepth 100000 in
theorem medlarref08_special.calls (k : Nat) (a0 : Int) (a1 : Int) (r : Bool) (w : World) (h : medlarref08_special.f k a0 a1 = some r) :
   Calls Try.prog 140 #[.int .i64 a0, .int .i64 a1] w fun e w' => e = .returned (.bool r) ∧ Drawn0 w w' := by
  have H : ((medlarref08_Step.f k a0).bind fun bt255 => (if bt255.1 = 0 then (none) else (if (Int.tmod a1 bt255.1) = 0 then (some true) else (some (a1 == a0))))) = some r := h
  clear h
  replace H := bind_eq_some_iff.mp H
  obtain ⟨⟨t255, t256⟩, A30, H⟩ := H
  replace H : (if t255 = 0 then (none) else (if (Int.tmod a1 t255) = 0 then (some true) else (some (a1 == a0)))) = some r := H
  have A3 := ak_ A30
  clear A30
  by_cases c4 : t255 = 0
  ·rw [if_pos c4] at H
   exact absurd H (by simp)
  ·rw [if_neg c4] at H
   have c4b0 : (t255 == 0) = false := beq_eq_false_iff_ne.mpr c4
   have c4b1 : (t255 != 0) = true := bne_iff_ne.mpr c4
   by_cases c5 : (Int.tmod a1 t255) = 0
   ·rw [if_pos c5] at H
    have c5b0 : ((Int.tmod a1 t255) == 0) = true := beq_iff_eq.mpr c5
    have c5b1 : ((Int.tmod a1 t255) != 0) = false := bne_eq_false_iff_eq.mpr c5
    clear c5
    obtain rfl := Option.some.inj H
    go_enter func140, ntmps140
    go_wp2_with (first | ((with_reducible refine gate_callee (f := 156) rfl ?_); refine gl_ (some 9) func156 #[.int .i64 a0] ?_; (with_reducible refine (medlarref08_Step.calls k a0 t255 t256 _ A3.out).mono ?_); rintro e w' ⟨rfl, ⟨nd, rfl⟩⟩; refine ⟨_, rfl, ?_⟩))
    go_ret
    exact ⟨by first | rfl | (simp; done) | (simp [*]; done), by repeat (first | exact Drawn0.refl _ | apply Drawn0.step)⟩
   ·rw [if_neg c5] at H
    have c5b0 : ((Int.tmod a1 t255) == 0) = false := beq_eq_false_iff_ne.mpr c5
    have c5b1 : ((Int.tmod a1 t255) != 0) = true := bne_iff_ne.mpr c5
    obtain rfl := Option.some.inj H
    go_enter func140, ntmps140
    go_wp2_with (first | ((with_reducible refine gate_callee (f := 156) rfl ?_); refine gl_ (some 9) func156 #[.int .i64 a0] ?_; (with_reducible refine (medlarref08_Step.calls k a0 t255 t256 _ A3.out).mono ?_); rintro e w' ⟨rfl, ⟨nd, rfl⟩⟩; refine ⟨_, rfl, ?_⟩))
    go_ret
    exact ⟨by first | rfl | (simp; done) | (simp [*]; done), by repeat (first | exact Drawn0.refl _ | apply Drawn0.step)⟩
def medlarref08_depth.f (k : Nat) (a0 : Int) : Option (Int) := (medlarref01_Chain.f k a0).bind fun t257 => (some (wrap64 ((t257.length : Int) - 1)))
theorem medlarref08_depth.mono : ∀ a0 k, LeO (medlarref08_depth.f k a0) (medlarref08_depth.f (k + 1) a0) := by
  intro a0 k
  unfold medlarref08_depth.f
  repeat' first | (with_reducible first | exact medlarref01_Chain.mono .. | exact LeO.refl _ | exact LeO.none _ | refine LeO.ite ?_ ?_ | refine LeO.bind ?_ (fun _ => ?_)) | exact medlarref01_Chain.mono .. | refine LeO.ite ?_ ?_ | refine LeO.bind ?_ (fun _ => ?_)
set_option maxHeartbeats 8000000 in
set_option maxRecDepth 100000 in
theorem medlarref08_depth.calls (k : Nat) (a0 : Int) (r : Int) (w : World) (h : medlarref08_depth.f k a0 = some r) :
   Calls Try.prog 141 #[.int .u64 a0] w fun e w' => e = .returned (.int .i64 r) ∧ Below w.heap.size w w' := by
  have HB := ak_ (Below.refl w.heap.size w)
  have H : ((medlarref01_Chain.f k a0).bind fun t257 => (some (wrap64 ((t257.length : Int) - 1)))) = some r := h
  clear h
  replace H := bind_eq_some_iff.mp H
  obtain ⟨t257, A20, H⟩ := H
  replace H : (some (wrap64 ((t257.length : Int) - 1))) = some r := H
  have A2 := ak_ A20
  clear A20
  obtain rfl := Option.some.inj H
  go_enter func141, ntmps141
  go_wp2_with (first | ((with_reducible refine gate_callee (f := 116) rfl ?_); refine gl_ (some 4) func116 #[.int .u64 a0] ?_; (with_reducible refine (medlarref01_Chain.calls k a0 t257 _ A2.out).mono ?_); rintro e w3 ⟨v258, rfl, ho0, hb⟩; refine ⟨_, rfl, ?_⟩; have HO259 := ak_ (Kd.R_lower ho0 (bz_ (bl_ HB))); replace HB := ak_ (bt_ (bl_ HB) hb); (try clear hb); (try clear hk); (try clear ho0); obtain ⟨Ao4, co4, eo4⟩ := Kd.R_slice HO259.out; subst eo4))
  go_ret
  exact ea_ (bl_ HB)
def medlarref08_next.l0 : Nat → Int → Int → Option (Int)
  | 0, _, _ => none
  | k + 1, x0, x1 => (medlarref08_special.f k x0 x1).bind fun t260 => (if t260 = true then (some x1) else (medlarref08_next.l0 k x0 (wrap64 (x1 + 1))))
def medlarref08_next.f (k : Nat) (a0 : Int) (a1 : Int) : Option (Int) := medlarref08_next.l0 k a0 (wrap64 (a1 + 1))
theorem medlarref08_next.mono_l : ∀ k, (∀ y0 y1, LeO (medlarref08_next.l0 k y0 y1) (medlarref08_next.l0 (k + 1) y0 y1))
  | 0 => fun _ _ r h => by simp [medlarref08_next.l0] at h
  | k + 1 => by
   have ih0 := medlarref08_next.mono_l k
   ·intro y0 y1
    unfold medlarref08_next.l0
    repeat' first | (with_reducible first | exact ih0 .. | exact medlarref08_special.mono .. | exact LeO.refl _ | exact LeO.none _ | refine LeO.ite ?_ ?_ | refine LeO.bind ?_ (fun _ => ?_)) | exact ih0 .. | exact medlarref08_special.mono .. | refine LeO.ite ?_ ?_ | refine LeO.bind ?_ (fun _ => ?_)
theorem medlarref08_next.mono : ∀ a0 a1 k, LeO (medlarref08_next.f k a0 a1) (medlarref08_next.f (k + 1) a0 a1) := by
  intro a0 a1 k
  have ih0 := medlarref08_next.mono_l k
  unfold medlarref08_next.f
  repeat' first | (with_reducible first | exact ih0 .. | exact medlarref08_special.mono .. | exact LeO.refl _ | exact LeO.none _ | refine LeO.ite ?_ ?_ | refine LeO.bind ?_ (fun _ => ?_)) | exact ih0 .. | exact medlarref08_special.mono .. | refine LeO.ite ?_ ?_ | refine LeO.bind ?_ (fun _ => ?_)
set_option maxHeartbeats 8000000 in
set_option maxRecDepth 100000 in
theorem medlarref08_next.calls (k : Nat) (a0 : Int) (a1 : Int) (r : Int) (w : World) (h : medlarref08_next.f k a0 a1 = some r) :
   Calls Try.prog 142 #[.int .i64 a0, .int .i64 a1] w fun e w' => e = .returned (.int .i64 r) ∧ Drawn0 w w' := by
  have H : (medlarref08_next.l0 k a0 (wrap64 (a1 + 1))) = some r := h
  clear h
  have H' := ak_ H
  clear H
  go_enter func142, ntmps142
  go_wp2
  go_loopg [1] k (fun kq v1 w' => ∃ (x1_1 : Int), v1 = .int .i64 x1_1 ∧ Aside0 (medlarref08_next.l0 kq a0 x1_1 = some r) ∧ Aside0 (kq ≤ k) ∧ Drawn0 w w')
  case atStart => exact ⟨(wrap64 (a1 + 1)), rf_, H', ⟨Nat.le_refl _⟩, by repeat (first | exact Drawn0.refl _ | apply Drawn0.step)⟩
  case round =>
   clear H'
   try clear c1
   try clear p2
   obtain ⟨x1_1, rfl, HA, HK1, ⟨m1, rfl⟩⟩ := hrel
   cases gk with
   | zero => exact absurd HA.out (by simp [medlarref08_next.l0])
   | succ k1 =>
    have H := HA.out
    clear HA
    simp only [medlarref08_next.l0] at H
    replace H := bind_eq_some_iff.mp H
    obtain ⟨t260, A30, H⟩ := H
    replace H : (if t260 = true then (some x1_1) else (medlarref08_next.l0 k1 a0 (wrap64 (x1_1 + 1)))) = some r := H
    have A3 := ak_ A30
    clear A30
    by_cases c4 : t260 = true
    ·subst c4
     have H1 : (some x1_1) = some r := by rw [if_pos rfl] at H; exact H
     clear H
     have H := H1
     clear H1
     obtain rfl := Option.some.inj H
     go_wp2_with (first | ((with_reducible refine gate_callee (f := 140) rfl ?_); refine gl_ (some 9) func140 #[.int .i64 a0, .int .i64 x1_1] ?_; (with_reducible refine (medlarref08_special.calls k1 a0 x1_1 true _ A3.out).mono ?_); rintro e w' ⟨rfl, ⟨nd, rfl⟩⟩; refine ⟨_, rfl, ?_⟩))
     go_ret
     exact ⟨by first | rfl | (simp; done) | (simp [*]; done), by repeat (first | exact Drawn0.refl _ | apply Drawn0.step)⟩
    ·replace c4 := Bool.eq_false_iff.mpr c4
     subst c4
     have H1 : (medlarref08_next.l0 k1 a0 (wrap64 (x1_1 + 1))) = some r := by rw [if_neg (show ¬ (false = true) by decide)] at H; exact H
     clear H
     have H := H1
     clear H1
     have H' := ak_ H
     clear H
     go_wp2_with (first | ((with_reducible refine gate_callee (f := 140) rfl ?_); refine gl_ (some 9) func140 #[.int .i64 a0, .int .i64 x1_1] ?_; (with_reducible refine (medlarref08_special.calls k1 a0 x1_1 false _ A3.out).mono ?_); rintro e w' ⟨rfl, ⟨nd, rfl⟩⟩; refine ⟨_, rfl, ?_⟩))
     go_roundg k1
     case measure => have := HK1.out; omega
     case rel => exact ⟨(wrap64 (x1_1 + 1)), rf_, H', ⟨by have := HK1.out; omega⟩, by repeat (first | exact Drawn0.refl _ | apply Drawn0.step)⟩
def medlarref08_Useful.f (k : Nat) (a0 : Int) (a1_0 : Int) (a1_1 : Int) : Option (Bool × Int) := (medlarref08_Check.f k a0 a1_0 a1_1).bind fun t262 => (if t262 = 0 then (if a1_1 = 0 then (some ((a1_0 == 1), 0)) else ((medlarref08_depth.f k a1_0).bind fun t263 => ((medlarref08_special.f k a0 t263).bind fun t264 => (if t264 = true then (some (true, 0)) else ((medlarref08_depth.f k a1_0).bind fun t265 => ((medlarref08_next.f k a0 t265).bind fun t266 => ((medlarref08_depth.f k a1_1).bind fun t267 => (some (decide (t266 ≥ t267), 0))))))))) else (some (false, 1)))
theorem medlarref08_Useful.mono : ∀ a0 a1 a2 k, LeO (medlarref08_Useful.f k a0 a1 a2) (medlarref08_Useful.f (k + 1) a0 a1 a2) := by
  intro a0 a1 a2 k
  unfold medlarref08_Useful.f
  repeat' first | (with_reducible first | exact medlarref08_Check.mono .. | exact medlarref08_depth.mono .. | exact medlarref08_next.mono .. | exact medlarref08_special.mono .. | exact LeO.refl _ | exact LeO.none _ | refine LeO.ite ?_ ?_ | refine LeO.bind ?_ (fun _ => ?_)) | exact medlarref08_Check.mono .. | exact medlarref08_depth.mono .. | exact medlarref08_next.mono .. | exact medlarref08_special.mono .. | refine LeO.ite ?_ ?_ | refine LeO.bind ?_ (fun _ => ?_)
def medlarref08_Useful.T5 : Bool × List (List Nat × List Nat) := (true, [([], []), ([], []), ([1], [1]), ([2], [2]), ([0, 3, 3], [0, 3]), ([4, 4], [4]), ([5], [5]), ([5], [5]), ([7, 5], [5, 7]), ([8, 5, 5], [5, 8]), ([6, 9, 9, 5], [5, 6, 9]), ([5], [5]), ([11, 5], [5, 11]), ([12, 10, 5], [5, 12]), ([10, 13, 5], [5, 10, 13]), ([5, 14], [5, 14]), ([15, 13, 0, 1, 2, 3, 4, 5, 6, 7, 8, 9, 10, 11, 12, 13, 14, 15], [15]), ([16, 0, 1, 2, 3, 4, 5, 6, 7, 8, 9, 10, 11, 12, 13, 14, 15, 16], [])])
def medlarref08_Useful.B5 : List Nat := [0, 0, 2, 6, 15, 31, 63, 63, 191, 447, 1023, 63, 2111, 8191, 16383, 32767, 65535, 131071]
theorem medlarref08_Useful.tab5 : rtab .any (opsOf Try.f106 5) = medlarref08_Useful.T5 := by kernel_rfl
theorem medlarref08_Useful.bits5 : waitsOk medlarref08_Useful.T5.2 medlarref08_Useful.B5 = true := by kernel_rfl
set_option maxHeartbeats 8000000 in
set_option maxRecDepth 100000 in
theorem medlarref08_Useful.calls (k : Nat) (a0 : Int) (a1_0 : Int) (a1_1 : Int) (r1 : Bool) (r2 : Int) (w : World) (h : medlarref08_Useful.f k a0 a1_0 a1_1 = some (r1, r2)) :
   Calls Try.prog 106 #[.int .i64 a0, .agg #[.int .u64 a1_0, .int .u64 a1_1]] w fun e w' => e = .returned (.tuple #[.bool r1, .int .i64 r2]) ∧ Below w.heap.size w w' := by
  have hu39 := underlying39
  have HB := ak_ (Below.refl w.heap.size w)
  have H : ((medlarref08_Check.f k a0 a1_0 a1_1).bind fun t262 => (if t262 = 0 then (if a1_1 = 0 then (some ((a1_0 == 1), 0)) else ((medlarref08_depth.f k a1_0).bind fun t263 => ((medlarref08_special.f k a0 t263).bind fun t264 => (if t264 = true then (some (true, 0)) else ((medlarref08_depth.f k a1_0).bind fun t265 => ((medlarref08_next.f k a0 t265).bind fun t266 => ((medlarref08_depth.f k a1_1).bind fun t267 => (some (decide (t266 ≥ t267), 0))))))))) else (some (false, 1)))) = some (r1, r2) := h
  clear h
  replace H := bind_eq_some_iff.mp H
  obtain ⟨t262, A30, H⟩ := H
  replace H : (if t262 = 0 then (if a1_1 = 0 then (some ((a1_0 == 1), 0)) else ((medlarref08_depth.f k a1_0).bind fun t263 => ((medlarref08_special.f k a0 t263).bind fun t264 => (if t264 = true then (some (true, 0)) else ((medlarref08_depth.f k a1_0).bind fun t265 => ((medlarref08_next.f k a0 t265).bind fun t266 => ((medlarref08_depth.f k a1_1).bind fun t267 => (some (decide (t266 ≥ t267), 0))))))))) else (some (false, 1))) = some (r1, r2) := H
  have A3 := ak_ A30
  clear A30
  by_cases c4 : t262 = 0
  ·rw [if_pos c4] at H
   have c4b0 : (t262 == 0) = true := beq_iff_eq.mpr c4
   have c4b1 : (t262 != 0) = false := bne_eq_false_iff_eq.mpr c4
   clear c4
   by_cases c5 : a1_1 = 0
   ·rw [if_pos c5] at H
    have c5b0 : (a1_1 == 0) = true := beq_iff_eq.mpr c5
    have c5b1 : (a1_1 != 0) = false := bne_eq_false_iff_eq.mpr c5
    clear c5
    simp only [some.injEq, Prod.mk.injEq] at H
    obtain ⟨rfl, rfl⟩ := H
    go_enter func106, ntmps106
    go_wp2_with (first | ((with_reducible refine gate_dst (N := 3) rfl ?_); refine bx_ 3 #[.int .u64 a1_0, .int .u64 a1_1] 39 ?_; intro gb261 hg w6 hbox hb; have BK261 := ak_ hbox; have GW261 := ak_ (gs_ hg HB); have GE261 := ak_ (gs_ hg HB); replace HB := ak_ (bt_ (bl_ HB) hb); clear hb hbox hg; obtain ⟨hcz7_0, hcz7_1, hfz7_0, hfz7_1⟩ := kc2_ BK261.out) | ((with_reducible refine gate_callee (f := 105) rfl ?_); refine gl_ (some 8) func105 #[.int .i64 a0, .agg #[.int .u64 a1_0, .int .u64 a1_1]] ?_; (with_reducible refine (medlarref08_Check.calls k a0 a1_0 a1_1 t262 _ A3.out).mono ?_); rintro e w8 ⟨rfl, hb⟩; refine ⟨_, rfl, ?_⟩; replace BK261 := ak_ (kb_ (kl_ BK261) hb); replace HB := ak_ (bt_ (bw1_ HB GE261) hb); (try clear hb); (try clear hk); obtain ⟨hcz9_0, hcz9_1, hfz9_0, hfz9_1⟩ := kc2_ BK261.out))
    go_ret2
    exact ea_ (bw1_ HB GE261)
   ·rw [if_neg c5] at H
    have c5b0 : (a1_1 == 0) = false := beq_eq_false_iff_ne.mpr c5
    have c5b1 : (a1_1 != 0) = true := bne_iff_ne.mpr c5
    replace H := bind_eq_some_iff.mp H
    obtain ⟨t263, A100, H⟩ := H
    replace H : ((medlarref08_special.f k a0 t263).bind fun t264 => (if t264 = true then (some (true, 0)) else ((medlarref08_depth.f k a1_0).bind fun t265 => ((medlarref08_next.f k a0 t265).bind fun t266 => ((medlarref08_depth.f k a1_1).bind fun t267 => (some (decide (t266 ≥ t267), 0))))))) = some (r1, r2) := H
    have A10 := ak_ A100
    clear A100
    replace H := bind_eq_some_iff.mp H
    obtain ⟨t264, A110, H⟩ := H
    replace H : (if t264 = true then (some (true, 0)) else ((medlarref08_depth.f k a1_0).bind fun t265 => ((medlarref08_next.f k a0 t265).bind fun t266 => ((medlarref08_depth.f k a1_1).bind fun t267 => (some (decide (t266 ≥ t267), 0)))))) = some (r1, r2) := H
    have A11 := ak_ A110
    clear A110
    by_cases c12 : t264 = true
    ·subst c12
     have H1 : (some (true, 0)) = some (r1, r2) := by rw [if_pos rfl] at H; exact H
     clear H
     have H := H1
     clear H1
     simp only [some.injEq, Prod.mk.injEq] at H
     obtain ⟨rfl, rfl⟩ := H
     go_enter func106, ntmps106
     try go_wp2_with (first | ((with_reducible refine gate_dst (N := 3) rfl ?_); refine bx_ 3 #[.int .u64 a1_0, .int .u64 a1_1] 39 ?_; intro gb261 hg w13 hbox hb; have BK261 := ak_ hbox; have GW261 := ak_ (gs_ hg HB); have GE261 := ak_ (gs_ hg HB); replace HB := ak_ (bt_ (bl_ HB) hb); clear hb hbox hg; obtain ⟨hcz14_0, hcz14_1, hfz14_0, hfz14_1⟩ := kc2_ BK261.out) | ((with_reducible refine gate_callee (f := 105) rfl ?_); refine gl_ (some 8) func105 #[.int .i64 a0, .agg #[.int .u64 a1_0, .int .u64 a1_1]] ?_; (with_reducible refine (medlarref08_Check.calls k a0 a1_0 a1_1 t262 _ A3.out).mono ?_); rintro e w15 ⟨rfl, hb⟩; refine ⟨_, rfl, ?_⟩; replace BK261 := ak_ (kb_ (kl_ BK261) hb); replace HB := ak_ (bt_ (bw1_ HB GE261) hb); (try clear hb); (try clear hk); obtain ⟨hcz16_0, hcz16_1, hfz16_0, hfz16_1⟩ := kc2_ BK261.out))
     replace BK261 := ak_ (kd_ BK261.out)
     replace HB := ak_ (bd_ HB.out)
     refine start_ (n := 18) (S := fun w' => w'.cell? ⟨gb261, 0, none⟩ = some (.int .u64 a1_0) ∧ w'.cell? ⟨gb261, 1, none⟩ = some (.int .u64 a1_1)) (ds := []) #[false, false, false, false, false, false, false, false, false, false, false, false, false, false, false, false, false, false] (by kernel_rfl) rfl rfl ⟨kq_ BK261.out 0 rfl, kq_ BK261.out 1 rfl⟩ (fun hHeld => ?_); refine with_tabW medlarref08_Useful.tab5 medlarref08_Useful.bits5 (fun HT_ HW_ => ?_)
     generalize w15.drew = w17 at BK261 HB hHeld ⊢
     refine pu_ HT_ 0 (some 16) (bA5 1 18) ?_
     refine pu_ HT_ 1 (some 17) (bA5 2 18) ?_
     refine tk_ HT_ HW_ hHeld 2 (some 18) (bA5 3 18) rfl (by rintro w' ⟨s0, s1⟩; go_simp; with_reducible rfl) ?_
     refine one_ (i := 3) (N := some 19) (bA5 4 18) rfl rfl (one_of HT_.out (by kernel_rfl)) (by decide) (fun K hK => ?_)
     refine gg_ func141 #[.int .u64 a1_0] ?_
     with_reducible refine (medlarref08_depth.calls k a1_0 t263 _ A10.out).mono ?_
     rintro e w18 ⟨rfl, hb⟩
     refine ⟨_, rfl, ?_⟩
     replace BK261 := ak_ (kb_ (kl_ BK261) hb)
     replace HB := ak_ (bt_ (bw1_ HB GE261) hb)
     (try clear hb)
     (try clear hb2)
     (try clear hk)
     (try clear hi)
     refine hK.out _ _ ⟨kq_ BK261.out 0 rfl, kq_ BK261.out 1 rfl⟩ (fun hHeld => ?_)
     clear hK K
     refine norm_ (a' := ?_) ?_ ?_
     rotate_left
     ·show Act.put _ (some 19) _ = _
      simp only [Act.put, setIfInBounds_toArray, set_cons_zero, set_cons_succ, i64_w, i32_w]
      rfl
     refine one_ (i := 4) (N := some 20) (bA5 5 18) rfl rfl (one_of HT_.out (by kernel_rfl)) (by decide) (fun K hK => ?_)
     refine gg_ func140 #[.int .i64 a0, .int .i64 t263] ?_
     with_reducible refine (medlarref08_special.calls k a0 t263 true _ A11.out).mono ?_
     rintro e w' ⟨rfl, ⟨nd, rfl⟩⟩
     refine ⟨_, rfl, ?_⟩
     refine hK.out _ _ ⟨kq_ BK261.out 0 rfl, kq_ BK261.out 1 rfl⟩ (fun hHeld => ?_)
     clear hK K
     refine norm_ (a' := ?_) ?_ ?_
     rotate_left
     ·show Act.put _ (some 20) _ = _
      simp only [Act.put, setIfInBounds_toArray, set_cons_zero, set_cons_succ, i64_w, i32_w]
      rfl
     refine pu_ HT_ 5 (some 21) (bA5 6 18) ?_
     refine pn_ HT_ 6 (some 22) (bA5 7 18) ?_
     refine pn_ HT_ 7 (some 23) (bA5 8 18) ?_
     refine pn_ HT_ 8 (some 24) (bA5 9 18) ?_
     refine pn_ HT_ 9 (some 25) (bA5 10 18) ?_
     refine pn_ HT_ 10 (some 26) (bA5 11 18) ?_
     refine pn_ HT_ 11 (some 27) (bA5 12 18) ?_
     refine pn_ HT_ 12 (some 28) (bA5 13 18) ?_
     refine pn_ HT_ 13 (some 29) (bA5 14 18) ?_
     refine pn_ HT_ 14 (some 30) (bA5 15 18) ?_
     refine pu_ HT_ 15 (some 31) (bA5 16 18) ?_
     refine pu_ HT_ 16 (some 4) (bA5 17 18) ?_
     refine pu_ HT_ 17 (some 5) (bA5 18 18) ?_
     refine done_ (done_of HT_.out (by kernel_rfl)) ?_
     try go_wp2
     go_ret2
     exact ea_ (bw1_ HB GE261)
    ·replace c12 := Bool.eq_false_iff.mpr c12
     subst c12
     have H1 : ((medlarref08_depth.f k a1_0).bind fun t265 => ((medlarref08_next.f k a0 t265).bind fun t266 => ((medlarref08_depth.f k a1_1).bind fun t267 => (some (decide (t266 ≥ t267), 0))))) = some (r1, r2) := by rw [if_neg (show ¬ (false = true) by decide)] at H; exact H
     clear H
     have H := H1
     clear H1
     replace H := bind_eq_some_iff.mp H
     obtain ⟨t265, A190, H⟩ := H
     replace H : ((medlarref08_next.f k a0 t265).bind fun t266 => ((medlarref08_depth.f k a1_1).bind fun t267 => (some (decide (t266 ≥ t267), 0)))) = some (r1, r2) := H
     have A19 := ak_ A190
     clear A190
     replace H := bind_eq_some_iff.mp H
     obtain ⟨t266, A200, H⟩ := H
     replace H : ((medlarref08_depth.f k a1_1).bind fun t267 => (some (decide (t266 ≥ t267), 0))) = some (r1, r2) := H
     have A20 := ak_ A200
     clear A200
     replace H := bind_eq_some_iff.mp H
     obtain ⟨t267, A210, H⟩ := H
     replace H : (some (decide (t266 ≥ t267), 0)) = some (r1, r2) := H
     have A21 := ak_ A210
     clear A210
     simp only [some.injEq, Prod.mk.injEq] at H
     obtain ⟨rfl, rfl⟩ := H
     go_enter func106, ntmps106
     try go_wp2_with (first | ((with_reducible refine gate_dst (N := 3) rfl ?_); refine bx_ 3 #[.int .u64 a1_0, .int .u64 a1_1] 39 ?_; intro gb261 hg w22 hbox hb; have BK261 := ak_ hbox; have GW261 := ak_ (gs_ hg HB); have GE261 := ak_ (gs_ hg HB); replace HB := ak_ (bt_ (bl_ HB) hb); clear hb hbox hg; obtain ⟨hcz23_0, hcz23_1, hfz23_0, hfz23_1⟩ := kc2_ BK261.out) | ((with_reducible refine gate_callee (f := 105) rfl ?_); refine gl_ (some 8) func105 #[.int .i64 a0, .agg #[.int .u64 a1_0, .int .u64 a1_1]] ?_; (with_reducible refine (medlarref08_Check.calls k a0 a1_0 a1_1 t262 _ A3.out).mono ?_); rintro e w24 ⟨rfl, hb⟩; refine ⟨_, rfl, ?_⟩; replace BK261 := ak_ (kb_ (kl_ BK261) hb); replace HB := ak_ (bt_ (bw1_ HB GE261) hb); (try clear hb); (try clear hk); obtain ⟨hcz25_0, hcz25_1, hfz25_0, hfz25_1⟩ := kc2_ BK261.out))
     replace BK261 := ak_ (kd_ BK261.out)
     replace HB := ak_ (bd_ HB.out)
     refine start_ (n := 18) (S := fun w' => w'.cell? ⟨gb261, 0, none⟩ = some (.int .u64 a1_0) ∧ w'.cell? ⟨gb261, 1, none⟩ = some (.int .u64 a1_1)) (ds := []) #[false, false, false, false, false, false, false, false, false, false, false, false, false, false, false, false, false, false] (by kernel_rfl) rfl rfl ⟨kq_ BK261.out 0 rfl, kq_ BK261.out 1 rfl⟩ (fun hHeld => ?_); refine with_tabW medlarref08_Useful.tab5 medlarref08_Useful.bits5 (fun HT_ HW_ => ?_)
     generalize w24.drew = w26 at BK261 HB hHeld ⊢
     refine pu_ HT_ 0 (some 16) (bA5 1 18) ?_
     refine pu_ HT_ 1 (some 17) (bA5 2 18) ?_
     refine tk_ HT_ HW_ hHeld 2 (some 18) (bA5 3 18) rfl (by rintro w' ⟨s0, s1⟩; go_simp; with_reducible rfl) ?_
     refine one_ (i := 3) (N := some 19) (bA5 4 18) rfl rfl (one_of HT_.out (by kernel_rfl)) (by decide) (fun K hK => ?_)
     refine gg_ func141 #[.int .u64 a1_0] ?_
     with_reducible refine (medlarref08_depth.calls k a1_0 t263 _ A10.out).mono ?_
     rintro e w27 ⟨rfl, hb⟩
     refine ⟨_, rfl, ?_⟩
     replace BK261 := ak_ (kb_ (kl_ BK261) hb)
     replace HB := ak_ (bt_ (bw1_ HB GE261) hb)
     (try clear hb)
     (try clear hb2)
     (try clear hk)
     (try clear hi)
     refine hK.out _ _ ⟨kq_ BK261.out 0 rfl, kq_ BK261.out 1 rfl⟩ (fun hHeld => ?_)
     clear hK K
     refine norm_ (a' := ?_) ?_ ?_
     rotate_left
     ·show Act.put _ (some 19) _ = _
      simp only [Act.put, setIfInBounds_toArray, set_cons_zero, set_cons_succ, i64_w, i32_w]
      rfl
     refine one_ (i := 4) (N := some 20) (bA5 5 18) rfl rfl (one_of HT_.out (by kernel_rfl)) (by decide) (fun K hK => ?_)
     refine gg_ func140 #[.int .i64 a0, .int .i64 t263] ?_
     with_reducible refine (medlarref08_special.calls k a0 t263 false _ A11.out).mono ?_
     rintro e w' ⟨rfl, ⟨nd, rfl⟩⟩
     refine ⟨_, rfl, ?_⟩
     refine hK.out _ _ ⟨kq_ BK261.out 0 rfl, kq_ BK261.out 1 rfl⟩ (fun hHeld => ?_)
     clear hK K
     refine norm_ (a' := ?_) ?_ ?_
     rotate_left
     ·show Act.put _ (some 20) _ = _
      simp only [Act.put, setIfInBounds_toArray, set_cons_zero, set_cons_succ, i64_w, i32_w]
      rfl
     refine pu_ HT_ 5 (some 21) (bA5 6 18) ?_
     refine pu_ HT_ 6 (some 22) (bA5 7 18) ?_
     refine pu_ HT_ 7 (some 23) (bA5 8 18) ?_
     refine pu_ HT_ 11 (some 27) #[true, true, true, true, true, true, true, true, false, false, false, true, false, false, false, false, false, false] ?_
     refine tk_ HT_ HW_ hHeld 8 (some 24) #[true, true, true, true, true, true, true, true, true, false, false, true, false, false, false, false, false, false] rfl (by rintro w' ⟨s0, s1⟩; go_simp; with_reducible rfl) ?_
     refine tk_ HT_ HW_ hHeld 12 (some 28) #[true, true, true, true, true, true, true, true, true, false, false, true, true, false, false, false, false, false] rfl (by rintro w' ⟨s0, s1⟩; go_simp; with_reducible rfl) ?_
     refine one_ (i := 9) (N := some 25) #[true, true, true, true, true, true, true, true, true, true, false, true, true, false, false, false, false, false] rfl rfl (one_of HT_.out (by kernel_rfl)) (by decide) (fun K hK => ?_)
     refine gg_ func141 #[.int .u64 a1_0] ?_
     with_reducible refine (medlarref08_depth.calls k a1_0 t265 _ A19.out).mono ?_
     rintro e w28 ⟨rfl, hb⟩
     refine ⟨_, rfl, ?_⟩
     replace BK261 := ak_ (kb_ (kl_ BK261) hb)
     replace HB := ak_ (bt_ (bw1_ HB GE261) hb)
     (try clear hb)
     (try clear hb2)
     (try clear hk)
     (try clear hi)
     refine hK.out _ _ ⟨kq_ BK261.out 0 rfl, kq_ BK261.out 1 rfl⟩ (fun hHeld => ?_)
     clear hK K
     refine norm_ (a' := ?_) ?_ ?_
     rotate_left
     ·show Act.put _ (some 25) _ = _
      simp only [Act.put, setIfInBounds_toArray, set_cons_zero, set_cons_succ, i64_w, i32_w]
      rfl
     refine one_ (i := 10) (N := some 26) (bA5 13 18) rfl rfl (one_of HT_.out (by kernel_rfl)) (by decide) (fun K hK => ?_)
     refine gg_ func142 #[.int .i64 a0, .int .i64 t265] ?_
     with_reducible refine (medlarref08_next.calls k a0 t265 t266 _ A20.out).mono ?_
     rintro e w' ⟨rfl, ⟨nd, rfl⟩⟩
     refine ⟨_, rfl, ?_⟩
     refine hK.out _ _ ⟨kq_ BK261.out 0 rfl, kq_ BK261.out 1 rfl⟩ (fun hHeld => ?_)
     clear hK K
     refine norm_ (a' := ?_) ?_ ?_
     rotate_left
     ·show Act.put _ (some 26) _ = _
      simp only [Act.put, setIfInBounds_toArray, set_cons_zero, set_cons_succ, i64_w, i32_w]
      rfl
     refine one_ (i := 13) (N := some 29) (bA5 14 18) rfl rfl (one_of HT_.out (by kernel_rfl)) (by decide) (fun K hK => ?_)
     refine gg_ func141 #[.int .u64 a1_1] ?_
     with_reducible refine (medlarref08_depth.calls k a1_1 t267 _ A21.out).mono ?_
     rintro e w29 ⟨rfl, hb⟩
     refine ⟨_, rfl, ?_⟩
     replace BK261 := ak_ (kb_ (kl_ BK261) hb)
     replace HB := ak_ (bt_ (bw1_ HB GE261) hb)
     (try clear hb)
     (try clear hb2)
     (try clear hk)
     (try clear hi)
     refine hK.out _ _ ⟨kq_ BK261.out 0 rfl, kq_ BK261.out 1 rfl⟩ (fun hHeld => ?_)
     clear hK K
     refine norm_ (a' := ?_) ?_ ?_
     rotate_left
     ·show Act.put _ (some 29) _ = _
      simp only [Act.put, setIfInBounds_toArray, set_cons_zero, set_cons_succ, i64_w, i32_w]
      rfl
     refine pu_ HT_ 14 (some 30) (bA5 15 18) ?_
     refine pu_ HT_ 15 (some 31) (bA5 16 18) ?_
     refine pu_ HT_ 16 (some 4) (bA5 17 18) ?_
     refine pu_ HT_ 17 (some 5) (bA5 18 18) ?_
     refine done_ (done_of HT_.out (by kernel_rfl)) ?_
     try go_wp2
     go_ret2
     exact ea_ (bw1_ HB GE261)
  ·rw [if_neg c4] at H
   have c4b0 : (t262 == 0) = false := beq_eq_false_iff_ne.mpr c4
   have c4b1 : (t262 != 0) = true := bne_iff_ne.mpr c4
   simp only [some.injEq, Prod.mk.injEq] at H
   obtain ⟨rfl, rfl⟩ := H
   go_enter func106, ntmps106
   go_wp2_with (first | ((with_reducible refine gate_dst (N := 3) rfl ?_); refine bx_ 3 #[.int .u64 a1_0, .int .u64 a1_1] 39 ?_; intro gb261 hg w30 hbox hb; have BK261 := ak_ hbox; have GW261 := ak_ (gs_ hg HB); have GE261 := ak_ (gs_ hg HB); replace HB := ak_ (bt_ (bl_ HB) hb); clear hb hbox hg; obtain ⟨hcz31_0, hcz31_1, hfz31_0, hfz31_1⟩ := kc2_ BK261.out) | ((with_reducible refine gate_callee (f := 105) rfl ?_); refine gl_ (some 8) func105 #[.int .i64 a0, .agg #[.int .u64 a1_0, .int .u64 a1_1]] ?_; (with_reducible refine (medlarref08_Check.calls k a0 a1_0 a1_1 t262 _ A3.out).mono ?_); rintro e w32 ⟨rfl, hb⟩; refine ⟨_, rfl, ?_⟩; replace BK261 := ak_ (kb_ (kl_ BK261) hb); replace HB := ak_ (bt_ (bw1_ HB GE261) hb); (try clear hb); (try clear hk)))
   go_ret2
   exact ea_ (bw1_ HB GE261)
def medlarref12_May.j0 : Nat → Int → Int → Bool → Int → Int → Option (Bool × Int)
  | 0, _, _, _, _, _ => none
  | k + 1, x0, x1, x17, x269000, x269001 => if x17 = true then (some (false, 1)) else (if x1 = 1 then (some ((x269001 == 0), 0)) else (if x1 = 2 then (if x269001 = 0 then (some ((x269000 == 1), 0)) else (some (true, 0))) else ((medlarref08_Useful.f k x0 x269000 x269001).bind fun bt271 => (some (bt271.1, bt271.2)))))
def medlarref12_May.f (k : Nat) (a0 : Int) (a1 : Int) (a2_0 : Int) (a2_1 : Int) : Option (Bool × Int) := (medlarref12_scheme.f k a0 a1).bind fun t269 => (if t269 = true then ((medlarref08_Check.f k a0 a2_0 a2_1).bind fun t270 => (medlarref12_May.j0 k a0 a1 (t270 != 0) a2_0 a2_1)) else (medlarref12_May.j0 k a0 a1 true a2_0 a2_1))
theorem medlarref12_May.mono_l : ∀ k, (∀ y0 y1 y2 y3 y4, LeO (medlarref12_May.j0 k y0 y1 y2 y3 y4) (medlarref12_May.j0 (k + 1) y0 y1 y2 y3 y4))
  | 0 => fun _ _ _ _ _ r h => by simp [medlarref12_May.j0] at h
  | k + 1 => by
   have ih0 := medlarref12_May.mono_l k
   ·intro y0 y1 y2 y3 y4
    unfold medlarref12_May.j0
    repeat' first | (with_reducible first | exact ih0 .. | exact medlarref08_Check.mono .. | exact medlarref08_Useful.mono .. | exact medlarref12_scheme.mono .. | exact LeO.refl _ | exact LeO.none _ | refine LeO.ite ?_ ?_ | refine LeO.bind ?_ (fun _ => ?_)) | exact ih0 .. | exact medlarref08_Check.mono .. | exact medlarref08_Useful.mono .. | exact medlarref12_scheme.mono .. | refine LeO.ite ?_ ?_ | refine LeO.bind ?_ (fun _ => ?_)
theorem medlarref12_May.mono : ∀ a0 a1 a2 a3 k, LeO (medlarref12_May.f k a0 a1 a2 a3) (medlarref12_May.f (k + 1) a0 a1 a2 a3) := by
  intro a0 a1 a2 a3 k
  have ih0 := medlarref12_May.mono_l k
  unfold medlarref12_May.f
  repeat' first | (with_reducible first | exact ih0 .. | exact medlarref08_Check.mono .. | exact medlarref08_Useful.mono .. | exact medlarref12_scheme.mono .. | exact LeO.refl _ | exact LeO.none _ | refine LeO.ite ?_ ?_ | refine LeO.bind ?_ (fun _ => ?_)) | exact ih0 .. | exact medlarref08_Check.mono .. | exact medlarref08_Useful.mono .. | exact medlarref12_scheme.mono .. | refine LeO.ite ?_ ?_ | refine LeO.bind ?_ (fun _ => ?_)
set_option maxHeartbeats 8000000 in
set_option maxRecDepth 100000 in
theorem medlarref12_May.calls (k : Nat) (a0 : Int) (a1 : Int) (a2_0 : Int) (a2_1 : Int) (r1 : Bool) (r2 : Int) (w : World) (h : medlarref12_May.f k a0 a1 a2_0 a2_1 = some (r1, r2)) :
   Calls Try.prog 62 #[.int .i64 a0, .int .i64 a1, .agg #[.int .u64 a2_0, .int .u64 a2_1]] w fun e w' => e = .returned (.tuple #[.bool r1, .int .i64 r2]) ∧ Below w.heap.size w w' := by
  have hu39 := underlying39
  have HB := ak_ (Below.refl w.heap.size w)
  have H : ((medlarref12_scheme.f k a0 a1).bind fun t269 => (if t269 = true then ((medlarref08_Check.f k a0 a2_0 a2_1).bind fun t270 => (medlarref12_May.j0 k a0 a1 (t270 != 0) a2_0 a2_1)) else (medlarref12_May.j0 k a0 a1 true a2_0 a2_1))) = some (r1, r2) := h
  clear h
  have HC4 := ak_ H
  clear H
  go_enter func62, ntmps62
  go_upto_region 1 with (first | ((with_reducible refine gate_dst (N := 5) rfl ?_); refine bx_ 5 #[.int .u64 a2_0, .int .u64 a2_1] 39 ?_; intro gb268 hg w5 hbox hb; have BK268 := ak_ hbox; have GW268 := ak_ (gs_ hg HB); have GE268 := ak_ (gs_ hg HB); replace HB := ak_ (bt_ (bl_ HB) hb); clear hb hbox hg))
  (try simp only [Act.put, setIfInBounds_toArray, set_cons_zero, set_cons_succ])
  go_cut [17] (fun v17 wc => ∃ (kq : Nat) (x17_3 : Bool), v17 = .bool x17_3 ∧ Aside0 (medlarref12_May.j0 kq a0 a1 x17_3 a2_0 a2_1 = some (r1, r2)) ∧ Aside0 (kq ≤ k) ∧ Aside0 (wc.heap[gb268]? = some (.cells #[.int .u64 a2_0, .int .u64 a2_1] 39 (0, 0))) ∧ Aside0 (Below w.heap.size w wc))
  case first =>
   have H := HC4.out
   clear HC4
   replace H := bind_eq_some_iff.mp H
   obtain ⟨t269, A60, H⟩ := H
   replace H : (if t269 = true then ((medlarref08_Check.f k a0 a2_0 a2_1).bind fun t270 => (medlarref12_May.j0 k a0 a1 (t270 != 0) a2_0 a2_1)) else (medlarref12_May.j0 k a0 a1 true a2_0 a2_1)) = some (r1, r2) := H
   have A6 := ak_ A60
   clear A60
   by_cases c7 : t269 = true
   ·subst c7
    have H1 : ((medlarref08_Check.f k a0 a2_0 a2_1).bind fun t270 => (medlarref12_May.j0 k a0 a1 (t270 != 0) a2_0 a2_1)) = some (r1, r2) := by rw [if_pos rfl] at H; exact H
    clear H
    have H := H1
    clear H1
    replace H := bind_eq_some_iff.mp H
    obtain ⟨t270, A80, H⟩ := H
    replace H : (medlarref12_May.j0 k a0 a1 (t270 != 0) a2_0 a2_1) = some (r1, r2) := H
    have A8 := ak_ A80
    clear A80
    have H' := ak_ H
    clear H
    go_wp2_with (first | ((with_reducible refine gate_callee (f := 104) rfl ?_); refine gl_ (some 10) func104 #[.int .i64 a0, .int .i64 a1] ?_; (with_reducible refine (medlarref12_scheme.calls k a0 a1 true _ A6.out).mono ?_); rintro e w' ⟨rfl, ⟨nd, rfl⟩⟩; refine ⟨_, rfl, ?_⟩; obtain ⟨hcz9_0, hcz9_1, hfz9_0, hfz9_1⟩ := kc2_ BK268.out) | (go_at_call 105; (with_reducible refine (medlarref08_Check.calls k a0 a2_0 a2_1 t270 _ A8.out).mono ?_); rintro e w10 ⟨rfl, hb⟩; replace BK268 := ak_ (kb_ (kl_ BK268) hb); replace HB := ak_ (bt_ (bw1_ HB GE268) hb); (try clear hb); (try clear hk)))
    go_meet
    case rel => exact ⟨_, ((t270 != 0)), rf_, H', ⟨by first | omega | exact Nat.le_refl _⟩, ⟨kl_ BK268⟩, ⟨bw1_ HB GE268⟩⟩
   ·replace c7 := Bool.eq_false_iff.mpr c7
    subst c7
    have H1 : (medlarref12_May.j0 k a0 a1 true a2_0 a2_1) = some (r1, r2) := by rw [if_neg (show ¬ (false = true) by decide)] at H; exact H
    clear H
    have H := H1
    clear H1
    have H' := ak_ H
    clear H
    go_wp2_with (first | ((with_reducible refine gate_callee (f := 104) rfl ?_); refine gl_ (some 10) func104 #[.int .i64 a0, .int .i64 a1] ?_; (with_reducible refine (medlarref12_scheme.calls k a0 a1 false _ A6.out).mono ?_); rintro e w' ⟨rfl, ⟨nd, rfl⟩⟩; refine ⟨_, rfl, ?_⟩))
    go_meet
    case rel => exact ⟨_, (true), rf_, H', ⟨by first | omega | exact Nat.le_refl _⟩, ⟨kl_ BK268⟩, ⟨bw1_ HB GE268⟩⟩
  case rest =>
   clear HC4
   try clear c1
   try clear p2
   try clear c6
   try clear c7
   try clear c10
   try clear hcz9_0 hcz9_1
   try clear hfz9_0 hfz9_1
   obtain ⟨kq, x17_3, rfl, HA, HJ3, BK268, HB⟩ := hcut
   cases kq with
   | zero => exact absurd HA.out (by simp [medlarref12_May.j0])
   | succ kj3 =>
    have H := HA.out
    clear HA
    simp only [medlarref12_May.j0] at H
    by_cases c11 : x17_3 = true
    ·subst c11
     have H1 : (some (false, 1)) = some (r1, r2) := by rw [if_pos rfl] at H; exact H
     clear H
     have H := H1
     clear H1
     simp only [some.injEq, Prod.mk.injEq] at H
     obtain ⟨rfl, rfl⟩ := H
     go_wp2
     go_ret2
     exact ea_ (bw1_ HB GE268)
    ·replace c11 := Bool.eq_false_iff.mpr c11
     subst c11
     have H1 : (if a1 = 1 then (some ((a2_1 == 0), 0)) else (if a1 = 2 then (if a2_1 = 0 then (some ((a2_0 == 1), 0)) else (some (true, 0))) else ((medlarref08_Useful.f kj3 a0 a2_0 a2_1).bind fun bt271 => (some (bt271.1, bt271.2))))) = some (r1, r2) := by rw [if_neg (show ¬ (false = true) by decide)] at H; exact H
     clear H
     have H := H1
     clear H1
     by_cases c12 : a1 = 1
     ·rw [if_pos c12] at H
      have c12b0 : (a1 == 1) = true := beq_iff_eq.mpr c12
      have c12b1 : (a1 != 1) = false := bne_eq_false_iff_eq.mpr c12
      clear c12
      simp only [some.injEq, Prod.mk.injEq] at H
      obtain ⟨rfl, rfl⟩ := H
      obtain ⟨hcz13_0, hcz13_1, hfz13_0, hfz13_1⟩ := kc2_ BK268.out
      go_wp2
      go_wp2
      go_ret2
      exact ea_ (bw1_ HB GE268)
     ·rw [if_neg c12] at H
      have c12b0 : (a1 == 1) = false := beq_eq_false_iff_ne.mpr c12
      have c12b1 : (a1 != 1) = true := bne_iff_ne.mpr c12
      by_cases c14 : a1 = 2
      ·rw [if_pos c14] at H
       have c14b0 : (a1 == 2) = true := beq_iff_eq.mpr c14
       have c14b1 : (a1 != 2) = false := bne_eq_false_iff_eq.mpr c14
       clear c14
       by_cases c15 : a2_1 = 0
       ·rw [if_pos c15] at H
        have c15b0 : (a2_1 == 0) = true := beq_iff_eq.mpr c15
        have c15b1 : (a2_1 != 0) = false := bne_eq_false_iff_eq.mpr c15
        clear c15
        simp only [some.injEq, Prod.mk.injEq] at H
        obtain ⟨rfl, rfl⟩ := H
        obtain ⟨hcz16_0, hcz16_1, hfz16_0, hfz16_1⟩ := kc2_ BK268.out
        go_wp2
        go_wp2
        go_ret2
        exact ea_ (bw1_ HB GE268)
       ·rw [if_neg c15] at H
        have c15b0 : (a2_1 == 0) = false := beq_eq_false_iff_ne.mpr c15
        have c15b1 : (a2_1 != 0) = true := bne_iff_ne.mpr c15
        simp only [some.injEq, Prod.mk.injEq] at H
        obtain ⟨rfl, rfl⟩ := H
        obtain ⟨hcz17_0, hcz17_1, hfz17_0, hfz17_1⟩ := kc2_ BK268.out
        go_wp2
        go_wp2
        go_ret2
        exact ea_ (bw1_ HB GE268)
      ·rw [if_neg c14] at H
       have c14b0 : (a1 == 2) = false := beq_eq_false_iff_ne.mpr c14
       have c14b1 : (a1 != 2) = true := bne_iff_ne.mpr c14
       replace H := bind_eq_some_iff.mp H
       obtain ⟨⟨t271, t272⟩, A180, H⟩ := H
       replace H : (some (t271, t272)) = some (r1, r2) := H
       have A18 := ak_ A180
       clear A180
       simp only [some.injEq, Prod.mk.injEq] at H
       obtain ⟨rfl, rfl⟩ := H
       obtain ⟨hcz19_0, hcz19_1, hfz19_0, hfz19_1⟩ := kc2_ BK268.out
       go_wp2_with (first | ((with_reducible refine gate_callee (f := 106) rfl ?_); refine gl_ (some 35) func106 #[.int .i64 a0, .agg #[.int .u64 a2_0, .int .u64 a2_1]] ?_; (with_reducible refine (medlarref08_Useful.calls kj3 a0 a2_0 a2_1 t271 t272 _ A18.out).mono ?_); rintro e w20 ⟨rfl, hb⟩; refine ⟨_, rfl, ?_⟩; replace BK268 := ak_ (kb_ (kl_ BK268) hb); replace HB := ak_ (bt_ (bw1_ HB GE268) hb); (try clear hb); (try clear hk)))
       go_wp2_with (first | ((with_reducible refine gate_callee (f := 106) rfl ?_); refine gl_ (some 35) func106 #[.int .i64 a0, .agg #[.int .u64 a2_0, .int .u64 a2_1]] ?_; (with_reducible refine (medlarref08_Useful.calls kj3 a0 a2_0 a2_1 t271 t272 _ A18.out).mono ?_); rintro e w20 ⟨rfl, hb⟩; refine ⟨_, rfl, ?_⟩; replace BK268 := ak_ (kb_ (kl_ BK268) hb); replace HB := ak_ (bt_ (bw1_ HB GE268) hb); (try clear hb); (try clear hk)))
       go_ret2
       exact ea_ (bw1_ HB GE268)
def medlarref08_Less.f (a0_0 : Int) (a0_1 : Int) (a1_0 : Int) (a1_1 : Int) : Option (Bool) := if a0_0 < a1_0 then (some true) else (if a0_0 = a1_0 then (some (decide (a0_1 < a1_1))) else (some false))
set_option maxHeartbeats 8000000 in
set_option maxRecDepth 100000 in
theorem medlarref08_Less.calls (a0_0 : Int) (a0_1 : Int) (a1_0 : Int) (a1_1 : Int) (r : Bool) (w : World) (h : medlarref08_Less.f a0_0 a0_1 a1_0 a1_1 = some r) :
   Calls Try.prog 63 #[.agg #[.int .u64 a0_0, .int .u64 a0_1], .agg #[.int .u64 a1_0, .int .u64 a1_1]] w fun e w' => e = .returned (.bool r) ∧ Below w.heap.size w w' := by
  have hu39 := underlying39
  have HB := ak_ (Below.refl w.heap.size w)
  have H : (if a0_0 < a1_0 then (some true) else (if a0_0 = a1_0 then (some (decide (a0_1 < a1_1))) else (some false))) = some r := h
  clear h
  by_cases c3 : a0_0 < a1_0
  ·rw [if_pos c3] at H
   have c3b0 := decide_eq_true c3
   clear c3
   obtain rfl := Option.some.inj H
   go_enter func63, ntmps63
   go_wp2_with (first | ((with_reducible refine gate_dst (N := 2) rfl ?_); refine bx_ 2 #[.int .u64 a0_0, .int .u64 a0_1] 39 ?_; intro gb273 hg w4 hbox hb; have BK273 := ak_ hbox; have GW273 := ak_ (gs_ hg HB); have GE273 := ak_ (gs_ hg HB); replace HB := ak_ (bt_ (bl_ HB) hb); clear hb hbox hg) | ((with_reducible refine gate_dst (N := 3) rfl ?_); refine bx_ 3 #[.int .u64 a1_0, .int .u64 a1_1] 39 ?_; intro gb274 hg w5 hbox hb; have BK274 := ak_ hbox; have GW274 := ak_ (gw1_ HB GE273 hg); have GE274 := ak_ (gw1_ HB GE273 hg); replace HB := ak_ (bt_ (bw1_ HB GE273) hb); have NB273_274 := ak_ (nl_ hg BK273); have NB274_273 := ak_ (nr_ hg BK273); replace BK273 := ak_ (kb_ (kl_ BK273) hb); clear hb hbox hg; have hnb6 := NB273_274.out; have hnc6 := NB274_273.out; obtain ⟨hcz7_0, hcz7_1, hfz7_0, hfz7_1⟩ := kc2_ BK273.out; obtain ⟨hcz8_0, hcz8_1, hfz8_0, hfz8_1⟩ := kc2_ BK274.out))
   go_ret
   exact ea_ (bw2_ HB GE273 GE274)
  ·rw [if_neg c3] at H
   have c3b0 := decide_eq_false c3
   clear c3
   by_cases c9 : a0_0 = a1_0
   ·rw [if_pos c9] at H
    have c9b0 : (a0_0 == a1_0) = true := beq_iff_eq.mpr c9
    have c9b1 : (a0_0 != a1_0) = false := bne_eq_false_iff_eq.mpr c9
    clear c9
    obtain rfl := Option.some.inj H
    go_enter func63, ntmps63
    go_wp2_with (first | ((with_reducible refine gate_dst (N := 2) rfl ?_); refine bx_ 2 #[.int .u64 a0_0, .int .u64 a0_1] 39 ?_; intro gb273 hg w10 hbox hb; have BK273 := ak_ hbox; have GW273 := ak_ (gs_ hg HB); have GE273 := ak_ (gs_ hg HB); replace HB := ak_ (bt_ (bl_ HB) hb); clear hb hbox hg) | ((with_reducible refine gate_dst (N := 3) rfl ?_); refine bx_ 3 #[.int .u64 a1_0, .int .u64 a1_1] 39 ?_; intro gb274 hg w11 hbox hb; have BK274 := ak_ hbox; have GW274 := ak_ (gw1_ HB GE273 hg); have GE274 := ak_ (gw1_ HB GE273 hg); replace HB := ak_ (bt_ (bw1_ HB GE273) hb); have NB273_274 := ak_ (nl_ hg BK273); have NB274_273 := ak_ (nr_ hg BK273); replace BK273 := ak_ (kb_ (kl_ BK273) hb); clear hb hbox hg; have hnb12 := NB273_274.out; have hnc12 := NB274_273.out; obtain ⟨hcz13_0, hcz13_1, hfz13_0, hfz13_1⟩ := kc2_ BK273.out; obtain ⟨hcz14_0, hcz14_1, hfz14_0, hfz14_1⟩ := kc2_ BK274.out))
    go_ret
    exact ea_ (bw2_ HB GE273 GE274)
   ·rw [if_neg c9] at H
    have c9b0 : (a0_0 == a1_0) = false := beq_eq_false_iff_ne.mpr c9
    have c9b1 : (a0_0 != a1_0) = true := bne_iff_ne.mpr c9
    obtain rfl := Option.some.inj H
    go_enter func63, ntmps63
    go_wp2_with (first | ((with_reducible refine gate_dst (N := 2) rfl ?_); refine bx_ 2 #[.int .u64 a0_0, .int .u64 a0_1] 39 ?_; intro gb273 hg w15 hbox hb; have BK273 := ak_ hbox; have GW273 := ak_ (gs_ hg HB); have GE273 := ak_ (gs_ hg HB); replace HB := ak_ (bt_ (bl_ HB) hb); clear hb hbox hg) | ((with_reducible refine gate_dst (N := 3) rfl ?_); refine bx_ 3 #[.int .u64 a1_0, .int .u64 a1_1] 39 ?_; intro gb274 hg w16 hbox hb; have BK274 := ak_ hbox; have GW274 := ak_ (gw1_ HB GE273 hg); have GE274 := ak_ (gw1_ HB GE273 hg); replace HB := ak_ (bt_ (bw1_ HB GE273) hb); have NB273_274 := ak_ (nl_ hg BK273); have NB274_273 := ak_ (nr_ hg BK273); replace BK273 := ak_ (kb_ (kl_ BK273) hb); clear hb hbox hg; have hnb17 := NB273_274.out; have hnc17 := NB274_273.out; obtain ⟨hcz18_0, hcz18_1, hfz18_0, hfz18_1⟩ := kc2_ BK273.out; obtain ⟨hcz19_0, hcz19_1, hfz19_0, hfz19_1⟩ := kc2_ BK274.out))
    go_ret
    exact ea_ (bw2_ HB GE273 GE274)
end Go.Proofs.Ytoljdfgkkkpnbaa.MP
