-- written by a program of this session (wip/tools/mprint.sh) for this seat
import Derived.Test.YtkleiaeihihjnaaK0
import Derived.Test.YtkleiaeihihjnaaProg
import Derived.Below
import Derived.Deep.Draws
import Derived.Deep.AppendLies
import Derived.Maps.AppendAt
import Derived.OwnWalk
import Derived.Laws.BytesArg
import Derived.Laws.MakeOwn
import Derived.Laws.OwnMore
import Derived.Deep.OwnRows
import Derived.Tactics
import Derived.Lib.ConvBytes
import Derived.Laws.Slices
import Derived.WalkKit
import Derived.KernelRfl
import Derived.RowKit3
import Derived.Deep.LoopGhost
import Derived.Deep.QuietTactic
import Derived.BigQuiet
import Derived.WideLaws
import Derived.Deep.DeepCutAuto
import Derived.Deep.CutBlock
import Derived.Deep.RegionHeld3
import Derived.Laws.Rows
import Derived.Lib.AppendStr
import Derived.ArgAppend
import Derived.Laws.IdiomCopy
import Derived.OrdersHeld
import Derived.Laws.BitsLemmas
import Derived.RowKit
import Derived.RegionTactic
import Derived.ChangeAlike
import Derived.BigRegion
namespace Go.Proofs.Ytkleiaeihihjnaa.MP
open Go.RowKit Go.Proofs.YtkleiaeihihjnaaW.PrintWords Go.Proofs.YtkleiaeihihjnaaW.PrintLast Go.Proofs.YtkleiaeihihjnaaW.PrintMore
attribute [local go_sem] max2_int min2_int max_two min_two max_three min_three max_four min_four
set_option linter.unusedVariables false
set_option linter.unusedSimpArgs false
def errW : Option Int → Value
  | none => .nilIface
  | some c => .iface 0 (.int .i64 c)
theorem errW_none : errW none = .nilIface := rfl
theorem errW_some (c : Int) : errW (some c) = .iface 0 (.int .i64 c) := rfl
theorem info3 : (Try.prog.info? 3).map (fun i => (i.zero, i.size, i.bytes)) = some (some (.int .i64 0), 1, 8) := by kernel_rfl
theorem info4 : (Try.prog.info? 4).map (fun i => (i.zero, i.size, i.bytes)) = some (some (.bool false), 1, 1) := by kernel_rfl
theorem info22 : (Try.prog.info? 22).map (fun i => (i.zero, i.size, i.bytes)) = some (some (.int .u64 0), 1, 8) := by kernel_rfl
theorem info34 : (Try.prog.info? 34).map (fun i => (i.zero, i.size, i.bytes)) = some (some (.agg #[(.bool false), (.bool false), (.int .u64 0), (.int .u64 0), (.int .u64 0), (.int .u64 0), (.int .u64 0), (.int .u64 0), (.int .i64 0)]), 9, 64) := by kernel_rfl
theorem info45 : (Try.prog.info? 45).map (fun i => (i.zero, i.size, i.bytes)) = some (some (.agg #[(.int .i64 0), (.int .i64 0), (.int .i64 0)]), 3, 24) := by kernel_rfl
theorem info48 : (Try.prog.info? 48).map (fun i => (i.zero, i.size, i.bytes)) = some (some (.agg #[(.int .u64 0), (.int .u64 0)]), 2, 16) := by kernel_rfl
theorem info50 : (Try.prog.info? 50).map (fun i => (i.zero, i.size, i.bytes)) = some (some (.agg #[(.int .u64 0), (.int .u64 0), (.bool false), (.bool false), (.int .u64 0), (.int .u64 0), (.int .u64 0), (.int .u64 0), (.int .u64 0), (.int .u64 0), (.int .i64 0)]), 11, 80) := by kernel_rfl
structure S48 where
  f0 : Int
  f1 : Int
def z48 : S48 := ⟨(0 : Int), (0 : Int)⟩
def k48 : Kd S48 := Kd.iso (Kd.pair (Kd.int .u64) (Kd.int .u64)) (fun x : S48 => (x.f0, x.f1))
theorem k48_open {w : World} {x : S48} {cs : List Value} (h : k48.K w x cs) : cs = [.int .u64 x.f0, .int .u64 x.f1] := by
  obtain ⟨_, _, rfl, rfl, rfl⟩ := h
  exact rfl
theorem k48_openM {w : World} {base : Nat} {ok : Nat → Prop} {x : S48} {cs : List Value} (h : k48.M w base ok x cs) : cs = [.int .u64 x.f0, .int .u64 x.f1] := by
  obtain ⟨_, _, rfl, rfl, rfl⟩ := h
  exact rfl
theorem k48_mk (w : World) (x : S48)  : k48.K w x [.int .u64 x.f0, .int .u64 x.f1] := ⟨[.int .u64 x.f0], [.int .u64 x.f1], rfl, rfl, rfl⟩
theorem k48_mkM (w : World) (base : Nat) (ok : Nat → Prop) (x : S48)  : k48.M w base ok x [.int .u64 x.f0, .int .u64 x.f1] := ⟨[.int .u64 x.f0], [.int .u64 x.f1], rfl, rfl, rfl⟩
def rd_T48 (xs : List S48) (i : Int) : S48 := xs.getD i.toNat z48
theorem at_T48 {w : World} {A : Option Addr} {n : Nat} {xs : List S48} (h : Kd.C k48 w A n xs) (i : Int) (h0 : 0 ≤ i) (h1 : i < n) : ∃ ad , A = some ad ∧ w.cell? (ad.add (i.toNat * 2)) = some (.int .u64 (rd_T48 xs i).f0) ∧ w.cell? ⟨(ad.add (i.toNat * 2)).block, (ad.add (i.toNat * 2)).off + 1, none⟩ = some (.int .u64 (rd_T48 xs i).f1) := by
  obtain ⟨ad, c, e, _, hK, hc0⟩ := Kd.C_get h z48 i h0 h1
  have hc : ∀ j u, c[j]? = some u → w.cell? (ad.add (i.toNat * 2 + j)) = some u := hc0
  obtain rfl := k48_open hK
  exact ⟨ad, e, hc 0 _ rfl, by rw [← add_field _ _ 1 (by omega)]; exact hc 1 _ rfl⟩
structure S45 where
  f0 : Int
  f1 : Int
  f2 : Int
def z45 : S45 := ⟨(0 : Int), (0 : Int), (0 : Int)⟩
def k45 : Kd S45 := Kd.iso (Kd.pair (Kd.int .i64) (Kd.pair (Kd.int .i64) (Kd.int .i64))) (fun x : S45 => (x.f0, x.f1, x.f2))
theorem k45_open {w : World} {x : S45} {cs : List Value} (h : k45.K w x cs) : cs = [.int .i64 x.f0, .int .i64 x.f1, .int .i64 x.f2] := by
  obtain ⟨_, _, rfl, rfl, ⟨_, _, rfl, rfl, rfl⟩⟩ := h
  exact rfl
theorem k45_openM {w : World} {base : Nat} {ok : Nat → Prop} {x : S45} {cs : List Value} (h : k45.M w base ok x cs) : cs = [.int .i64 x.f0, .int .i64 x.f1, .int .i64 x.f2] := by
  obtain ⟨_, _, rfl, rfl, ⟨_, _, rfl, rfl, rfl⟩⟩ := h
  exact rfl
theorem k45_mk (w : World) (x : S45)  : k45.K w x [.int .i64 x.f0, .int .i64 x.f1, .int .i64 x.f2] := ⟨[.int .i64 x.f0], [.int .i64 x.f1, .int .i64 x.f2], rfl, rfl, ⟨[.int .i64 x.f1], [.int .i64 x.f2], rfl, rfl, rfl⟩⟩
theorem k45_mkM (w : World) (base : Nat) (ok : Nat → Prop) (x : S45)  : k45.M w base ok x [.int .i64 x.f0, .int .i64 x.f1, .int .i64 x.f2] := ⟨[.int .i64 x.f0], [.int .i64 x.f1, .int .i64 x.f2], rfl, rfl, ⟨[.int .i64 x.f1], [.int .i64 x.f2], rfl, rfl, rfl⟩⟩
def rd_T45 (xs : List S45) (i : Int) : S45 := xs.getD i.toNat z45
theorem at_T45 {w : World} {A : Option Addr} {n : Nat} {xs : List S45} (h : Kd.C k45 w A n xs) (i : Int) (h0 : 0 ≤ i) (h1 : i < n) : ∃ ad , A = some ad ∧ w.cell? (ad.add (i.toNat * 3)) = some (.int .i64 (rd_T45 xs i).f0) ∧ w.cell? ⟨(ad.add (i.toNat * 3)).block, (ad.add (i.toNat * 3)).off + 1, none⟩ = some (.int .i64 (rd_T45 xs i).f1) ∧ w.cell? ⟨(ad.add (i.toNat * 3)).block, (ad.add (i.toNat * 3)).off + 2, none⟩ = some (.int .i64 (rd_T45 xs i).f2) := by
  obtain ⟨ad, c, e, _, hK, hc0⟩ := Kd.C_get h z45 i h0 h1
  have hc : ∀ j u, c[j]? = some u → w.cell? (ad.add (i.toNat * 3 + j)) = some u := hc0
  obtain rfl := k45_open hK
  exact ⟨ad, e, hc 0 _ rfl, by rw [← add_field _ _ 1 (by omega)]; exact hc 1 _ rfl, by rw [← add_field _ _ 2 (by omega)]; exact hc 2 _ rfl⟩
structure S24 where
  f0 : Int
  f1 : Int
def z24 : S24 := ⟨(0 : Int), (0 : Int)⟩
def k24 : Kd S24 := Kd.iso (Kd.pair (Kd.int .u64) (Kd.int .u64)) (fun x : S24 => (x.f0, x.f1))
theorem k24_open {w : World} {x : S24} {cs : List Value} (h : k24.K w x cs) : cs = [.int .u64 x.f0, .int .u64 x.f1] := by
  obtain ⟨_, _, rfl, rfl, rfl⟩ := h
  exact rfl
theorem k24_openM {w : World} {base : Nat} {ok : Nat → Prop} {x : S24} {cs : List Value} (h : k24.M w base ok x cs) : cs = [.int .u64 x.f0, .int .u64 x.f1] := by
  obtain ⟨_, _, rfl, rfl, rfl⟩ := h
  exact rfl
theorem k24_mk (w : World) (x : S24)  : k24.K w x [.int .u64 x.f0, .int .u64 x.f1] := ⟨[.int .u64 x.f0], [.int .u64 x.f1], rfl, rfl, rfl⟩
theorem k24_mkM (w : World) (base : Nat) (ok : Nat → Prop) (x : S24)  : k24.M w base ok x [.int .u64 x.f0, .int .u64 x.f1] := ⟨[.int .u64 x.f0], [.int .u64 x.f1], rfl, rfl, rfl⟩
def rd_T24 (xs : List S24) (i : Int) : S24 := xs.getD i.toNat z24
theorem at_T24 {w : World} {A : Option Addr} {n : Nat} {xs : List S24} (h : Kd.C k24 w A n xs) (i : Int) (h0 : 0 ≤ i) (h1 : i < n) : ∃ ad , A = some ad ∧ w.cell? (ad.add (i.toNat * 2)) = some (.int .u64 (rd_T24 xs i).f0) ∧ w.cell? ⟨(ad.add (i.toNat * 2)).block, (ad.add (i.toNat * 2)).off + 1, none⟩ = some (.int .u64 (rd_T24 xs i).f1) := by
  obtain ⟨ad, c, e, _, hK, hc0⟩ := Kd.C_get h z24 i h0 h1
  have hc : ∀ j u, c[j]? = some u → w.cell? (ad.add (i.toNat * 2 + j)) = some u := hc0
  obtain rfl := k24_open hK
  exact ⟨ad, e, hc 0 _ rfl, by rw [← add_field _ _ 1 (by omega)]; exact hc 1 _ rfl⟩
structure S32 where
  f0 : S24
  f1 : S24
def z32 : S32 := ⟨z24, z24⟩
def k32 : Kd S32 := Kd.iso (Kd.pair k24 k24) (fun x : S32 => (x.f0, x.f1))
theorem k32_open {w : World} {x : S32} {cs : List Value} (h : k32.K w x cs) : cs = [.int .u64 x.f0.f0, .int .u64 x.f0.f1, .int .u64 x.f1.f0, .int .u64 x.f1.f1] := by
  obtain ⟨_, _, rfl, s0, s2⟩ := h
  obtain rfl := k24_open s0
  obtain rfl := k24_open s2
  exact rfl
theorem k32_openM {w : World} {base : Nat} {ok : Nat → Prop} {x : S32} {cs : List Value} (h : k32.M w base ok x cs) : cs = [.int .u64 x.f0.f0, .int .u64 x.f0.f1, .int .u64 x.f1.f0, .int .u64 x.f1.f1] := by
  obtain ⟨_, _, rfl, s0, s2⟩ := h
  obtain rfl := k24_openM s0
  obtain rfl := k24_openM s2
  exact rfl
theorem k32_mk (w : World) (x : S32)  : k32.K w x [.int .u64 x.f0.f0, .int .u64 x.f0.f1, .int .u64 x.f1.f0, .int .u64 x.f1.f1] := ⟨[.int .u64 x.f0.f0, .int .u64 x.f0.f1], [.int .u64 x.f1.f0, .int .u64 x.f1.f1], rfl, (k24_mk w x.f0 ), (k24_mk w x.f1 )⟩
theorem k32_mkM (w : World) (base : Nat) (ok : Nat → Prop) (x : S32)  : k32.M w base ok x [.int .u64 x.f0.f0, .int .u64 x.f0.f1, .int .u64 x.f1.f0, .int .u64 x.f1.f1] := ⟨[.int .u64 x.f0.f0, .int .u64 x.f0.f1], [.int .u64 x.f1.f0, .int .u64 x.f1.f1], rfl, (k24_mkM w base ok x.f0 ), (k24_mkM w base ok x.f1 )⟩
def rd_T32 (xs : List S32) (i : Int) : S32 := xs.getD i.toNat z32
theorem at_T32 {w : World} {A : Option Addr} {n : Nat} {xs : List S32} (h : Kd.C k32 w A n xs) (i : Int) (h0 : 0 ≤ i) (h1 : i < n) : ∃ ad , A = some ad ∧ w.cell? (ad.add (i.toNat * 4)) = some (.int .u64 (rd_T32 xs i).f0.f0) ∧ w.cell? ⟨(ad.add (i.toNat * 4)).block, (ad.add (i.toNat * 4)).off + 1, none⟩ = some (.int .u64 (rd_T32 xs i).f0.f1) ∧ w.cell? ⟨(ad.add (i.toNat * 4)).block, (ad.add (i.toNat * 4)).off + 2, none⟩ = some (.int .u64 (rd_T32 xs i).f1.f0) ∧ w.cell? ⟨(ad.add (i.toNat * 4)).block, (ad.add (i.toNat * 4)).off + 3, none⟩ = some (.int .u64 (rd_T32 xs i).f1.f1) := by
  obtain ⟨ad, c, e, _, hK, hc0⟩ := Kd.C_get h z32 i h0 h1
  have hc : ∀ j u, c[j]? = some u → w.cell? (ad.add (i.toNat * 4 + j)) = some u := hc0
  obtain rfl := k32_open hK
  exact ⟨ad, e, hc 0 _ rfl, by rw [← add_field _ _ 1 (by omega)]; exact hc 1 _ rfl, by rw [← add_field _ _ 2 (by omega)]; exact hc 2 _ rfl, by rw [← add_field _ _ 3 (by omega)]; exact hc 3 _ rfl⟩
structure S34 where
  f0 : Bool
  f1 : Bool
  f2 : S24
  f3 : S32
  f4 : Int
def z34 : S34 := ⟨false, false, z24, z32, (0 : Int)⟩
def k34 : Kd S34 := Kd.iso (Kd.pair Kd.bool (Kd.pair Kd.bool (Kd.pair k24 (Kd.pair k32 (Kd.int .i64))))) (fun x : S34 => (x.f0, x.f1, x.f2, x.f3, x.f4))
theorem k34_open {w : World} {x : S34} {cs : List Value} (h : k34.K w x cs) : cs = [.bool x.f0, .bool x.f1, .int .u64 x.f2.f0, .int .u64 x.f2.f1, .int .u64 x.f3.f0.f0, .int .u64 x.f3.f0.f1, .int .u64 x.f3.f1.f0, .int .u64 x.f3.f1.f1, .int .i64 x.f4] := by
  obtain ⟨_, _, rfl, rfl, ⟨_, _, rfl, rfl, ⟨_, _, rfl, s2, ⟨_, _, rfl, s4, rfl⟩⟩⟩⟩ := h
  obtain rfl := k24_open s2
  obtain rfl := k32_open s4
  exact rfl
theorem k34_openM {w : World} {base : Nat} {ok : Nat → Prop} {x : S34} {cs : List Value} (h : k34.M w base ok x cs) : cs = [.bool x.f0, .bool x.f1, .int .u64 x.f2.f0, .int .u64 x.f2.f1, .int .u64 x.f3.f0.f0, .int .u64 x.f3.f0.f1, .int .u64 x.f3.f1.f0, .int .u64 x.f3.f1.f1, .int .i64 x.f4] := by
  obtain ⟨_, _, rfl, rfl, ⟨_, _, rfl, rfl, ⟨_, _, rfl, s2, ⟨_, _, rfl, s4, rfl⟩⟩⟩⟩ := h
  obtain rfl := k24_openM s2
  obtain rfl := k32_openM s4
  exact rfl
theorem k34_mk (w : World) (x : S34)  : k34.K w x [.bool x.f0, .bool x.f1, .int .u64 x.f2.f0, .int .u64 x.f2.f1, .int .u64 x.f3.f0.f0, .int .u64 x.f3.f0.f1, .int .u64 x.f3.f1.f0, .int .u64 x.f3.f1.f1, .int .i64 x.f4] := ⟨[.bool x.f0], [.bool x.f1, .int .u64 x.f2.f0, .int .u64 x.f2.f1, .int .u64 x.f3.f0.f0, .int .u64 x.f3.f0.f1, .int .u64 x.f3.f1.f0, .int .u64 x.f3.f1.f1, .int .i64 x.f4], rfl, rfl, ⟨[.bool x.f1], [.int .u64 x.f2.f0, .int .u64 x.f2.f1, .int .u64 x.f3.f0.f0, .int .u64 x.f3.f0.f1, .int .u64 x.f3.f1.f0, .int .u64 x.f3.f1.f1, .int .i64 x.f4], rfl, rfl, ⟨[.int .u64 x.f2.f0, .int .u64 x.f2.f1], [.int .u64 x.f3.f0.f0, .int .u64 x.f3.f0.f1, .int .u64 x.f3.f1.f0, .int .u64 x.f3.f1.f1, .int .i64 x.f4], rfl, (k24_mk w x.f2 ), ⟨[.int .u64 x.f3.f0.f0, .int .u64 x.f3.f0.f1, .int .u64 x.f3.f1.f0, .int .u64 x.f3.f1.f1], [.int .i64 x.f4], rfl, (k32_mk w x.f3 ), rfl⟩⟩⟩⟩
theorem k34_mkM (w : World) (base : Nat) (ok : Nat → Prop) (x : S34)  : k34.M w base ok x [.bool x.f0, .bool x.f1, .int .u64 x.f2.f0, .int .u64 x.f2.f1, .int .u64 x.f3.f0.f0, .int .u64 x.f3.f0.f1, .int .u64 x.f3.f1.f0, .int .u64 x.f3.f1.f1, .int .i64 x.f4] := ⟨[.bool x.f0], [.bool x.f1, .int .u64 x.f2.f0, .int .u64 x.f2.f1, .int .u64 x.f3.f0.f0, .int .u64 x.f3.f0.f1, .int .u64 x.f3.f1.f0, .int .u64 x.f3.f1.f1, .int .i64 x.f4], rfl, rfl, ⟨[.bool x.f1], [.int .u64 x.f2.f0, .int .u64 x.f2.f1, .int .u64 x.f3.f0.f0, .int .u64 x.f3.f0.f1, .int .u64 x.f3.f1.f0, .int .u64 x.f3.f1.f1, .int .i64 x.f4], rfl, rfl, ⟨[.int .u64 x.f2.f0, .int .u64 x.f2.f1], [.int .u64 x.f3.f0.f0, .int .u64 x.f3.f0.f1, .int .u64 x.f3.f1.f0, .int .u64 x.f3.f1.f1, .int .i64 x.f4], rfl, (k24_mkM w base ok x.f2 ), ⟨[.int .u64 x.f3.f0.f0, .int .u64 x.f3.f0.f1, .int .u64 x.f3.f1.f0, .int .u64 x.f3.f1.f1], [.int .i64 x.f4], rfl, (k32_mkM w base ok x.f3 ), rfl⟩⟩⟩⟩
def rd_T34 (xs : List S34) (i : Int) : S34 := xs.getD i.toNat z34
theorem at_T34 {w : World} {A : Option Addr} {n : Nat} {xs : List S34} (h : Kd.C k34 w A n xs) (i : Int) (h0 : 0 ≤ i) (h1 : i < n) : ∃ ad , A = some ad ∧ w.cell? (ad.add (i.toNat * 9)) = some (.bool (rd_T34 xs i).f0) ∧ w.cell? ⟨(ad.add (i.toNat * 9)).block, (ad.add (i.toNat * 9)).off + 1, none⟩ = some (.bool (rd_T34 xs i).f1) ∧ w.cell? ⟨(ad.add (i.toNat * 9)).block, (ad.add (i.toNat * 9)).off + 2, none⟩ = some (.int .u64 (rd_T34 xs i).f2.f0) ∧ w.cell? ⟨(ad.add (i.toNat * 9)).block, (ad.add (i.toNat * 9)).off + 3, none⟩ = some (.int .u64 (rd_T34 xs i).f2.f1) ∧ w.cell? ⟨(ad.add (i.toNat * 9)).block, (ad.add (i.toNat * 9)).off + 4, none⟩ = some (.int .u64 (rd_T34 xs i).f3.f0.f0) ∧ w.cell? ⟨(ad.add (i.toNat * 9)).block, (ad.add (i.toNat * 9)).off + 5, none⟩ = some (.int .u64 (rd_T34 xs i).f3.f0.f1) ∧ w.cell? ⟨(ad.add (i.toNat * 9)).block, (ad.add (i.toNat * 9)).off + 6, none⟩ = some (.int .u64 (rd_T34 xs i).f3.f1.f0) ∧ w.cell? ⟨(ad.add (i.toNat * 9)).block, (ad.add (i.toNat * 9)).off + 7, none⟩ = some (.int .u64 (rd_T34 xs i).f3.f1.f1) ∧ w.cell? ⟨(ad.add (i.toNat * 9)).block, (ad.add (i.toNat * 9)).off + 8, none⟩ = some (.int .i64 (rd_T34 xs i).f4) := by
  obtain ⟨ad, c, e, _, hK, hc0⟩ := Kd.C_get h z34 i h0 h1
  have hc : ∀ j u, c[j]? = some u → w.cell? (ad.add (i.toNat * 9 + j)) = some u := hc0
  obtain rfl := k34_open hK
  exact ⟨ad, e, hc 0 _ rfl, by rw [← add_field _ _ 1 (by omega)]; exact hc 1 _ rfl, by rw [← add_field _ _ 2 (by omega)]; exact hc 2 _ rfl, by rw [← add_field _ _ 3 (by omega)]; exact hc 3 _ rfl, by rw [← add_field _ _ 4 (by omega)]; exact hc 4 _ rfl, by rw [← add_field _ _ 5 (by omega)]; exact hc 5 _ rfl, by rw [← add_field _ _ 6 (by omega)]; exact hc 6 _ rfl, by rw [← add_field _ _ 7 (by omega)]; exact hc 7 _ rfl, by rw [← add_field _ _ 8 (by omega)]; exact hc 8 _ rfl⟩
structure S50 where
  f0 : S48
  f1 : S34
def z50 : S50 := ⟨z48, z34⟩
def k50 : Kd S50 := Kd.iso (Kd.pair k48 k34) (fun x : S50 => (x.f0, x.f1))
theorem k50_open {w : World} {x : S50} {cs : List Value} (h : k50.K w x cs) : cs = [.int .u64 x.f0.f0, .int .u64 x.f0.f1, .bool x.f1.f0, .bool x.f1.f1, .int .u64 x.f1.f2.f0, .int .u64 x.f1.f2.f1, .int .u64 x.f1.f3.f0.f0, .int .u64 x.f1.f3.f0.f1, .int .u64 x.f1.f3.f1.f0, .int .u64 x.f1.f3.f1.f1, .int .i64 x.f1.f4] := by
  obtain ⟨_, _, rfl, s0, s2⟩ := h
  obtain rfl := k48_open s0
  obtain rfl := k34_open s2
  exact rfl
theorem k50_openM {w : World} {base : Nat} {ok : Nat → Prop} {x : S50} {cs : List Value} (h : k50.M w base ok x cs) : cs = [.int .u64 x.f0.f0, .int .u64 x.f0.f1, .bool x.f1.f0, .bool x.f1.f1, .int .u64 x.f1.f2.f0, .int .u64 x.f1.f2.f1, .int .u64 x.f1.f3.f0.f0, .int .u64 x.f1.f3.f0.f1, .int .u64 x.f1.f3.f1.f0, .int .u64 x.f1.f3.f1.f1, .int .i64 x.f1.f4] := by
  obtain ⟨_, _, rfl, s0, s2⟩ := h
  obtain rfl := k48_openM s0
  obtain rfl := k34_openM s2
  exact rfl
theorem k50_mk (w : World) (x : S50)  : k50.K w x [.int .u64 x.f0.f0, .int .u64 x.f0.f1, .bool x.f1.f0, .bool x.f1.f1, .int .u64 x.f1.f2.f0, .int .u64 x.f1.f2.f1, .int .u64 x.f1.f3.f0.f0, .int .u64 x.f1.f3.f0.f1, .int .u64 x.f1.f3.f1.f0, .int .u64 x.f1.f3.f1.f1, .int .i64 x.f1.f4] := ⟨[.int .u64 x.f0.f0, .int .u64 x.f0.f1], [.bool x.f1.f0, .bool x.f1.f1, .int .u64 x.f1.f2.f0, .int .u64 x.f1.f2.f1, .int .u64 x.f1.f3.f0.f0, .int .u64 x.f1.f3.f0.f1, .int .u64 x.f1.f3.f1.f0, .int .u64 x.f1.f3.f1.f1, .int .i64 x.f1.f4], rfl, (k48_mk w x.f0 ), (k34_mk w x.f1 )⟩
theorem k50_mkM (w : World) (base : Nat) (ok : Nat → Prop) (x : S50)  : k50.M w base ok x [.int .u64 x.f0.f0, .int .u64 x.f0.f1, .bool x.f1.f0, .bool x.f1.f1, .int .u64 x.f1.f2.f0, .int .u64 x.f1.f2.f1, .int .u64 x.f1.f3.f0.f0, .int .u64 x.f1.f3.f0.f1, .int .u64 x.f1.f3.f1.f0, .int .u64 x.f1.f3.f1.f1, .int .i64 x.f1.f4] := ⟨[.int .u64 x.f0.f0, .int .u64 x.f0.f1], [.bool x.f1.f0, .bool x.f1.f1, .int .u64 x.f1.f2.f0, .int .u64 x.f1.f2.f1, .int .u64 x.f1.f3.f0.f0, .int .u64 x.f1.f3.f0.f1, .int .u64 x.f1.f3.f1.f0, .int .u64 x.f1.f3.f1.f1, .int .i64 x.f1.f4], rfl, (k48_mkM w base ok x.f0 ), (k34_mkM w base ok x.f1 )⟩
def rd_T50 (xs : List S50) (i : Int) : S50 := xs.getD i.toNat z50
theorem at_T50 {w : World} {A : Option Addr} {n : Nat} {xs : List S50} (h : Kd.C k50 w A n xs) (i : Int) (h0 : 0 ≤ i) (h1 : i < n) : ∃ ad , A = some ad ∧ w.cell? (ad.add (i.toNat * 11)) = some (.int .u64 (rd_T50 xs i).f0.f0) ∧ w.cell? ⟨(ad.add (i.toNat * 11)).block, (ad.add (i.toNat * 11)).off + 1, none⟩ = some (.int .u64 (rd_T50 xs i).f0.f1) ∧ w.cell? ⟨(ad.add (i.toNat * 11)).block, (ad.add (i.toNat * 11)).off + 2, none⟩ = some (.bool (rd_T50 xs i).f1.f0) ∧ w.cell? ⟨(ad.add (i.toNat * 11)).block, (ad.add (i.toNat * 11)).off + 3, none⟩ = some (.bool (rd_T50 xs i).f1.f1) ∧ w.cell? ⟨(ad.add (i.toNat * 11)).block, (ad.add (i.toNat * 11)).off + 4, none⟩ = some (.int .u64 (rd_T50 xs i).f1.f2.f0) ∧ w.cell? ⟨(ad.add (i.toNat * 11)).block, (ad.add (i.toNat * 11)).off + 5, none⟩ = some (.int .u64 (rd_T50 xs i).f1.f2.f1) ∧ w.cell? ⟨(ad.add (i.toNat * 11)).block, (ad.add (i.toNat * 11)).off + 6, none⟩ = some (.int .u64 (rd_T50 xs i).f1.f3.f0.f0) ∧ w.cell? ⟨(ad.add (i.toNat * 11)).block, (ad.add (i.toNat * 11)).off + 7, none⟩ = some (.int .u64 (rd_T50 xs i).f1.f3.f0.f1) ∧ w.cell? ⟨(ad.add (i.toNat * 11)).block, (ad.add (i.toNat * 11)).off + 8, none⟩ = some (.int .u64 (rd_T50 xs i).f1.f3.f1.f0) ∧ w.cell? ⟨(ad.add (i.toNat * 11)).block, (ad.add (i.toNat * 11)).off + 9, none⟩ = some (.int .u64 (rd_T50 xs i).f1.f3.f1.f1) ∧ w.cell? ⟨(ad.add (i.toNat * 11)).block, (ad.add (i.toNat * 11)).off + 10, none⟩ = some (.int .i64 (rd_T50 xs i).f1.f4) := by
  obtain ⟨ad, c, e, _, hK, hc0⟩ := Kd.C_get h z50 i h0 h1
  have hc : ∀ j u, c[j]? = some u → w.cell? (ad.add (i.toNat * 11 + j)) = some u := hc0
  obtain rfl := k50_open hK
  exact ⟨ad, e, hc 0 _ rfl, by rw [← add_field _ _ 1 (by omega)]; exact hc 1 _ rfl, by rw [← add_field _ _ 2 (by omega)]; exact hc 2 _ rfl, by rw [← add_field _ _ 3 (by omega)]; exact hc 3 _ rfl, by rw [← add_field _ _ 4 (by omega)]; exact hc 4 _ rfl, by rw [← add_field _ _ 5 (by omega)]; exact hc 5 _ rfl, by rw [← add_field _ _ 6 (by omega)]; exact hc 6 _ rfl, by rw [← add_field _ _ 7 (by omega)]; exact hc 7 _ rfl, by rw [← add_field _ _ 8 (by omega)]; exact hc 8 _ rfl, by rw [← add_field _ _ 9 (by omega)]; exact hc 9 _ rfl, by rw [← add_field _ _ 10 (by omega)]; exact hc 10 _ rfl⟩
end Go.Proofs.Ytkleiaeihihjnaa.MP
