/- Plain facts that the proof of ImageSets needs. -/
import Derived.Test.YtldmfaaoifjhaaaK0
import Derived.Laws.Bits64b
import Derived.Test.YtldmfaaoifjhaaaMPx2
import Derived.Test.YtldmfaaoifjhaaaMPx3
set_option linter.unusedVariables false
set_option linter.unusedSimpArgs false
set_option linter.unusedSectionVars false
namespace Go.Proofs.Ytldmfaaoifjhaaa.Med
open Go.RowKit Go.Proofs.YtldmfaaoifjhaaaW.PrintWords Go.Proofs.YtldmfaaoifjhaaaW.PrintMore Go.Proofs.Ytldmfaaoifjhaaa.MP
/-- As Option.bind_some, but no rfl lemma: the kernel then unfolds nothing. -/
theorem bnd {α β : Type} (a : α) (f : α → Option β) : (some a).bind f = f a := by
  have h := Option.bind_some a f
  exact h
theorem w64 {x : Int} (h0 : -9223372036854775808 ≤ x) (h1 : x ≤ 9223372036854775807) : wrap64 x = x := by unfold wrap64; omega
theorem wu64 {x : Int} (h0 : 0 ≤ x) (h1 : x < 18446744073709551616) : IntKind.u64.wrap x = x := by
  have : IntKind.u64.wrap x = x % 18446744073709551616 := by rfl
  omega
theorem wf_u64 {x : Int} (h : (Lit.int .u64 x).wf = true) : ∃ n : Nat, x = (n : Int) ∧ n < 18446744073709551616 := by
  have h0 : IntKind.u64.min = 0 := by decide
  have h1 : IntKind.u64.max = 18446744073709551615 := by decide
  simp [Lit.wf, h0, h1] at h
  exact ⟨x.toNat, by omega, by omega⟩
theorem log2_iff {n d : Nat} (hn : n ≠ 0) : n.log2 = d ↔ 2 ^ d ≤ n ∧ n < 2 ^ (d + 1) := Nat.log2_eq_iff hn
theorem log2_lo {n : Nat} (hn : n ≠ 0) : 2 ^ n.log2 ≤ n := Nat.log2_self_le hn
theorem log2_hi (n : Nat) : n < 2 ^ (n.log2 + 1) := Nat.lt_log2_self
theorem log2_one : Nat.log2 1 = 0 := by decide
theorem pow_pos2 (k : Nat) : 0 < 2 ^ k := Nat.two_pow_pos k
theorem pow_split {a b : Nat} (h : a ≤ b) : 2 ^ b = 2 ^ a * 2 ^ (b - a) := by rw [← Nat.pow_add]; congr 1; omega
theorem pow_mono {a b : Nat} (h : a ≤ b) : 2 ^ a ≤ 2 ^ b := Nat.pow_le_pow_right (by omega) h
theorem pow_le_32 {d : Nat} (h : d ≤ 33) : 2 ^ d ≤ 8589934592 := pow_mono (b := 33) h
theorem log2_div {n k : Nat} (hn : n ≠ 0) (hk : k ≤ n.log2) : (n / 2 ^ k).log2 = n.log2 - k ∧ n / 2 ^ k ≠ 0 := by
  have h1 := log2_lo hn
  have h2 := log2_hi n
  have hp := pow_pos2 k
  rw [pow_split hk] at h1
  have e : n.log2 + 1 = k + (n.log2 - k + 1) := by omega
  rw [e, Nat.pow_add] at h2
  have g1 : 2 ^ (n.log2 - k) ≤ n / 2 ^ k := (Nat.le_div_iff_mul_le hp).2 (by rw [Nat.mul_comm]; exact h1)
  have g2 : n / 2 ^ k < 2 ^ (n.log2 - k + 1) := Nat.div_lt_of_lt_mul h2
  have g3 : n / 2 ^ k ≠ 0 := by have := pow_pos2 (n.log2 - k); omega
  exact ⟨(log2_iff g3).2 ⟨g1, g2⟩, g3⟩
/-- The node above n, of depth d. -/
def anc (n d : Nat) : Nat := n / 2 ^ (n.log2 - d)
theorem anc_log2 {n d : Nat} (hn : n ≠ 0) (hd : d ≤ n.log2) : (anc n d).log2 = d := by
  have := (log2_div hn (k := n.log2 - d) (by omega)).1
  unfold anc; omega
theorem anc_anc {n d e : Nat} (hn : n ≠ 0) (hd : d ≤ n.log2) (he : e ≤ d) : anc (anc n d) e = anc n e := by
  unfold anc
  rw [show (n / 2 ^ (n.log2 - d)).log2 = d from anc_log2 hn hd, Nat.div_div_eq_div_mul, ← Nat.pow_add]
  congr 2; omega
/-- a is above b. -/
def Abv (a b : Nat) : Prop := a.log2 ≤ b.log2 ∧ anc b a.log2 = a
instance (a b : Nat) : Decidable (Abv a b) := inferInstanceAs (Decidable (_ ∧ _))
theorem Abv.trans {a b c : Nat} (hc : c ≠ 0) (h : Abv a b) (k : Abv b c) : Abv a c := by
  refine ⟨Nat.le_trans h.1 k.1, ?_⟩
  rw [← anc_anc hc k.1 h.1, k.2]; exact h.2
/-- The leaves below n, of a tree of height h, as nodes: from lf up to (not with) rt. -/
def lf (h n : Nat) : Nat := n * 2 ^ (h - n.log2)
def rt (h n : Nat) : Nat := (n + 1) * 2 ^ (h - n.log2)
theorem rt_eq (h n : Nat) : rt h n = lf h n + 2 ^ (h - n.log2) := by unfold rt lf; rw [Nat.add_mul, Nat.one_mul]
theorem lf_lt_rt (h n : Nat) : lf h n < rt h n := by have := pow_pos2 (h - n.log2); rw [rt_eq]; omega
theorem lf_ge {h n : Nat} (hn : n ≠ 0) (hd : n.log2 ≤ h) : 2 ^ h ≤ lf h n := by
  unfold lf; rw [pow_split hd]; exact Nat.mul_le_mul_right _ (log2_lo hn)
theorem rt_le {h n : Nat} (hd : n.log2 ≤ h) : rt h n ≤ 2 ^ (h + 1) := by
  have e : h + 1 = (n.log2 + 1) + (h - n.log2) := by omega
  unfold rt; rw [e, Nat.pow_add]; exact Nat.mul_le_mul_right _ (log2_hi n)
/-- How many binary digits. -/
def sz (n : Nat) : Nat := if n = 0 then 0 else n.log2 + 1
theorem sz_div {n k : Nat} (h : 2 ^ k ≤ n) : sz n = sz (n / 2 ^ k) + k := by
  have hp := pow_pos2 k
  have hn : n ≠ 0 := by omega
  have hk : k ≤ n.log2 := (Nat.le_log2 hn).2 h
  obtain ⟨a, b⟩ := log2_div hn hk
  unfold sz; rw [if_neg hn, if_neg b, a]; omega
theorem sz_le {n k : Nat} (h : n < 2 ^ k) : sz n ≤ k := by
  unfold sz; split
  · omega
  · rename_i hn; have := (Nat.log2_lt hn).2 h; omega
/-- There is such a node. -/
def Nd (h n : Nat) : Prop := 1 ≤ h ∧ h ≤ 32 ∧ n ≠ 0 ∧ n.log2 ≤ h
instance (h n : Nat) : Decidable (Nd h n) := inferInstanceAs (Decidable (_ ∧ _))
theorem Nd.lt {h n : Nat} (d : Nd h n) : n < 2 ^ (h + 1) := Nat.lt_of_lt_of_le (log2_hi n) (pow_mono (by have := d.2.2.2; omega))
theorem nd_root {h : Nat} : Nd h 1 ↔ 1 ≤ h ∧ h ≤ 32 := by unfold Nd; rw [log2_one]; omega
/-- There is such a height. -/
def Hi (h : Int) : Prop := 1 ≤ h ∧ h ≤ 32
instance (h : Int) : Decidable (Hi h) := inferInstanceAs (Decidable (_ ∧ _))
theorem hi_iff (h : Int) : Hi h ↔ 1 ≤ h ∧ h ≤ 32 := Iff.rfl
theorem nd_iff (h n : Nat) : Nd h n ↔ 1 ≤ h ∧ h ≤ 32 ∧ n ≠ 0 ∧ n.log2 ≤ h := Iff.rfl
/-- A height's step. -/
def stp (h : Nat) : Nat := if h ≤ 1 then 1 else if h ≤ 4 then 2 else if h ≤ 9 then 3 else if h ≤ 16 then 4 else if h ≤ 25 then 5 else 6
theorem root_lt : (1 : Nat) < 18446744073709551616 := by omega
theorem nd_root' (h : Int) : Nd h.toNat 1 ↔ Hi h := by rw [nd_root, hi_iff]; omega
/-- The least special depth above one; which ones are special. -/
def nxt (h i : Nat) : Nat := min ((i / stp h + 1) * stp h) h
/-- The first leaf below n, and the last one, as leaves' numbers; how many there are. -/
def lo (h n : Nat) : Nat := lf h n - 2 ^ h
def hi (h n : Nat) : Nat := rt h n - 1 - 2 ^ h
theorem pow_le_h {h : Nat} (hh : h ≤ 32) : 2 ^ h ≤ 4294967296 := pow_mono (b := 32) hh
/-- Spans stand in order, apart from each other, each of leaves. -/
def Rise (m : Nat) : Nat → List (Nat × Nat) → Prop
  | _, [] => True
  | from_, x :: l => from_ ≤ x.1 ∧ x.1 ≤ x.2 ∧ x.2 < m ∧ Rise m (x.2 + 1) l
theorem Rise.mono {m : Nat} {l : List (Nat × Nat)} {a b : Nat} (h : Rise m a l) (hb : b ≤ a) : Rise m b l := by
  cases l with
  | nil => trivial
  | cons x l => exact ⟨Nat.le_trans hb h.1, h.2⟩
/-- There is such a leaf. -/
def Lfi (h : Int) (p : Nat) : Prop := Hi h ∧ p < 2 ^ h.toNat
instance (h : Int) (p : Nat) : Decidable (Lfi h p) := inferInstanceAs (Decidable (_ ∧ _))
def ints (l : List Nat) : List Int := l.map Int.ofNat
theorem ints_len (l : List Nat) : (ints l).length = l.length := by simp [ints]
theorem ints_rd {l : List Nat} {i : Nat} (h : i < l.length) : rd (ints l) (i : Int) = ((l[i] : Nat) : Int) := by
  unfold rd ints
  simp [List.getD_eq_getElem?_getD, h]
set_option maxRecDepth 100000 in
theorem len8_all : ∀ i : Fin 256, bt (⟨#[0, 1, 2, 2, 3, 3, 3, 3, 4, 4, 4, 4, 4, 4, 4, 4, 5, 5, 5, 5, 5, 5, 5, 5, 5, 5, 5, 5, 5, 5, 5, 5, 6, 6, 6, 6, 6, 6, 6, 6, 6, 6, 6, 6, 6, 6, 6, 6, 6, 6, 6, 6, 6, 6, 6, 6, 6, 6, 6, 6, 6, 6, 6, 6, 7, 7, 7, 7, 7, 7, 7, 7, 7, 7, 7, 7, 7, 7, 7, 7, 7, 7, 7, 7, 7, 7, 7, 7, 7, 7, 7, 7, 7, 7, 7, 7, 7, 7, 7, 7, 7, 7, 7, 7, 7, 7, 7, 7, 7, 7, 7, 7, 7, 7, 7, 7, 7, 7, 7, 7, 7, 7, 7, 7, 7, 7, 7, 7, 8, 8, 8, 8, 8, 8, 8, 8, 8, 8, 8, 8, 8, 8, 8, 8, 8, 8, 8, 8, 8, 8, 8, 8, 8, 8, 8, 8, 8, 8, 8, 8, 8, 8, 8, 8, 8, 8, 8, 8, 8, 8, 8, 8, 8, 8, 8, 8, 8, 8, 8, 8, 8, 8, 8, 8, 8, 8, 8, 8, 8, 8, 8, 8, 8, 8, 8, 8, 8, 8, 8, 8, 8, 8, 8, 8, 8, 8, 8, 8, 8, 8, 8, 8, 8, 8, 8, 8, 8, 8, 8, 8, 8, 8, 8, 8, 8, 8, 8, 8, 8, 8, 8, 8, 8, 8, 8, 8, 8, 8, 8, 8, 8, 8, 8, 8, 8, 8, 8, 8, 8, 8, 8, 8, 8, 8, 8, 8]⟩ : ByteArray) (i.val : Int) = (sz i.val : Int) := by decide +kernel
set_option maxRecDepth 100000 in
theorem len8 {i : Nat} (h : i < 256) : bt (⟨#[0, 1, 2, 2, 3, 3, 3, 3, 4, 4, 4, 4, 4, 4, 4, 4, 5, 5, 5, 5, 5, 5, 5, 5, 5, 5, 5, 5, 5, 5, 5, 5, 6, 6, 6, 6, 6, 6, 6, 6, 6, 6, 6, 6, 6, 6, 6, 6, 6, 6, 6, 6, 6, 6, 6, 6, 6, 6, 6, 6, 6, 6, 6, 6, 7, 7, 7, 7, 7, 7, 7, 7, 7, 7, 7, 7, 7, 7, 7, 7, 7, 7, 7, 7, 7, 7, 7, 7, 7, 7, 7, 7, 7, 7, 7, 7, 7, 7, 7, 7, 7, 7, 7, 7, 7, 7, 7, 7, 7, 7, 7, 7, 7, 7, 7, 7, 7, 7, 7, 7, 7, 7, 7, 7, 7, 7, 7, 7, 8, 8, 8, 8, 8, 8, 8, 8, 8, 8, 8, 8, 8, 8, 8, 8, 8, 8, 8, 8, 8, 8, 8, 8, 8, 8, 8, 8, 8, 8, 8, 8, 8, 8, 8, 8, 8, 8, 8, 8, 8, 8, 8, 8, 8, 8, 8, 8, 8, 8, 8, 8, 8, 8, 8, 8, 8, 8, 8, 8, 8, 8, 8, 8, 8, 8, 8, 8, 8, 8, 8, 8, 8, 8, 8, 8, 8, 8, 8, 8, 8, 8, 8, 8, 8, 8, 8, 8, 8, 8, 8, 8, 8, 8, 8, 8, 8, 8, 8, 8, 8, 8, 8, 8, 8, 8, 8, 8, 8, 8, 8, 8, 8, 8, 8, 8, 8, 8, 8, 8, 8, 8, 8, 8, 8, 8, 8, 8]⟩ : ByteArray) (i : Int) = (sz i : Int) := len8_all ⟨i, h⟩
set_option maxRecDepth 100000 in
theorem len64_j (k n c : Nat) (hn : n < 4294967296) (hc : c ≤ 32) : bits_Len64.j0 (k + 1) (n : Int) (c : Int) = some ((c + sz n : Nat) : Int) := by
  have h32 : sz n ≤ 32 := sz_le hn
  simp only [bits_Len64.j0]
  by_cases h1 : 65536 ≤ n
  · have e1 := sz_div (n := n) (k := 16) h1
    rw [if_pos (by omega)]
    by_cases h2 : 256 ≤ n / 65536
    · have e2 := sz_div (n := n / 65536) (k := 8) h2
      have i1 : n / 65536 / 256 < 256 := by omega
      have e3 : ((n : Int) / 65536 / 256) % 256 = ((n / 65536 / 256 : Nat) : Int) := by omega
      rw [if_pos (by omega), e3, if_pos (by omega), if_pos (by omega), len8 i1]
      have e1' : sz n = sz (n / 65536) + 16 := e1
      have e2' : sz (n / 65536) = sz (n / 65536 / 256) + 8 := e2
      rw [w64 (x := (c : Int) + 16) (by omega) (by omega), w64 (x := (c : Int) + 16 + 8) (by omega) (by omega), w64 (x := (sz (n / 65536 / 256) : Int)) (by omega) (by omega), w64 (by omega) (by omega)]
      congr 1; omega
    · have i1 : n / 65536 < 256 := by omega
      have e3 : ((n : Int) / 65536) % 256 = ((n / 65536 : Nat) : Int) := by omega
      have e1' : sz n = sz (n / 65536) + 16 := e1
      rw [if_neg (by omega), e3, if_pos (by omega), if_pos (by omega), len8 i1]
      rw [w64 (x := (c : Int) + 16) (by omega) (by omega), w64 (x := (sz (n / 65536) : Int)) (by omega) (by omega), w64 (by omega) (by omega)]
      congr 1; omega
  · rw [if_neg (by omega)]
    by_cases h2 : 256 ≤ n
    · have e2 : sz n = sz (n / 256) + 8 := sz_div (n := n) (k := 8) h2
      have i1 : n / 256 < 256 := by omega
      have e3 : ((n : Int) / 256) % 256 = ((n / 256 : Nat) : Int) := by omega
      rw [if_pos (by omega), e3, if_pos (by omega), if_pos (by omega), len8 i1]
      rw [w64 (x := (c : Int) + 8) (by omega) (by omega), w64 (x := (sz (n / 256) : Int)) (by omega) (by omega), w64 (by omega) (by omega)]
      congr 1; omega
    · have e3 : (n : Int) % 256 = (n : Int) := by omega
      rw [if_neg (by omega), e3, if_pos (by omega), if_pos (by omega), len8 (by omega)]
      rw [w64 (x := (sz n : Int)) (by omega) (by omega), w64 (by omega) (by omega)]
      congr 1
theorem len64 {n : Nat} (hn : n < 18446744073709551616) (k : Nat) : bits_Len64.f (k + 1) (n : Int) = some (sz n : Int) := by
  unfold bits_Len64.f
  by_cases h : 4294967296 ≤ n
  · have e : sz n = sz (n / 4294967296) + 32 := sz_div (n := n) (k := 32) h
    have := len64_j k (n / 4294967296) 32 (by omega) (by omega)
    rw [if_pos (by omega), show (n : Int) / 4294967296 = ((n / 4294967296 : Nat) : Int) by omega, show (32 : Int) = ((32 : Nat) : Int) by rfl, this]
    congr 2; omega
  · have := len64_j k n 0 (by omega) (by omega)
    rw [if_neg (by omega), show (0 : Int) = ((0 : Nat) : Int) by rfl, this]
    simp
theorem depth_eq {n : Nat} (h0 : n ≠ 0) (hn : n < 18446744073709551616) (k : Nat) : node_depth.f (k + 1) (n : Int) = some (n.log2 : Int) := by
  have := sz_le (k := 64) hn
  unfold node_depth.f
  rw [len64 hn]; simp only [Option.bind_some]
  rw [w64 (by omega) (by omega)]
  unfold sz; rw [if_neg h0]; congr 1; omega
theorem high_eq (h : Int) : node_high.f h = some (decide (Hi h)) := by
  unfold node_high.f
  by_cases h1 : h ≥ 1
  · rw [if_pos h1]; congr 1; rw [decide_eq_decide, hi_iff]; omega
  · rw [if_neg h1]; congr 1; symm; rw [decide_eq_false_iff_not, hi_iff]; omega
theorem check_eq (h : Int) {n : Nat} (hn : n < 18446744073709551616) (k : Nat) : node_Check.f (k + 1) h (n : Int) = some (if Nd h.toNat n then 0 else 1) := by
  unfold node_Check.f
  rw [high_eq]; simp only [Option.bind_some]
  by_cases h1 : Hi h
  · rw [decide_eq_true h1, if_pos rfl]
    rw [hi_iff] at h1
    by_cases h2 : n = 0
    · rw [if_pos (by omega), if_neg (by rw [nd_iff]; omega)]
    · rw [if_neg (by omega), depth_eq h2 hn]; simp only [Option.bind_some]
      by_cases h3 : (n.log2 : Int) > h
      · rw [if_pos h3, if_neg (by rw [nd_iff]; omega)]
      · rw [if_neg h3, if_pos (by rw [nd_iff]; omega)]
  · rw [decide_eq_false h1, if_neg (by simp), if_neg (by rw [nd_iff]; rw [hi_iff] at h1; omega)]
theorem shr_eq (n : Nat) {k : Nat} (hk : k ≤ 64) : shr .u64 (n : Int) (k : Int) = ((n / 2 ^ k : Nat) : Int) := by
  unfold shr
  have : min ((k : Int)).toNat (IntKind.bits .u64) = k := by
    show min ((k : Int)).toNat 64 = k
    omega
  rw [this]; push_cast; rfl
theorem checkRoot_eq (h : Int) (k : Nat) : node_Check.f (k + 1) h 1 = some (if Hi h then 0 else 1) := by
  have := check_eq h root_lt k
  rw [show ((1 : Nat) : Int) = 1 by rfl] at this
  rw [this]
  by_cases h1 : Hi h
  · rw [if_pos h1, if_pos ((nd_root' h).2 h1)]
  · rw [if_neg h1, if_neg (fun z => h1 ((nd_root' h).1 z))]
theorem shl_eq {n k : Nat} (hk : k ≤ 64) (hb : n * 2 ^ k < 18446744073709551616) : shl .u64 (n : Int) (k : Int) = ((n * 2 ^ k : Nat) : Int) := by
  unfold shl
  have : min ((k : Int)).toNat (IntKind.bits .u64) = k := by
    show min ((k : Int)).toNat 64 = k
    omega
  have e : (n : Int) * 2 ^ k = ((n * 2 ^ k : Nat) : Int) := by push_cast; rfl
  rw [this, e, wu64 (by omega) (by omega)]
theorem nLeaf_eq (h : Int) {p : Nat} (hp : p < 18446744073709551616) : node_Leaf.f h (p : Int) = some (if Hi h then (if p < 2 ^ h.toNat then ((2 ^ h.toNat + p : Nat) : Int) else 0, if p < 2 ^ h.toNat then 0 else 4) else (0, 1)) := by
  unfold node_Leaf.f
  rw [high_eq]; simp only [Option.bind_some]
  by_cases h1 : Hi h
  · have hh := h1
    rw [hi_iff] at hh
    rw [decide_eq_true h1, if_pos rfl, if_pos (by omega), if_pos h1]
    have e : ((h.toNat : Nat) : Int) = h := by omega
    generalize hH : h.toNat = H at *
    subst e
    rw [shr_eq p (by omega)]
    have hz : 0 < 2 ^ H := pow_pos2 H
    by_cases c : p < 2 ^ H
    · have e1 : shl .u64 1 (H : Int) = ((2 ^ H : Nat) : Int) := by
        have hpH : 2 ^ H ≤ 4294967296 := pow_le_h (by omega)
        have := shl_eq (n := 1) (k := H) (by omega) (by omega)
        rw [Nat.one_mul] at this; exact this
      rw [Nat.div_eq_of_lt c, if_neg (by omega), e1, if_pos c, if_pos c]
      have hpH : 2 ^ H ≤ 4294967296 := pow_le_h (by omega)
      congr 2
      rw [Go.bits_or_u64_nat _ _ (by omega) (by omega)]
      have : 2 ^ H ||| p = 2 ^ H + p := by
        have := Nat.two_pow_add_eq_or_of_lt c 1
        rw [Nat.mul_one] at this; exact this.symm
      rw [this]
    · have : 1 ≤ p / 2 ^ H := (Nat.le_div_iff_mul_le hz).2 (by omega)
      rw [if_pos (by omega), if_neg c, if_neg c]
  · rw [decide_eq_false h1, if_neg (by simp), if_neg h1]
theorem lis_eq (h : Int) {p : Nat} (hp : p < 18446744073709551616) : leaf_is.f h (p : Int) = some (decide (Lfi h p)) := by
  unfold leaf_is.f
  rw [nLeaf_eq h hp]; simp only [Option.bind_some]
  by_cases h1 : Hi h
  · rw [if_pos h1]
    by_cases h2 : p < 2 ^ h.toNat
    · rw [if_pos h2, decide_eq_true ⟨h1, h2⟩]; simp [h2]
    · rw [if_neg h2, decide_eq_false (fun z => h2 z.2)]; simp [h2]
  · rw [if_neg h1, decide_eq_false (fun z => h1 z.1)]; rfl
def Up (l : List Nat) : Prop := l.Pairwise (· < ·)
theorem Up.tail {a : Nat} {l : List Nat} (h : Up (a :: l)) : Up l := (List.pairwise_cons.1 h).2
theorem Up.lt {a : Nat} {l : List Nat} (h : Up (a :: l)) {x : Nat} (hx : x ∈ l) : a < x := (List.pairwise_cons.1 h).1 x hx
theorem ints_of (l : List Int) (h : ∀ x ∈ l, (Lit.int .u64 x).wf = true) : ∃ m : List Nat, l = ints m ∧ ∀ x ∈ m, x < 18446744073709551616 := by
  refine ⟨l.map Int.toNat, ?_, ?_⟩
  · unfold ints
    rw [List.map_map]
    symm
    rw [List.map_congr_left (g := id)]
    · simp
    · intro x hx
      obtain ⟨n, rfl, _⟩ := wf_u64 (h x hx)
      simp
  · intro x hx
    obtain ⟨y, hy, rfl⟩ := List.mem_map.1 hx
    obtain ⟨n, rfl, hn⟩ := wf_u64 (h y hy)
    simpa using hn
theorem ints_app (a b : List Nat) : ints a ++ ints b = ints (a ++ b) := by simp [ints]
theorem ints_one (n : Nat) : [(n : Int)] = ints [n] := rfl
theorem ints_nil : ([] : List Int) = ints [] := rfl
theorem ints_take (l : List Nat) (n : Nat) : (ints l).take n = ints (l.take n) := by simp [ints]
theorem ints_drop (l : List Nat) (n : Nat) : (ints l).drop n = ints (l.drop n) := by simp [ints]
/-- A set may be. -/
def Lst (h : Int) (l : List Nat) : Prop := Hi h ∧ l.length ≤ 1024 ∧ (∀ i ∈ l, i < 2 ^ h.toNat) ∧ Up l
instance (l : List Nat) : Decidable (Up l) := inferInstanceAs (Decidable (l.Pairwise (· < ·)))
instance (h : Int) (l : List Nat) : Decidable (Lst h l) := inferInstanceAs (Decidable (_ ∧ _))
theorem lst_iff (h : Int) (l : List Nat) : Lst h l ↔ Hi h ∧ l.length ≤ 1024 ∧ (∀ i ∈ l, i < 2 ^ h.toNat) ∧ Up l := Iff.rfl
/-- From a place on: each a leaf, above the one ahead of it. -/
def okf (H : Nat) : Option Nat → List Nat → Bool
  | _, [] => true
  | p, i :: l => decide (i < 2 ^ H) && (match p with | none => true | some q => decide (q < i)) && okf H (some i) l
theorem okf_some (H : Nat) : ∀ (l : List Nat) (q : Nat), okf H (some q) l = true ↔ (∀ i ∈ l, i < 2 ^ H) ∧ Up l ∧ ∀ i ∈ l, q < i
  | [], q => by simp [okf, Up]
  | i :: l, q => by
    simp only [okf, Bool.and_eq_true, decide_eq_true_iff, okf_some H l i]
    constructor
    · rintro ⟨⟨a, b⟩, c, d, e⟩
      refine ⟨?_, List.pairwise_cons.2 ⟨e, d⟩, ?_⟩
      · intro x hx; rcases List.mem_cons.1 hx with rfl | hx
        · exact a
        · exact c x hx
      · intro x hx; rcases List.mem_cons.1 hx with rfl | hx
        · exact b
        · have := e x hx; omega
    · rintro ⟨a, b, c⟩
      exact ⟨⟨a i (by simp), c i (by simp)⟩, fun x hx => a x (by simp [hx]), b.tail, fun x hx => b.lt hx⟩
theorem okf_none (H : Nat) (l : List Nat) : okf H none l = true ↔ (∀ i ∈ l, i < 2 ^ H) ∧ Up l := by
  cases l with
  | nil => simp [okf, Up]
  | cons i l =>
    simp only [okf, Bool.and_eq_true, decide_eq_true_iff, okf_some H l i, and_true]
    constructor
    · rintro ⟨a, c, d, e⟩
      refine ⟨?_, List.pairwise_cons.2 ⟨e, d⟩⟩
      intro x hx; rcases List.mem_cons.1 hx with rfl | hx
      · exact a
      · exact c x hx
    · rintro ⟨a, b⟩
      exact ⟨a i (by simp), fun x hx => a x (by simp [hx]), b.tail, fun x hx => b.lt hx⟩
def bef (l : List Nat) (i : Nat) : Option Nat := if i = 0 then none else l[i - 1]?
theorem bef_succ {l : List Nat} {i : Nat} (hi : i < l.length) : bef l (i + 1) = some l[i] := by unfold bef; rw [if_neg (by omega)]; simp [hi]
theorem lCheck_l (h : Int) (hh : Hi h) (l : List Nat) (hb : ∀ x ∈ l, x < 18446744073709551616) (hn : l.length < 4611686018427387904) : ∀ (q i k : Nat), i + q = l.length → q < k →
    leaf_Check.l0 k h (ints l) (ints l) (l.length : Int) (i : Int) = some (if okf h.toNat (bef l i) (l.drop i) = true then 0 else 1) := by
  intro q
  induction q with
  | zero =>
    intro i k hi hk
    obtain ⟨k, rfl⟩ : ∃ m, k = m + 1 := ⟨k - 1, by omega⟩
    simp only [leaf_Check.l0]
    rw [if_neg (by omega), List.drop_of_length_le (by omega)]; simp [okf]
  | succ q ih =>
    intro i k hi hk
    obtain ⟨k, rfl⟩ : ∃ m, k = m + 1 := ⟨k - 1, by omega⟩
    have d1 : l.drop i = l[i] :: l.drop (i + 1) := List.drop_eq_getElem_cons (by omega)
    have lb := hb l[i] (List.getElem_mem (by omega))
    have r := ih (i + 1) k (by omega) (by omega)
    rw [bef_succ (by omega)] at r
    simp only [leaf_Check.l0]
    rw [if_pos (by omega), if_pos (by omega), if_pos (by rw [ints_len]; omega), ints_rd (show i < l.length by omega), lis_eq h lb]; simp only [bnd]
    rw [w64 (x := (i : Int) + 1) (by omega) (by omega), show (i : Int) + 1 = ((i + 1 : Nat) : Int) by omega, r, d1]
    by_cases c : l[i] < 2 ^ h.toNat
    · rw [decide_eq_true (show Lfi h l[i] from ⟨hh, c⟩), if_pos rfl]
      by_cases i0 : i = 0
      · subst i0
        rw [if_neg (by omega)]
        simp only [okf, bef, if_true, decide_eq_true c, Bool.true_and, Bool.and_true]
      · have ei : (i : Int) - 1 = ((i - 1 : Nat) : Int) := by omega
        rw [if_pos (by omega), w64 (x := (i : Int) - 1) (by omega) (by omega), ei, if_pos (by omega), if_pos (by rw [ints_len]; omega), ints_rd (show i - 1 < l.length by omega)]
        have eb : bef l i = some l[i - 1] := by unfold bef; rw [if_neg i0]; simp [show i - 1 < l.length by omega]
        rw [eb]
        by_cases g : l[i - 1] < l[i]
        · rw [if_neg (by omega)]
          simp only [okf, decide_eq_true c, decide_eq_true g, Bool.true_and, Bool.and_true]
        · rw [if_pos (by omega)]
          simp [okf, g]
    · rw [decide_eq_false (show ¬ Lfi h l[i] from fun z => c z.2), if_neg (by simp)]
      simp [okf, c]
theorem lCheck_eq (h : Int) {l : List Nat} (hb : ∀ x ∈ l, x < 18446744073709551616) (hn : l.length < 4611686018427387904) {k : Nat} (hk : l.length + 2 ≤ k) :
    leaf_Check.f k h (ints l) = some (if Lst h l then 0 else 1) := by
  obtain ⟨k, rfl⟩ : ∃ m, k = m + 1 := ⟨k - 1, by omega⟩
  unfold leaf_Check.f
  rw [checkRoot_eq]; simp only [bnd]
  by_cases hh : Hi h
  · rw [if_pos hh, if_pos rfl, ints_len]
    simp only [leaf_Check.j0]
    by_cases c : l.length ≤ 1024
    · rw [decide_eq_false (by omega), if_neg (by simp), ints_len]
      have := lCheck_l h hh l hb hn l.length 0 k (by omega) (by omega)
      rw [show ((0 : Nat) : Int) = 0 from rfl, List.drop_zero, show bef l 0 = none from rfl] at this
      rw [this]
      by_cases o : okf h.toNat none l = true
      · have o' := (okf_none _ _).1 o
        rw [if_pos o, if_pos (show Lst h l from ⟨hh, c, o'.1, o'.2⟩)]
      · rw [if_neg o, if_neg (show ¬ Lst h l from fun z => o ((okf_none _ _).2 ⟨z.2.2.1, z.2.2.2⟩))]
    · rw [decide_eq_true (by omega), if_pos rfl, if_neg (show ¬ Lst h l from fun z => c z.2.1)]
  · rw [if_neg hh, if_neg (by omega)]
    simp only [leaf_Check.j0, if_true]
    rw [if_neg (show ¬ Lst h l from fun z => hh z.1)]
/-- A number's octets, the lowest one first. -/
def oct : Nat → Nat → List Nat
  | _, 0 => []
  | n, m + 1 => n % 256 :: oct (n / 256) m
theorem oct_len : ∀ (m n : Nat), (oct n m).length = m
  | 0, _ => rfl
  | m + 1, n => by rw [oct, List.length_cons, oct_len m]
/-- The number of octets. -/
def nm : List Nat → Nat
  | [] => 0
  | c :: l => c + 256 * nm l
theorem nm_oct : ∀ (m n : Nat), n < 256 ^ m → nm (oct n m) = n
  | 0, n, h => by rw [Nat.pow_zero] at h; rw [oct, nm]; omega
  | m + 1, n, h => by rw [oct, nm, nm_oct m _ (by rw [Nat.pow_succ] at h; omega)]; omega
theorem nm_lt : ∀ (l : List Nat), (∀ c ∈ l, c < 256) → nm l < 256 ^ l.length
  | [], _ => by simp [nm]
  | c :: l, h => by
    have hc := h c List.mem_cons_self
    have := nm_lt l fun d hd => h d (List.mem_cons_of_mem _ hd)
    rw [nm, List.length_cons, Nat.pow_succ]; omega
theorem oct_lt : ∀ (m n : Nat), ∀ c ∈ oct n m, c < 256
  | 0, _ => by simp [oct]
  | m + 1, n => by
    intro c hc
    rw [oct] at hc
    rcases List.mem_cons.1 hc with rfl | hc
    · exact Nat.mod_lt _ (by decide)
    · exact oct_lt m _ c hc
theorem rput_l (o : Nat) (ho : o ≤ 8) : ∀ (q i k n : Nat) (A : List Nat), i + q = o → q < k → n < 18446744073709551616 → A.length ≤ i →
    medlarref17_put.l0 k (n : Int) (ints A) (o : Int) (i : Int) = some (ints (A ++ oct n q)) := by
  intro q
  induction q with
  | zero =>
    intro i k n A hi hk hn hA
    obtain ⟨k, rfl⟩ : ∃ m, k = m + 1 := ⟨k - 1, by omega⟩
    rw [medlarref17_put.l0, if_neg (by omega)]; simp [oct]
  | succ q ih =>
    intro i k n A hi hk hn hA
    obtain ⟨k, rfl⟩ : ∃ m, k = m + 1 := ⟨k - 1, by omega⟩
    rw [medlarref17_put.l0, if_pos (by omega), if_pos (by rw [ints_len]; omega), Int.tdiv_eq_ediv_of_nonneg (by omega), Int.tmod_eq_emod_of_nonneg (by omega), wu64 (by omega) (by omega), w64 (by omega) (by omega),
      show (n : Int) / 256 = ((n / 256 : Nat) : Int) by omega, show ((n : Int) % 256) % 256 = ((n % 256 : Nat) : Int) by omega, ints_one, ints_app, show (i : Int) + 1 = ((i + 1 : Nat) : Int) by omega,
      ih (i + 1) k (n / 256) (A ++ [n % 256]) (by omega) (by omega) (by omega) (by simp; omega), oct, List.append_assoc]
    rfl
theorem rput_eq {n o : Nat} (ho : o ≤ 8) (hn : n < 18446744073709551616) {k : Nat} (hk : 9 ≤ k) : medlarref17_put.f k (n : Int) (o : Int) = some (ints (oct n o)) := by
  unfold medlarref17_put.f
  have := rput_l o ho o 0 k n [] (by omega) (by omega) hn (by simp)
  rw [show (0 : Int) = ((0 : Nat) : Int) from rfl, ints_nil, this]; rfl
theorem put_l (o n : Nat) (ho : o ≤ 8) (hn : n < 18446744073709551616) : ∀ (q i k : Nat) (A : List Nat), i + q = o → q < k → A.length ≤ 1000000 + i →
    image_put.l0 k (ints A) (n : Int) (o : Int) (i : Int) = some (ints (A ++ oct (n / 256 ^ i) q)) := by
  intro q
  induction q with
  | zero =>
    intro i k A hi hk hA
    obtain ⟨k, rfl⟩ : ∃ m, k = m + 1 := ⟨k - 1, by omega⟩
    rw [image_put.l0, if_neg (by omega)]; simp [oct]
  | succ q ih =>
    intro i k A hi hk hA
    obtain ⟨k, rfl⟩ : ∃ m, k = m + 1 := ⟨k - 1, by omega⟩
    have e8 : wrap64 (8 * (i : Int)) = ((8 * i : Nat) : Int) := by rw [w64 (by omega) (by omega)]; omega
    have ep : 2 ^ (8 * i) = 256 ^ i := by rw [show (256 : Nat) = 2 ^ 8 by decide, ← Nat.pow_mul]
    rw [image_put.l0, if_pos (by omega), e8, if_pos (by omega), if_pos (by rw [ints_len]; omega), shr_eq n (by omega), ep, w64 (by omega) (by omega),
      show ((n / 256 ^ i : Nat) : Int) % 256 = (((n / 256 ^ i) % 256 : Nat) : Int) by omega, ints_one, ints_app, show (i : Int) + 1 = ((i + 1 : Nat) : Int) by omega,
      ih (i + 1) k _ (by omega) (by omega) (by simp; omega), oct, List.append_assoc, Nat.pow_succ, Nat.div_div_eq_div_mul]
    rfl
theorem put_eq {n o : Nat} (A : List Nat) (ho : o ≤ 8) (hn : n < 18446744073709551616) (hA : A.length ≤ 1000000) {k : Nat} (hk : 9 ≤ k) : image_put.f k (ints A) (n : Int) (o : Int) = some (ints (A ++ oct n o)) := by
  unfold image_put.f
  have := put_l o n ho hn o 0 k A (by omega) (by omega) (by omega)
  rw [show (0 : Int) = ((0 : Nat) : Int) from rfl, this, Nat.pow_zero, Nat.div_one]
theorem or_oct {x c i : Nat} (hi : i < 8) (hx : x < 256 ^ i) (hc : c < 256) : Go.bits .or .u64 (x : Int) (shl .u64 (IntKind.u64.wrap (c : Int)) ((8 * i : Nat) : Int)) = ((x + c * 256 ^ i : Nat) : Int) := by
  have p8 : (256 : Nat) ^ (i + 1) ≤ 256 ^ 8 := Nat.pow_le_pow_right (by decide) (by omega)
  have p9 : (256 : Nat) ^ 8 = 18446744073709551616 := by decide
  rw [Nat.pow_succ] at p8
  have ep : 2 ^ (8 * i) = 256 ^ i := by rw [show (256 : Nat) = 2 ^ 8 by decide, ← Nat.pow_mul]
  have hm : c * 256 ^ i ≤ 255 * 256 ^ i := Nat.mul_le_mul_right _ (by omega)
  rw [wu64 (by omega) (by omega), shl_eq (by omega) (by rw [ep]; omega), ep, Go.bits_or_u64_nat x (c * 256 ^ i) (by omega) (by omega)]
  congr 1
  have := Nat.two_pow_add_eq_or_of_lt (i := 8 * i) (b := x) (by rw [ep]; exact hx) c
  rw [ep, Nat.mul_comm] at this
  rw [Nat.or_comm, ← this]; omega
theorem nm_snoc : ∀ (A : List Nat) (c : Nat), nm (A ++ [c]) = nm A + c * 256 ^ A.length
  | [], c => by simp [nm]
  | a :: A, c => by
    rw [List.cons_append, nm, nm, nm_snoc A c, List.length_cons, Nat.pow_succ, Nat.mul_add, Nat.mul_comm 256 (c * 256 ^ A.length), Nat.mul_assoc]; omega
theorem number_l (c : List Nat) (h8 : c.length ≤ 8) (hc : ∀ x ∈ c, x < 256) : ∀ (q i k : Nat), i + q = c.length → q < k →
    image_number.l0 k (nm (c.take i) : Int) (ints c) (c.length : Int) (i : Int) = some (nm c : Int) := by
  intro q
  induction q with
  | zero =>
    intro i k hi hk
    obtain ⟨k, rfl⟩ : ∃ m, k = m + 1 := ⟨k - 1, by omega⟩
    rw [image_number.l0, if_neg (by omega), List.take_of_length_le (by omega)]
  | succ q ih =>
    intro i k hi hk
    obtain ⟨k, rfl⟩ : ∃ m, k = m + 1 := ⟨k - 1, by omega⟩
    have hlt : i < c.length := by omega
    have e8 : wrap64 (8 * (i : Int)) = ((8 * i : Nat) : Int) := by rw [w64 (by omega) (by omega)]; omega
    have hx : nm (c.take i) < 256 ^ i := by
      have := nm_lt (c.take i) fun y hy => hc y (List.mem_of_mem_take hy)
      rwa [List.length_take, show min i c.length = i by omega] at this
    rw [image_number.l0, if_pos (by omega), if_pos (by omega), if_pos (by rw [ints_len]; omega), e8, if_pos (by omega), ints_rd hlt, or_oct (by omega) hx (hc _ (List.getElem_mem hlt)), w64 (by omega) (by omega), show (i : Int) + 1 = ((i + 1 : Nat) : Int) by omega]
    have e : nm (c.take i) + c[i] * 256 ^ i = nm (c.take (i + 1)) := by
      rw [List.take_succ_eq_append_getElem hlt, nm_snoc, List.length_take, show min i c.length = i by omega]
    rw [e, ih (i + 1) k (by omega) (by omega)]
theorem number_eq {c : List Nat} (h8 : c.length ≤ 8) (hc : ∀ x ∈ c, x < 256) {k : Nat} (hk : 9 ≤ k) : image_number.f k (ints c) = some (nm c : Int) := by
  unfold image_number.f
  have := number_l c h8 hc c.length 0 k (by omega) (by omega)
  rw [List.take_zero] at this
  rw [ints_len, show (0 : Int) = ((0 : Nat) : Int) from rfl]; exact this
theorem take_l (c : List Nat) (h8 : c.length ≤ 8) (hc : ∀ x ∈ c, x < 256) : ∀ (q k : Nat), q ≤ c.length → q < k →
    medlarref17_take.l0 k (ints c) (nm (c.drop q) : Int) ((q : Int) - 1) = some (nm c : Int) := by
  have p9 : (256 : Nat) ^ 8 = 18446744073709551616 := by decide
  intro q
  induction q with
  | zero =>
    intro k hi hk
    obtain ⟨k, rfl⟩ : ∃ m, k = m + 1 := ⟨k - 1, by omega⟩
    rw [medlarref17_take.l0, if_neg (by omega), List.drop_zero]
  | succ q ih =>
    intro k hi hk
    obtain ⟨k, rfl⟩ : ∃ m, k = m + 1 := ⟨k - 1, by omega⟩
    have hlt : q < c.length := by omega
    have e : nm (c.drop q) = c[q] + 256 * nm (c.drop (q + 1)) := by rw [List.drop_eq_getElem_cons hlt, nm]
    have hx : nm (c.drop q) < 256 ^ 8 := by
      have := nm_lt (c.drop q) fun y hy => hc y (List.mem_of_mem_drop hy)
      exact Nat.lt_of_lt_of_le this (Nat.pow_le_pow_right (by decide) (by rw [List.length_drop]; omega))
    rw [medlarref17_take.l0, if_pos (by omega), if_pos (by omega), if_pos (by rw [ints_len]; omega), show ((q + 1 : Nat) : Int) - 1 = (q : Int) by omega, ints_rd hlt, wu64 (x := 256 * (nm (c.drop (q + 1)) : Int)) (by omega) (by omega),
      wu64 (x := ((c[q] : Nat) : Int)) (by omega) (by omega), wu64 (by omega) (by omega), w64 (by omega) (by omega), show 256 * (nm (c.drop (q + 1)) : Int) + ((c[q] : Nat) : Int) = ((nm (c.drop q) : Nat) : Int) by omega, ih k (by omega) (by omega)]
theorem take_eq {c : List Nat} (h8 : c.length ≤ 8) (hc : ∀ x ∈ c, x < 256) {k : Nat} (hk : 9 ≤ k) : medlarref17_take.f k (ints c) = some (nm c : Int) := by
  unfold medlarref17_take.f
  have := take_l c h8 hc c.length k (by omega) (by omega)
  rw [List.drop_length] at this
  rw [ints_len, w64 (by omega) (by omega)]; exact this
theorem power_l (d : Nat) (hd : d ≤ 63) : ∀ (m i k : Nat), i + m = d → m < k → medlarref01_power.l0 k ((2 ^ i : Nat) : Int) (d : Int) (i : Int) = some ((2 ^ d : Nat) : Int) := by
  intro m
  induction m with
  | zero =>
    intro i k hi hk
    obtain ⟨k, rfl⟩ : ∃ m, k = m + 1 := ⟨k - 1, by omega⟩
    simp only [medlarref01_power.l0]
    rw [if_neg (by omega)]
    rw [show i = d by omega]
  | succ m ih =>
    intro i k hi hk
    obtain ⟨k, rfl⟩ : ∃ m, k = m + 1 := ⟨k - 1, by omega⟩
    have hp : 2 ^ (i + 1) ≤ 2 ^ 63 := pow_mono (by omega)
    have hs : 2 ^ (i + 1) = 2 * 2 ^ i := by rw [Nat.pow_succ, Nat.mul_comm]
    simp only [medlarref01_power.l0]
    rw [if_pos (by omega), w64 (by omega) (by omega), wu64 (by omega) (by omega), show 2 * ((2 ^ i : Nat) : Int) = ((2 ^ (i + 1) : Nat) : Int) by omega, show (i : Int) + 1 = ((i + 1 : Nat) : Int) by omega]
    exact ih (i + 1) k (by omega) (by omega)
theorem power_eq {d k : Nat} (hd : d ≤ 63) (hk : 64 ≤ k) : medlarref01_power.f k (d : Int) = some ((2 ^ d : Nat) : Int) := by
  unfold medlarref01_power.f
  have := power_l d hd d 0 k (by omega) (by omega)
  simpa using this
theorem nd_lt {h n : Nat} : Nd h n ↔ 1 ≤ h ∧ h ≤ 32 ∧ 1 ≤ n ∧ n < 2 ^ (h + 1) := by
  rw [nd_iff]
  constructor
  · rintro ⟨a, b, c, d⟩; exact ⟨a, b, by omega, (Nat.log2_lt c).1 (by omega)⟩
  · rintro ⟨a, b, c, d⟩; exact ⟨a, b, by omega, by have := (Nat.log2_lt (n := n) (by omega)).2 d; omega⟩
theorem may_eq (h : Int) (n : Nat) {k : Nat} (hk : 64 ≤ k) : medlarref01_May.f k h (n : Int) = some (decide (Nd h.toNat n)) := by
  unfold medlarref01_May.f
  by_cases h1 : h ≥ 1
  · rw [if_pos h1]
    by_cases h2 : h ≤ 32
    · rw [if_pos h2]
      by_cases h3 : (n : Int) ≥ 1
      · rw [if_pos h3, w64 (by omega) (by omega), show h + 1 = ((h.toNat + 1 : Nat) : Int) by omega, power_eq (by omega) hk]
        simp only [Option.bind_some]
        congr 1
        rw [decide_eq_decide, nd_lt]
        have : ((n : Int) < ((2 ^ (h.toNat + 1) : Nat) : Int)) ↔ n < 2 ^ (h.toNat + 1) := Int.ofNat_lt
        rw [this]; omega
      · rw [if_neg h3]; congr 1; symm; rw [decide_eq_false_iff_not, nd_iff]; omega
    · rw [if_neg h2]; congr 1; symm; rw [decide_eq_false_iff_not, nd_iff]; omega
  · rw [if_neg h1]; congr 1; symm; rw [decide_eq_false_iff_not, nd_iff]; omega
theorem rLeaf_eq (h : Int) {p : Nat} (hp : p < 18446744073709551616) {k : Nat} (hk : 70 ≤ k) : medlarref01_Leaf.f k h (p : Int) = some (if Hi h then (if p < 2 ^ h.toNat then ((2 ^ h.toNat + p : Nat) : Int) else 0, if p < 2 ^ h.toNat then 0 else 4) else (0, 1)) := by
  obtain ⟨k, rfl⟩ : ∃ m, k = m + 1 := ⟨k - 1, by omega⟩
  unfold medlarref01_Leaf.f
  by_cases h1 : Hi h
  · have hh := h1
    rw [hi_iff] at hh
    have e : ((h.toNat : Nat) : Int) = h := by omega
    have pw := power_eq (d := h.toNat) (k := k) (by omega) (by omega)
    rw [e] at pw
    have hp2 : 2 ^ h.toNat ≤ 4294967296 := pow_mono (b := 32) (by omega)
    rw [if_neg (by omega)]; simp only [medlarref01_Leaf.j0]
    rw [decide_eq_false (by omega), if_neg (by simp), pw]; simp only [bnd]
    rw [if_pos h1]
    by_cases c : p < 2 ^ h.toNat
    · rw [if_neg (by omega), if_pos c, if_pos c, wu64 (by omega) (by omega)]; congr 2
    · rw [if_pos (by omega), if_neg c, if_neg c]
  · rw [if_neg h1]
    rw [hi_iff] at h1
    by_cases h2 : h < 1
    · rw [if_pos h2]; simp [medlarref01_Leaf.j0]
    · rw [if_neg h2]; simp only [medlarref01_Leaf.j0]; rw [decide_eq_true (by omega), if_pos rfl]
theorem rLeaves_l {H n : Nat} (d : Nd H n) : ∀ (m t k : Nat), n.log2 + t + m = H → m + 70 ≤ k →
    medlarref01_Leaves.l0 k (H : Int) ((n * 2 ^ t : Nat) : Int) (((n + 1) * 2 ^ t - 1 : Nat) : Int) = some ((lo H n : Int), (hi H n : Int), 0) := by
  have d32 := d.2.1
  have p33 : 2 ^ (H + 1) ≤ 8589934592 := pow_le_32 (by omega)
  have pH : 2 ^ H ≤ 4294967296 := pow_le_h d32
  have hlo := log2_lo d.2.2.1
  have hhi := log2_hi n
  intro m
  induction m with
  | zero =>
    intro t k ht hk
    obtain ⟨k, rfl⟩ : ∃ m, k = m + 1 := ⟨k - 1, by omega⟩
    have e : t = H - n.log2 := by omega
    have e1 : n * 2 ^ t = lf H n := by subst e; rfl
    have e2 : (n + 1) * 2 ^ t = rt H n := by subst e; rfl
    have g1 := lf_ge d.2.2.1 d.2.2.2
    have g2 := rt_le d.2.2.2
    have g3 := lf_lt_rt H n
    simp only [medlarref01_Leaves.l0]
    rw [power_eq (by omega) (by omega)]; simp only [bnd]
    rw [e1, e2, if_neg (by omega)]
    unfold lo hi
    rw [wu64 (by omega) (by omega), wu64 (by omega) (by omega)]
    rw [show (lf H n : Int) - ((2 ^ H : Nat) : Int) = ((lf H n - 2 ^ H : Nat) : Int) by omega, show ((rt H n - 1 : Nat) : Int) - ((2 ^ H : Nat) : Int) = ((rt H n - 1 - 2 ^ H : Nat) : Int) by omega]
  | succ m ih =>
    intro t k ht hk
    obtain ⟨k, rfl⟩ : ∃ m, k = m + 1 := ⟨k - 1, by omega⟩
    have hp := pow_pos2 t
    have b1 : (n + 1) * 2 ^ t ≤ 2 ^ (n.log2 + 1) * 2 ^ t := Nat.mul_le_mul_right _ hhi
    rw [← Nat.pow_add] at b1
    have b2 : 2 ^ (n.log2 + 1 + t) ≤ 2 ^ H := pow_mono (by omega)
    have c1 : n * 2 ^ t < 2 ^ H := by
      have : n * 2 ^ t < (n + 1) * 2 ^ t := by rw [Nat.add_mul]; omega
      omega
    have c2 : 0 < (n + 1) * 2 ^ t := Nat.mul_pos (by omega) hp
    have s1 : n * 2 ^ (t + 1) = 2 * (n * 2 ^ t) := by rw [Nat.pow_succ, ← Nat.mul_assoc, Nat.mul_comm]
    have s2 : (n + 1) * 2 ^ (t + 1) = 2 * ((n + 1) * 2 ^ t) := by rw [Nat.pow_succ, ← Nat.mul_assoc, Nat.mul_comm]
    have r := ih (t + 1) k (by omega) (by omega)
    rw [s1, s2] at r
    generalize n * 2 ^ t = A at *
    generalize (n + 1) * 2 ^ t = B at *
    simp only [medlarref01_Leaves.l0]
    rw [power_eq (by omega) (by omega)]; simp only [bnd]
    rw [if_pos (by omega), wu64 (x := 2 * (A : Int)) (by omega) (by omega), wu64 (x := 2 * ((B - 1 : Nat) : Int)) (by omega) (by omega), wu64 (by omega) (by omega)]
    rw [show 2 * (A : Int) = ((2 * A : Nat) : Int) by omega, show 2 * ((B - 1 : Nat) : Int) + 1 = ((2 * B - 1 : Nat) : Int) by omega]
    exact r
theorem rNLeaves_eq (h : Int) {n : Nat} (hn : n < 18446744073709551616) {k : Nat} (hk : 110 ≤ k) :
    medlarref01_Leaves.f k h (n : Int) = some (if Nd h.toNat n then ((lo h.toNat n : Int), (hi h.toNat n : Int), 0) else (0, 0, 1)) := by
  unfold medlarref01_Leaves.f
  rw [may_eq h n (by omega)]; simp only [bnd]
  by_cases h1 : Nd h.toNat n
  · have e : ((h.toNat : Nat) : Int) = h := by have := h1.1; omega
    have r := rLeaves_l h1 (h.toNat - n.log2) 0 k (by have := h1.2.2.2; omega) (by have := h1.2.1; omega)
    rw [e] at r
    simp only [Nat.pow_zero, Nat.mul_one, Nat.add_sub_cancel] at r
    rw [decide_eq_true h1, if_pos rfl, if_pos h1, r]
  · rw [decide_eq_false h1, if_neg (by simp), if_neg h1]
theorem Same2_l (l m : List Nat) (e : l.length = m.length) (hn : l.length < 4611686018427387904) : ∀ (q i k : Nat), i + q = l.length → q < k → medlarref02_Same.l0 k (ints l) (ints m) (l.length : Int) (i : Int) = some (decide (l.drop i = m.drop i)) := by
  intro q
  induction q with
  | zero =>
    intro i k hi hk
    obtain ⟨k, rfl⟩ : ∃ m, k = m + 1 := ⟨k - 1, by omega⟩
    rw [medlarref02_Same.l0, if_neg (by omega), List.drop_of_length_le (by omega), List.drop_of_length_le (by omega)]; simp
  | succ q ih =>
    intro i k hi hk
    obtain ⟨k, rfl⟩ : ∃ m, k = m + 1 := ⟨k - 1, by omega⟩
    rw [medlarref02_Same.l0, if_pos (by omega), if_pos (by omega), if_pos (by rw [ints_len]; omega), if_pos (by rw [ints_len]; omega), ints_rd (show i < l.length by omega), ints_rd (show i < m.length by omega)]
    have d1 : l.drop i = l[i] :: l.drop (i + 1) := List.drop_eq_getElem_cons (by omega)
    have d2 : m.drop i = m[i] :: m.drop (i + 1) := List.drop_eq_getElem_cons (by omega)
    rw [d1, d2]
    by_cases c : l[i] = m[i]
    · rw [if_pos (by omega), w64 (by omega) (by omega), show (i : Int) + 1 = ((i + 1 : Nat) : Int) by omega, ih (i + 1) k (by omega) (by omega)]
      congr 1; rw [decide_eq_decide, c]; simp only [List.cons.injEq, true_and]
    · rw [if_neg (by omega)]; congr 1; symm; rw [decide_eq_false_iff_not]; intro z; exact c (List.cons.inj z).1
theorem Same2_eq (l m : List Nat) (hn : l.length < 4611686018427387904) (hm : m.length < 4611686018427387904) {k : Nat} (hk : l.length < k) : medlarref02_Same.f k (ints l) (ints m) = some (decide (l = m)) := by
  unfold medlarref02_Same.f
  rw [ints_len, ints_len]
  by_cases c : l.length = m.length
  · rw [if_pos (by omega)]
    have := Same2_l l m c hn l.length 0 k (by omega) hk
    simpa using this
  · rw [if_neg (by omega)]; congr 1; symm; rw [decide_eq_false_iff_not]; intro e; exact c (by rw [e])
theorem rIs2_eq (h : Int) {p : Nat} (hp : p < 18446744073709551616) {k : Nat} (hk : 70 ≤ k) : medlarref02_Is.f k h (p : Int) = some (decide (Lfi h p)) := by
  unfold medlarref02_Is.f
  rw [rLeaf_eq h hp hk]; simp only [bnd]
  by_cases c1 : Hi h
  · rw [if_pos c1]
    by_cases c2 : p < 2 ^ h.toNat
    · rw [decide_eq_true (show Lfi h p from ⟨c1, c2⟩)]; simp [c2]
    · rw [decide_eq_false (show ¬ Lfi h p from fun z => c2 z.2)]; simp [c2]
  · rw [if_neg c1, decide_eq_false (show ¬ Lfi h p from fun z => c1 z.1)]; rfl
theorem rCheck1_eq (h : Int) (n : Nat) {k : Nat} (hk : 64 ≤ k) : medlarref01_Check.f k h (n : Int) = some (if Nd h.toNat n then 0 else 1) := by
  unfold medlarref01_Check.f
  rw [may_eq h n hk]; simp only [bnd]
  by_cases c : Nd h.toNat n <;> simp [c]
theorem rCheck2_l (h : Int) (hh : Hi h) (l : List Nat) (hb : ∀ x ∈ l, x < 18446744073709551616) (hn : l.length < 4611686018427387904) : ∀ (q i k : Nat), i + q = l.length → q + 71 ≤ k →
    medlarref02_Check.l0 k h (ints l) (ints l) (l.length : Int) (i : Int) = some (if okf h.toNat (bef l i) (l.drop i) = true then 0 else 1) := by
  intro q
  induction q with
  | zero =>
    intro i k hi hk
    obtain ⟨k, rfl⟩ : ∃ m, k = m + 1 := ⟨k - 1, by omega⟩
    rw [medlarref02_Check.l0, if_neg (by omega), List.drop_of_length_le (by omega)]; simp [okf]
  | succ q ih =>
    intro i k hi hk
    obtain ⟨k, rfl⟩ : ∃ m, k = m + 1 := ⟨k - 1, by omega⟩
    have d1 : l.drop i = l[i] :: l.drop (i + 1) := List.drop_eq_getElem_cons (by omega)
    have lb := hb l[i] (List.getElem_mem (by omega))
    have r := ih (i + 1) k (by omega) (by omega)
    rw [bef_succ (by omega)] at r
    rw [medlarref02_Check.l0, if_pos (by omega), if_pos (by omega), if_pos (by rw [ints_len]; omega), ints_rd (show i < l.length by omega), rIs2_eq h lb (by omega)]; simp only [bnd]
    rw [w64 (x := (i : Int) + 1) (by omega) (by omega), show (i : Int) + 1 = ((i + 1 : Nat) : Int) by omega, r, d1]
    by_cases c : l[i] < 2 ^ h.toNat
    · rw [decide_eq_true (show Lfi h l[i] from ⟨hh, c⟩), if_pos rfl]
      by_cases i0 : i = 0
      · subst i0
        rw [if_neg (by omega)]
        simp only [okf, bef, if_true, decide_eq_true c, Bool.true_and, Bool.and_true]
      · have ei : (i : Int) - 1 = ((i - 1 : Nat) : Int) := by omega
        rw [if_pos (by omega), w64 (x := (i : Int) - 1) (by omega) (by omega), ei, if_pos (by omega), if_pos (by rw [ints_len]; omega), ints_rd (show i - 1 < l.length by omega)]
        have eb : bef l i = some l[i - 1] := by unfold bef; rw [if_neg i0]; simp [show i - 1 < l.length by omega]
        rw [eb]
        by_cases g : l[i - 1] < l[i]
        · rw [if_neg (by omega)]
          simp only [okf, decide_eq_true c, decide_eq_true g, Bool.true_and, Bool.and_true]
        · rw [if_pos (by omega)]
          simp [okf, g]
    · rw [decide_eq_false (show ¬ Lfi h l[i] from fun z => c z.2), if_neg (by simp)]
      simp [okf, c]
theorem rCheck2_eq (h : Int) {l : List Nat} (hb : ∀ x ∈ l, x < 18446744073709551616) (hn : l.length < 4611686018427387904) {k : Nat} (hk : l.length + 80 ≤ k) :
    medlarref02_Check.f k h (ints l) = some (if Lst h l then 0 else 1) := by
  obtain ⟨k, rfl⟩ : ∃ m, k = m + 1 := ⟨k - 1, by omega⟩
  unfold medlarref02_Check.f
  have c1 := rCheck1_eq h 1 (k := k + 1) (by omega)
  rw [show ((1 : Nat) : Int) = 1 from rfl] at c1
  rw [c1]; simp only [bnd]
  by_cases hh : Hi h
  · rw [if_pos ((nd_root' h).2 hh), if_pos rfl, ints_len]
    simp only [medlarref02_Check.j0]
    by_cases c : l.length ≤ 1024
    · rw [decide_eq_false (by omega), if_neg (by simp), ints_len]
      have := rCheck2_l h hh l hb hn l.length 0 k (by omega) (by omega)
      rw [show ((0 : Nat) : Int) = 0 from rfl, List.drop_zero, show bef l 0 = none from rfl] at this
      rw [this]
      by_cases o : okf h.toNat none l = true
      · have o' := (okf_none _ _).1 o
        rw [if_pos o, if_pos (show Lst h l from ⟨hh, c, o'.1, o'.2⟩)]
      · rw [if_neg o, if_neg (show ¬ Lst h l from fun z => o ((okf_none _ _).2 ⟨z.2.2.1, z.2.2.2⟩))]
    · rw [decide_eq_true (by omega), if_pos rfl, if_neg (show ¬ Lst h l from fun z => c z.2.1)]
  · rw [if_neg (fun z => hh ((nd_root' h).1 z)), if_neg (by omega)]
    simp only [medlarref02_Check.j0, if_true]
    rw [if_neg (show ¬ Lst h l from fun z => hh z.1)]
/-- The differences' octets. -/
def bodyt : Nat → List Nat → List Nat
  | _, [] => []
  | n, x :: l => oct (x - n) 8 ++ bodyt (x + 1) l
/-- A set's text. -/
def txt (h : Nat) (l : List Nat) : List Nat := [1, 0, h] ++ oct l.length 4 ++ bodyt 0 l
/-- What the next one is told against. -/
def nxa (l : List Nat) (i : Nat) : Nat := if i = 0 then 0 else l.getD (i - 1) 0 + 1
theorem nxa_succ {l : List Nat} {i : Nat} (h : i < l.length) : nxa l (i + 1) = l[i] + 1 := by
  unfold nxa; rw [if_neg (by omega)]; simp [h]
theorem nxa_le {l : List Nat} (hu : Up l) {i : Nat} (h : i < l.length) : nxa l i ≤ l[i] := by
  unfold nxa
  by_cases c : i = 0
  · rw [if_pos c]; omega
  · rw [if_neg c]
    have := (List.pairwise_iff_getElem.1 hu) (i - 1) i (by omega) h (by omega)
    rw [List.getD_eq_getElem?_getD, List.getElem?_eq_getElem (show i - 1 < l.length by omega)]
    simp only [Option.getD_some]; omega
theorem Set_l {l : List Nat} (hu : Up l) (hb : ∀ x ∈ l, x < 4294967296) (hn : l.length ≤ 1024) : ∀ (q i k : Nat) (A : List Nat), i + q = l.length → q + 10 ≤ k → A.length ≤ 7 + 8 * i →
    image_Set.l0 k (ints A) (nxa l i : Int) (ints l) (l.length : Int) (i : Int) = some (ints (A ++ bodyt (nxa l i) (l.drop i)), 0) := by
  intro q
  induction q with
  | zero =>
    intro i k A hi hk hA
    obtain ⟨k, rfl⟩ : ∃ m, k = m + 1 := ⟨k - 1, by omega⟩
    rw [image_Set.l0, if_neg (by omega), List.drop_of_length_le (by omega), bodyt, List.append_nil]
  | succ q ih =>
    intro i k A hi hk hA
    obtain ⟨k, rfl⟩ : ∃ m, k = m + 1 := ⟨k - 1, by omega⟩
    have hlt : i < l.length := by omega
    have h1 := nxa_le hu hlt
    have h2 := hb _ (List.getElem_mem hlt)
    rw [image_Set.l0, if_pos (by omega), if_pos (by omega), if_pos (by rw [ints_len]; omega), ints_rd hlt, wu64 (by omega) (by omega), wu64 (by omega) (by omega), show ((l[i] : Nat) : Int) - (nxa l i : Int) = ((l[i] - nxa l i : Nat) : Int) by omega,
      show (8 : Int) = ((8 : Nat) : Int) from rfl, put_eq A (by omega) (by omega) (by omega) (by omega)]
    simp only [bnd]
    rw [w64 (by omega) (by omega), show (i : Int) + 1 = ((i + 1 : Nat) : Int) by omega, show ((l[i] : Nat) : Int) + 1 = (nxa l (i + 1) : Int) by rw [nxa_succ hlt]; omega,
      ih (i + 1) k _ (by omega) (by omega) (by rw [List.length_append, oct_len]; omega), List.drop_eq_getElem_cons hlt, bodyt, nxa_succ hlt, List.append_assoc]
theorem rSet_l {l : List Nat} (hu : Up l) (hb : ∀ x ∈ l, x < 4294967296) (hn : l.length ≤ 1024) : ∀ (q i k : Nat) (A : List Nat), i + q = l.length → q + 10 ≤ k → A.length ≤ 7 + 8 * i →
    medlarref17_Set.l0 k (ints l) (ints A) (ints l) (l.length : Int) (i : Int) = some (ints (A ++ bodyt (nxa l i) (l.drop i)), 0) := by
  intro q
  induction q with
  | zero =>
    intro i k A hi hk hA
    obtain ⟨k, rfl⟩ : ∃ m, k = m + 1 := ⟨k - 1, by omega⟩
    rw [medlarref17_Set.l0, if_neg (by omega), List.drop_of_length_le (by omega), bodyt, List.append_nil]
  | succ q ih =>
    intro i k A hi hk hA
    obtain ⟨k, rfl⟩ : ∃ m, k = m + 1 := ⟨k - 1, by omega⟩
    have hlt : i < l.length := by omega
    have h1 := nxa_le hu hlt
    have h2 := hb _ (List.getElem_mem hlt)
    have nx := ih (i + 1) k (A ++ oct (l[i] - nxa l i) 8) (by omega) (by omega) (by rw [List.length_append, oct_len]; omega)
    have lo : (oct (l[i] - nxa l i) 8).length = 8 := oct_len _ _
    have fin : (some (ints (A ++ oct (l[i] - nxa l i) 8 ++ bodyt (nxa l (i + 1)) (l.drop (i + 1))), (0 : Int)) : Option (List Int × Int)) = some (ints (A ++ bodyt (nxa l i) (l.drop i)), 0) := by
      rw [List.drop_eq_getElem_cons hlt, bodyt, nxa_succ hlt, List.append_assoc]
    rw [medlarref17_Set.l0, if_pos (by omega), if_pos (by omega), if_pos (by rw [ints_len]; omega)]
    by_cases c : i = 0
    · have e0 : l[i] - nxa l i = l[i] := by unfold nxa; rw [if_pos c]; omega
      rw [if_neg (by omega), ints_rd hlt, show (8 : Int) = ((8 : Nat) : Int) from rfl, rput_eq (by omega) (by omega) (by omega)]
      simp only [bnd]
      rw [← e0, if_pos (by rw [ints_len, ints_len]; omega), ints_app, w64 (by omega) (by omega), show (i : Int) + 1 = ((i + 1 : Nat) : Int) by omega, nx, fin]
    · have hp : l[i - 1] + 1 = nxa l i := by have := nxa_succ (l := l) (i := i - 1) (by omega); rw [show i - 1 + 1 = i by omega] at this; omega
      rw [if_pos (by omega), w64 (x := (i : Int) - 1) (by omega) (by omega), if_pos (by omega), if_pos (by rw [ints_len]; omega), ints_rd hlt, show (i : Int) - 1 = ((i - 1 : Nat) : Int) by omega, ints_rd (show i - 1 < l.length by omega),
        wu64 (x := ((l[i] : Nat) : Int) - ((l[i - 1] : Nat) : Int)) (by omega) (by omega), wu64 (by omega) (by omega), show ((l[i] : Nat) : Int) - ((l[i - 1] : Nat) : Int) - 1 = ((l[i] - nxa l i : Nat) : Int) by omega,
        show (8 : Int) = ((8 : Nat) : Int) from rfl, rput_eq (by omega) (by omega) (by omega)]
      simp only [bnd]
      rw [if_pos (by rw [ints_len, ints_len]; omega), ints_app, w64 (by omega) (by omega), show (i : Int) + 1 = ((i + 1 : Nat) : Int) by omega, nx, fin]
theorem Set_eq (h : Int) {l : List Nat} (hb : ∀ x ∈ l, x < 18446744073709551616) (hn : l.length < 4611686018427387904) {k : Nat} (hk : l.length + 100 ≤ k) :
    image_Set.f k h (ints l) = some (if Lst h l then (ints (txt h.toNat l), 0) else ([], 1)) := by
  unfold image_Set.f
  rw [lCheck_eq h hb hn (by omega)]; simp only [bnd]
  by_cases c : Lst h l
  · have hh := c
    rw [lst_iff, hi_iff] at hh
    have p32 : 2 ^ h.toNat ≤ 2 ^ 32 := Nat.pow_le_pow_right (by decide) (by omega)
    have e3 : ([1, 0, h % 256] : List Int) = ints [1, 0, h.toNat] := by
      simp [ints]; omega
    have := Set_l hh.2.2.2 (fun x hx => by have := hh.2.2.1 x hx; omega) hh.2.1 l.length 0 k ([1, 0, h.toNat] ++ oct l.length 4) (by omega) (by omega) (by simp [oct_len])
    rw [if_pos c, if_pos c, if_pos rfl, e3, ints_len, wu64 (by omega) (by omega), show (4 : Int) = ((4 : Nat) : Int) from rfl, put_eq _ (by omega) (by omega) (by simp) (by omega)]
    simp only [bnd]
    rw [show (0 : Int) = ((0 : Nat) : Int) from rfl]
    have z : nxa l 0 = 0 := rfl
    rw [z] at this
    rw [this, List.drop_zero]; rfl
  · rw [if_neg c, if_neg c]; simp
theorem rSet_eq (h : Int) {l : List Nat} (hb : ∀ x ∈ l, x < 18446744073709551616) (hn : l.length < 4611686018427387904) {k : Nat} (hk : l.length + 100 ≤ k) :
    medlarref17_Set.f k h (ints l) = some (if Lst h l then (ints (txt h.toNat l), 0) else ([], 1)) := by
  unfold medlarref17_Set.f
  rw [rCheck2_eq h hb hn (by omega)]; simp only [bnd]
  by_cases c : Lst h l
  · have hh := c
    rw [lst_iff, hi_iff] at hh
    have p32 : 2 ^ h.toNat ≤ 2 ^ 32 := Nat.pow_le_pow_right (by decide) (by omega)
    have e3 : ([1, 0, h % 256] : List Int) = ints [1, 0, h.toNat] := by
      simp [ints]; omega
    have := rSet_l hh.2.2.2 (fun x hx => by have := hh.2.2.1 x hx; omega) hh.2.1 l.length 0 k ([1, 0, h.toNat] ++ oct l.length 4) (by omega) (by omega) (by simp [oct_len])
    rw [if_pos c, if_pos c, if_pos rfl, e3, ints_len, wu64 (by omega) (by omega), show (4 : Int) = ((4 : Nat) : Int) from rfl, rput_eq (by omega) (by omega) (by omega)]
    simp only [bnd]
    rw [if_pos (by rw [ints_len, ints_len, oct_len]; simp), ints_app, show (0 : Int) = ((0 : Nat) : Int) from rfl]
    have z : nxa l 0 = 0 := rfl
    rw [z] at this
    rw [this, List.drop_zero]; rfl
  · rw [if_neg c, if_neg c]; simp
theorem wr64 (a : Nat) : IntKind.u64.wrap (a : Int) = ((a % 18446744073709551616 : Nat) : Int) := by
  have h0 : IntKind.u64.wrap (a : Int) = (a : Int) % 18446744073709551616 := by simp [IntKind.wrap]; rfl
  rw [h0]; omega
/-- The sums, going around. -/
def sm (d : Nat → Nat) : Nat → List Nat × Nat
  | 0 => ([], 0)
  | j + 1 => ((sm d j).1 ++ [((sm d j).2 + d j) % 18446744073709551616], (((sm d j).2 + d j) % 18446744073709551616 + 1) % 18446744073709551616)
theorem sm_len (d : Nat → Nat) : ∀ j, (sm d j).1.length = j
  | 0 => rfl
  | j + 1 => by rw [sm, List.length_append, sm_len d j]; rfl
theorem sm_lt (d : Nat → Nat) : ∀ j, ∀ x ∈ (sm d j).1, x < 18446744073709551616
  | 0 => by simp [sm]
  | j + 1 => by
    intro x hx
    rw [sm] at hx
    rcases List.mem_append.1 hx with h | h
    · exact sm_lt d j x h
    · rw [List.mem_singleton] at h; rw [h]; exact Nat.mod_lt _ (by decide)
theorem sm_last (d : Nat → Nat) (j : Nat) : (sm d (j + 1)).2 = ((sm d (j + 1)).1[j]'(by rw [sm_len]; omega) + 1) % 18446744073709551616 := by
  have : (sm d (j + 1)).1[j]'(by rw [sm_len]; omega) = ((sm d j).2 + d j) % 18446744073709551616 := by
    simp only [sm]
    rw [List.getElem_append_right (by rw [sm_len]; omega)]
    simp [sm_len]
  rw [this]; rfl
theorem lv_sm (num : Nat → Int) (d : Nat → Nat) : ∀ m, (∀ x, x < m → num x = (d x : Int)) → lv num (List.range m) = (ints (sm d m).1, ((sm d m).2 : Int))
  | 0, _ => rfl
  | m + 1, h => by
    rw [List.range_succ, lv_snoc, lv_sm num d m fun x hx => h x (by omega), lv_step, h m (by omega)]
    dsimp only
    rw [show ((sm d m).2 : Int) + (d m : Int) = (((sm d m).2 + d m : Nat) : Int) by omega, wr64, show (((((sm d m).2 + d m) % 18446744073709551616 : Nat) : Int) + 1) = ((((sm d m).2 + d m) % 18446744073709551616 + 1 : Nat) : Int) by omega, wr64, ints_one, ints_app]
    rfl
/-- The number of a piece. -/
def dn (b : List Nat) (j : Nat) : Nat := nm ((b.drop (7 + 8 * j)).take 8)
theorem chunk_ints (b : List Nat) (j : Nat) : chunk8 (ints b) j = ints ((b.drop (7 + 8 * j)).take 8) := by unfold chunk8; rw [ints_drop, ints_take]
theorem bodyt_drop : ∀ (l : List Nat) (n j : Nat), j < l.length → ∃ p, (bodyt n l).drop (8 * j) = oct (l.getD j 0 - p) 8 ++ bodyt (l.getD j 0 + 1) (l.drop (j + 1))
  | [], n, j, h => by simp at h
  | x :: l, n, 0, _ => ⟨n, by simp [bodyt]⟩
  | x :: l, n, j + 1, h => by
    obtain ⟨p, hp⟩ := bodyt_drop l (x + 1) j (by simpa using h)
    refine ⟨p, ?_⟩
    rw [bodyt, List.drop_append, List.drop_of_length_le (by rw [oct_len]; omega), List.nil_append, oct_len, show 8 * (j + 1) - 8 = 8 * j by omega, hp]
    simp
theorem dn_txt {h : Nat} {l : List Nat} (hb : ∀ x ∈ l, x < 4294967296) {j : Nat} (hj : j < l.length) : dn (txt h l) j ≤ l.getD j 0 := by
  obtain ⟨p, hp⟩ := bodyt_drop l 0 j hj
  have e : (txt h l).drop (7 + 8 * j) = (bodyt 0 l).drop (8 * j) := by
    unfold txt
    rw [List.drop_append, List.drop_of_length_le (by first | (simp [oct_len]; done) | (simp [oct_len]; omega)), List.nil_append]
    congr 1
    simp [oct_len]
    try omega
  have hl : l.getD j 0 < 4294967296 := by
    rw [List.getD_eq_getElem?_getD, List.getElem?_eq_getElem hj]; exact hb _ (List.getElem_mem hj)
  have p8 : (256 : Nat) ^ 8 = 18446744073709551616 := by decide
  unfold dn
  rw [e, hp, List.take_append, List.take_of_length_le (by rw [oct_len]; omega), oct_len, Nat.sub_self, List.take_zero, List.append_nil, nm_oct _ _ (by omega)]
  omega
theorem bodyt_lt : ∀ (l : List Nat) (n : Nat), ∀ c ∈ bodyt n l, c < 256
  | [], _ => by simp [bodyt]
  | x :: l, n => by
    intro c hc
    rw [bodyt] at hc
    rcases List.mem_append.1 hc with h | h
    · exact oct_lt _ _ c h
    · exact bodyt_lt l _ c h
theorem txt_lt {h : Nat} (hh : h < 256) (l : List Nat) : ∀ c ∈ txt h l, c < 256 := by
  intro c hc
  unfold txt at hc
  rcases List.mem_append.1 hc with z | z
  · rcases List.mem_append.1 z with z | z
    · simp at z; omega
    · exact oct_lt _ _ c z
  · exact bodyt_lt _ _ c z
theorem str_ints (a : List Nat) : (strOfNums (ints a)).toList = a.map UInt8.ofNat := by
  unfold strOfNums
  rw [Go.ByteArray.toList_mk]; unfold ints; rw [List.map_map]; rfl
theorem map8_inj : ∀ (a b : List Nat), (∀ c ∈ a, c < 256) → (∀ c ∈ b, c < 256) → a.map UInt8.ofNat = b.map UInt8.ofNat → a = b
  | [], [], _, _, _ => rfl
  | [], _ :: _, _, _, h => by simp at h
  | _ :: _, [], _, _, h => by simp at h
  | x :: a, y :: b, ha, hb, h => by
    rw [List.map_cons, List.map_cons, List.cons.injEq] at h
    have hx := ha x List.mem_cons_self
    have hy := hb y List.mem_cons_self
    have e := congrArg UInt8.toNat h.1
    rw [UInt8.toNat_ofNat', UInt8.toNat_ofNat'] at e
    rw [map8_inj a b (fun c hc => ha c (List.mem_cons_of_mem _ hc)) (fun c hc => hb c (List.mem_cons_of_mem _ hc)) h.2, show x = y by omega]
theorem str_beq (a b : List Nat) (ha : ∀ c ∈ a, c < 256) (hb : ∀ c ∈ b, c < 256) : ((strOfNums (ints a)).toList == (strOfNums (ints b)).toList) = decide (a = b) := by
  rw [str_ints, str_ints, Bool.eq_iff_iff, beq_iff_eq, decide_eq_true_iff]
  exact ⟨map8_inj a b ha hb, fun e => by rw [e]⟩
theorem bEqual_eq (a b : List Nat) (ha : ∀ c ∈ a, c < 256) (hb : ∀ c ∈ b, c < 256) : bytes_Equal.f (ints a) (ints b) = some (decide (a = b)) := by
  unfold bytes_Equal.f
  rw [str_beq a b ha hb]
/-- What reading comes to. -/
def rdl (h : Nat) (b : List Nat) (L : List Nat) : Int × List Int × Int := if Lst (h : Int) L ∧ txt h L = b then ((h : Int), ints L, 0) else (0, [], 2)
theorem Leaves_eq {b : List Nat} (hb : ∀ c ∈ b, c < 256) (hn : b.length ≤ 65536) {m : Nat} (hm : b.length = 7 + 8 * m) {k : Nat} (hk : 20000 ≤ k) (h7 : 2 < b.length) :
    image_Leaves.f k (ints b) = some (rdl b[2] b (sm (dn b) m).1) := by
  have em : ((ints b).length - 7) / 8 = m := by rw [ints_len]; omega
  have hnum : ∀ x, x < m → image_number.f k (chunk8 (ints b) x) = some (dn b x : Int) := fun x hx => by
    rw [chunk_ints, number_eq (by rw [List.length_take]; omega) (fun c hc => hb c (List.mem_of_mem_drop (List.mem_of_mem_take hc))) (by omega)]; rfl
  have hall : ((List.range m).all fun x => (image_number.f k (chunk8 (ints b) x)).isSome) = true := List.all_eq_true.2 fun x hx => by rw [hnum x (List.mem_range.1 hx)]; rfl
  have h2 := hb _ (List.getElem_mem h7)
  have sl := sm_len (dn b) m
  unfold image_Leaves.f
  rw [if_neg (by rw [ints_len]; omega), if_neg (by rw [ints_len]; omega), em, if_pos hall, lv_sm _ (dn b) m (fun x hx => by rw [hnum x hx]; rfl),
    show (2 : Int) = ((2 : Nat) : Int) from rfl, ints_rd h7, w64 (by omega) (by omega), Set_eq _ (sm_lt _ _) (by omega) (by omega)]
  simp only [bnd]
  unfold rdl
  by_cases c : Lst ((b[2] : Nat) : Int) (sm (dn b) m).1
  · rw [if_pos c, if_pos rfl, Int.toNat_natCast]
    have tl : ∀ c ∈ txt b[2] (sm (dn b) m).1, c < 256 := txt_lt h2 _
    rw [bEqual_eq _ _ tl hb]
    by_cases t : txt b[2] (sm (dn b) m).1 = b
    · rw [if_pos (by simp [t]), if_pos ⟨c, t⟩]
    · rw [if_neg (by simp [t]), if_neg (fun z => t z.2)]; rfl
  · rw [if_neg c, if_neg (by decide), if_neg (fun z => c z.1)]; rfl
theorem piece_eq (b : List Nat) (j : Nat) : ((ints b).take (7 + 8 * j + 8)).drop (7 + 8 * j) = ints ((b.drop (7 + 8 * j)).take 8) := by
  rw [ints_take, ints_drop, List.drop_take, show 7 + 8 * j + 8 - (7 + 8 * j) = 8 by omega]
open Classical in
theorem rl {b : List Nat} (hb : ∀ c ∈ b, c < 256) (hn : b.length ≤ 65536) {m : Nat} (hm : b.length = 7 + 8 * m) {H : Nat} (hH : H < 256) (lo hx : Nat) : ∀ (q j k : Nat), j + q = m → q * 2 + 10000 ≤ k →
    medlarref17_Leaves.l0 k (ints b) (H : Int) (ints (sm (dn b) j).1) 0 ((7 + 8 * j : Nat) : Int) (lo : Int) (hx : Int) = some (if (∀ i, j ≤ i → i < m → dn b i ≤ hx) then rdl H b (sm (dn b) m).1 else (0, [], 2)) := by
  intro q
  induction q with
  | zero =>
    intro j k hj hk
    obtain ⟨k, rfl⟩ : ∃ m, k = m + 1 := ⟨k - 1, by omega⟩
    obtain rfl : j = m := by omega
    have sl := sm_len (dn b) j
    rw [medlarref17_Leaves.l0, if_neg (by rw [ints_len]; omega), rSet_eq _ (sm_lt _ _) (by omega) (by omega)]
    simp only [bnd]
    rw [if_pos (show ∀ i, j ≤ i → i < j → dn b i ≤ hx from fun i h1 h2 => by omega)]
    unfold rdl
    by_cases c : Lst (H : Int) (sm (dn b) j).1
    · rw [if_pos c, if_pos rfl, Int.toNat_natCast]
      have sb := str_beq _ _ (txt_lt hH (sm (dn b) j).1) hb
      by_cases t : txt H (sm (dn b) j).1 = b
      · rw [if_pos (by simp [t]), if_pos ⟨c, t⟩]
      · rw [if_neg (by intro z; rw [beq_iff_eq.2 z] at sb; simp [t] at sb), if_neg (fun z => t z.2)]
    · rw [if_neg c, if_neg (by decide), if_neg (fun z => c z.1)]
  | succ q ih =>
    intro j k hj hk
    obtain ⟨k, rfl⟩ : ∃ m, k = m + 2 := ⟨k - 2, by omega⟩
    have sl := sm_len (dn b) j
    rw [medlarref17_Leaves.l0, if_pos (by rw [ints_len]; omega), if_pos (by omega), w64 (by omega) (by omega), if_pos (by omega), if_pos (by rw [ints_len]; omega),
      show (((7 + 8 * j : Nat) : Int) + 8).toNat = 7 + 8 * j + 8 by omega, Int.toNat_natCast, piece_eq, take_eq (by rw [List.length_take]; omega) (fun c hc => hb c (List.mem_of_mem_drop (List.mem_of_mem_take hc))) (by omega)]
    simp only [bnd]
    rw [if_pos trivial, show nm ((b.drop (7 + 8 * j)).take 8) = dn b j from rfl]
    by_cases c : dn b j ≤ hx
    · rw [decide_eq_false (show ¬ ((dn b j : Int) > (hx : Int)) by omega), medlarref17_Leaves.j2, if_neg (by simp)]
      have nxt : (if (∀ i, j + 1 ≤ i → i < m → dn b i ≤ hx) then rdl H b (sm (dn b) m).1 else ((0, [], 2) : Int × List Int × Int)) = if (∀ i, j ≤ i → i < m → dn b i ≤ hx) then rdl H b (sm (dn b) m).1 else (0, [], 2) := by
        by_cases a : ∀ i, j + 1 ≤ i → i < m → dn b i ≤ hx
        · rw [if_pos a, if_pos (fun i h1 h2 => by
            by_cases e : i = j
            · rw [e]; exact c
            · exact a i (by omega) h2)]
        · rw [if_neg a, if_neg (fun z => a fun i h1 h2 => z i (by omega) h2)]
      have step : (7 + 8 * j : Nat) + (8 : Int) = ((7 + 8 * (j + 1) : Nat) : Int) := by omega
      have IH := ih (j + 1) k (by omega) (by omega)
      rw [nxt] at IH
      have dlt : dn b j < 18446744073709551616 := by
        have := nm_lt ((b.drop (7 + 8 * j)).take 8) (fun c hc => hb c (List.mem_of_mem_drop (List.mem_of_mem_take hc)))
        have p8 : (256 : Nat) ^ 8 = 18446744073709551616 := by decide
        rw [List.length_take, List.length_drop, show min 8 (b.length - (7 + 8 * j)) = 8 by omega, p8] at this
        exact this
      by_cases z : j = 0
      · subst z
        have e0 : ints (sm (dn b) 0).1 ++ [(dn b 0 : Int)] = ints (sm (dn b) (0 + 1)).1 := by
          simp [sm, ints]; omega
        rw [if_neg (by simp [sm, ints]), if_pos (by simp [sm, ints]), e0, step, w64 (by omega) (by omega), IH]
      · obtain ⟨i, rfl⟩ : ∃ i, j = i + 1 := ⟨j - 1, by omega⟩
        have hlt : i < (sm (dn b) (i + 1)).1.length := by omega
        have la := sm_last (dn b) i
        have lx := sm_lt (dn b) (i + 1) _ (List.getElem_mem hlt)
        have e1 : ints (sm (dn b) (i + 1)).1 ++ [IntKind.u64.wrap (IntKind.u64.wrap ((dn b (i + 1) : Int) + (((sm (dn b) (i + 1)).1[i] : Nat) : Int)) + 1)] = ints (sm (dn b) (i + 1 + 1)).1 := by
          rw [show (dn b (i + 1) : Int) + (((sm (dn b) (i + 1)).1[i] : Nat) : Int) = ((dn b (i + 1) + (sm (dn b) (i + 1)).1[i] : Nat) : Int) by omega, wr64,
            show (((dn b (i + 1) + (sm (dn b) (i + 1)).1[i]) % 18446744073709551616 : Nat) : Int) + 1 = (((dn b (i + 1) + (sm (dn b) (i + 1)).1[i]) % 18446744073709551616 + 1 : Nat) : Int) by omega, wr64, ints_one, ints_app]
          congr 1
          rw [show sm (dn b) (i + 1 + 1) = ((sm (dn b) (i + 1)).1 ++ [((sm (dn b) (i + 1)).2 + dn b (i + 1)) % 18446744073709551616], (((sm (dn b) (i + 1)).2 + dn b (i + 1)) % 18446744073709551616 + 1) % 18446744073709551616) from rfl]
          dsimp only
          congr 2
          rw [la]; omega
        rw [if_pos (by rw [ints_len]; omega), w64 (x := ((ints (sm (dn b) (i + 1)).1).length : Int) - 1) (by rw [ints_len]; omega) (by rw [ints_len]; omega), if_pos (by rw [ints_len]; omega), if_pos (by rw [ints_len]; omega), if_pos (by rw [ints_len]; omega),
          show ((ints (sm (dn b) (i + 1)).1).length : Int) - 1 = (i : Int) by rw [ints_len]; omega, ints_rd hlt, e1, step, w64 (by omega) (by omega), IH]
    · rw [decide_eq_true (show (dn b j : Int) > (hx : Int) by omega), medlarref17_Leaves.j2, if_pos rfl, if_neg (fun z => c (z j (Nat.le_refl _) (by omega)))]
theorem rLeaves17_eq {b : List Nat} (hb : ∀ c ∈ b, c < 256) (hn : b.length ≤ 65536) {m : Nat} (hm : b.length = 7 + 8 * m) {k : Nat} (hk : 50000 ≤ k) (h7 : 2 < b.length) :
    medlarref17_Leaves.f k (ints b) = some (rdl b[2] b (sm (dn b) m).1) := by
  have h2 := hb _ (List.getElem_mem h7)
  have sl := sm_len (dn b) m
  unfold medlarref17_Leaves.f
  have tm : (Int.tmod (wrap64 (((ints b).length : Int) - 7)) 8 != 0) = false := by
    rw [ints_len, w64 (by omega) (by omega), Int.tmod_eq_emod_of_nonneg (by omega), show ((b.length : Int) - 7) % 8 = 0 by omega]; rfl
  obtain ⟨k, rfl⟩ : ∃ n, k = n + 1 := ⟨k - 1, by omega⟩
  rw [if_neg (by rw [ints_len]; omega), if_neg (by rw [ints_len]; omega), tm, medlarref17_Leaves.j0, if_neg (by simp), if_pos (by rw [ints_len]; omega), show (2 : Int) = ((2 : Nat) : Int) from rfl, ints_rd h7, w64 (by omega) (by omega),
    show (1 : Int) = ((1 : Nat) : Int) from rfl, rNLeaves_eq _ (by omega) (by omega)]
  simp only [bnd]
  rw [Int.toNat_natCast]
  by_cases c : Nd b[2] 1
  · have hh := nd_root.1 c
    rw [if_pos c]; dsimp only
    have := rl hb hn hm h2 (lo b[2] 1) (hi b[2] 1) m 0 k (by omega) (by omega)
    rw [show ints (sm (dn b) 0).1 = ([] : List Int) from rfl] at this
    rw [show (7 : Int) = ((7 + 8 * 0 : Nat) : Int) by omega]
    refine this.trans ?_
    congr 1
    by_cases a : ∀ i, 0 ≤ i → i < m → dn b i ≤ hi b[2] 1
    · rw [if_pos a]
    · rw [if_neg a]
      unfold rdl
      rw [if_neg]
      rintro ⟨ls, tx⟩
      refine a fun i _ hi' => ?_
      rw [lst_iff] at ls
      have p32 : 2 ^ b[2] ≤ 2 ^ 32 := Nat.pow_le_pow_right (by decide) (by omega)
      have hl : ∀ x ∈ (sm (dn b) m).1, x < 4294967296 := fun x hx => by have := ls.2.2.1 x hx; rw [Int.toNat_natCast] at this; omega
      have := dn_txt (h := b[2]) hl (j := i) (by omega)
      rw [tx] at this
      have hx : (sm (dn b) m).1.getD i 0 < 2 ^ b[2] := by
        rw [List.getD_eq_getElem?_getD, List.getElem?_eq_getElem (show i < (sm (dn b) m).1.length by omega)]
        have := ls.2.2.1 _ (List.getElem_mem (show i < (sm (dn b) m).1.length by omega))
        rwa [Int.toNat_natCast] at this
      have e1 : hi b[2] 1 + 1 = 2 ^ b[2] := by
        have := pow_pos2 b[2]
        unfold hi rt
        rw [log2_one, Nat.sub_zero]; omega
      omega
  · rw [if_neg c]; dsimp only
    have nl : ¬ Lst ((b[2] : Nat) : Int) (sm (dn b) m).1 := fun z => c (nd_root.2 (by rw [lst_iff, hi_iff] at z; omega))
    unfold rdl
    rw [if_neg (fun z => nl z.1)]
    obtain ⟨k, rfl⟩ : ∃ n, k = n + 2 := ⟨k - 2, by omega⟩
    by_cases m0 : m = 0
    · have nl0 : ¬ Lst ((b[2] : Nat) : Int) [] := fun z => c (nd_root.2 (by rw [lst_iff, hi_iff] at z; omega))
      rw [medlarref17_Leaves.l0, if_neg (by rw [ints_len]; omega), ints_nil, rSet_eq _ (by simp) (by simp) (by simp; omega)]
      simp only [bnd]
      rw [if_neg nl0, if_neg (by decide)]
    · rw [show (7 : Int) = ((7 + 8 * 0 : Nat) : Int) by omega, medlarref17_Leaves.l0, if_pos (by rw [ints_len]; omega), if_pos (by omega), w64 (by omega) (by omega), if_pos (by omega), if_pos (by rw [ints_len]; omega),
        show (((7 + 8 * 0 : Nat) : Int) + 8).toNat = 7 + 8 * 0 + 8 by omega, Int.toNat_natCast, piece_eq, take_eq (by rw [List.length_take]; omega) (fun c hc => hb c (List.mem_of_mem_drop (List.mem_of_mem_take hc))) (by omega)]
      simp only [bnd]
      rw [if_neg (by decide), medlarref17_Leaves.j2, if_pos rfl]
end Go.Proofs.Ytldmfaaoifjhaaa.Med
