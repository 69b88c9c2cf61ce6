/- Plain facts that the proof of WholeBound needs. -/
import Derived.Test.YtoikjfcdpiikbaaK0
import Derived.Laws.Bits64b
import Derived.Test.YtoikjfcdpiikbaaMPx13
import Derived.Test.YtoikjfcdpiikbaaMPx18
import Derived.Test.YtoikjfcdpiikbaaMPx2
import Derived.Test.YtoikjfcdpiikbaaMPx9
set_option linter.unusedVariables false
set_option linter.unusedSimpArgs false
set_option linter.unusedSectionVars false
namespace Go.Proofs.Ytoikjfcdpiikbaa.Med
open Go.RowKit Go.Proofs.YtoikjfcdpiikbaaW.PrintWords Go.Proofs.YtoikjfcdpiikbaaW.PrintMore Go.Proofs.Ytoikjfcdpiikbaa.MP
/-- As Option.bind_some, but no rfl lemma: the kernel then unfolds nothing. -/
theorem bnd {α β : Type} (a : α) (f : α → Option β) : (some a).bind f = f a := by
  have h := Option.bind_some a f
  exact h
theorem w64 {x : Int} (h0 : -9223372036854775808 ≤ x) (h1 : x ≤ 9223372036854775807) : wrap64 x = x := by unfold wrap64; omega
theorem wu64 {x : Int} (h0 : 0 ≤ x) (h1 : x < 18446744073709551616) : IntKind.u64.wrap x = x := by
  have : IntKind.u64.wrap x = x % 18446744073709551616 := by rfl
  omega
theorem log2_iff {n d : Nat} (hn : n ≠ 0) : n.log2 = d ↔ 2 ^ d ≤ n ∧ n < 2 ^ (d + 1) := Nat.log2_eq_iff hn
theorem log2_lo {n : Nat} (hn : n ≠ 0) : 2 ^ n.log2 ≤ n := Nat.log2_self_le hn
theorem log2_hi (n : Nat) : n < 2 ^ (n.log2 + 1) := Nat.lt_log2_self
theorem log2_one : Nat.log2 1 = 0 := by decide
theorem pow_pos2 (k : Nat) : 0 < 2 ^ k := Nat.two_pow_pos k
theorem pow_split {a b : Nat} (h : a ≤ b) : 2 ^ b = 2 ^ a * 2 ^ (b - a) := by rw [← Nat.pow_add]; congr 1; omega
theorem pow_mono {a b : Nat} (h : a ≤ b) : 2 ^ a ≤ 2 ^ b := Nat.pow_le_pow_right (by omega) h
theorem pow_lt {a b : Nat} (h : a < b) : 2 ^ a < 2 ^ b := Nat.pow_lt_pow_right (by omega) h
theorem pow_le_32 {d : Nat} (h : d ≤ 33) : 2 ^ d ≤ 8589934592 := pow_mono (b := 33) h
theorem log2_div {n k : Nat} (hn : n ≠ 0) (hk : k ≤ n.log2) : (n / 2 ^ k).log2 = n.log2 - k ∧ n / 2 ^ k ≠ 0 := by
  have h1 := log2_lo hn
  have h2 := log2_hi n
  have hp := pow_pos2 k
  rw [pow_split hk] at h1
  have e : n.log2 + 1 = k + (n.log2 - k + 1) := by omega
  rw [e, Nat.pow_add] at h2
  have g1 : 2 ^ (n.log2 - k) ≤ n / 2 ^ k := (Nat.le_div_iff_mul_le hp).2 (by rw [Nat.mul_comm]; exact h1)
  have g2 : n / 2 ^ k < 2 ^ (n.log2 - k + 1) := Nat.div_lt_of_lt_mul h2
  have g3 : n / 2 ^ k ≠ 0 := by have := pow_pos2 (n.log2 - k); omega
  exact ⟨(log2_iff g3).2 ⟨g1, g2⟩, g3⟩
/-- The leaves below n, of a tree of height h, as nodes: from lf up to (not with) rt. -/
def lf (h n : Nat) : Nat := n * 2 ^ (h - n.log2)
def rt (h n : Nat) : Nat := (n + 1) * 2 ^ (h - n.log2)
theorem rt_eq (h n : Nat) : rt h n = lf h n + 2 ^ (h - n.log2) := by unfold rt lf; rw [Nat.add_mul, Nat.one_mul]
theorem lf_lt_rt (h n : Nat) : lf h n < rt h n := by have := pow_pos2 (h - n.log2); rw [rt_eq]; omega
theorem lf_ge {h n : Nat} (hn : n ≠ 0) (hd : n.log2 ≤ h) : 2 ^ h ≤ lf h n := by
  unfold lf; rw [pow_split hd]; exact Nat.mul_le_mul_right _ (log2_lo hn)
theorem rt_le {h n : Nat} (hd : n.log2 ≤ h) : rt h n ≤ 2 ^ (h + 1) := by
  have e : h + 1 = (n.log2 + 1) + (h - n.log2) := by omega
  unfold rt; rw [e, Nat.pow_add]; exact Nat.mul_le_mul_right _ (log2_hi n)
/-- How many binary digits. -/
def sz (n : Nat) : Nat := if n = 0 then 0 else n.log2 + 1
theorem sz_div {n k : Nat} (h : 2 ^ k ≤ n) : sz n = sz (n / 2 ^ k) + k := by
  have hp := pow_pos2 k
  have hn : n ≠ 0 := by omega
  have hk : k ≤ n.log2 := (Nat.le_log2 hn).2 h
  obtain ⟨a, b⟩ := log2_div hn hk
  unfold sz; rw [if_neg hn, if_neg b, a]; omega
theorem sz_le {n k : Nat} (h : n < 2 ^ k) : sz n ≤ k := by
  unfold sz; split
  · omega
  · rename_i hn; have := (Nat.log2_lt hn).2 h; omega
/-- There is such a node. -/
def Nd (h n : Nat) : Prop := 1 ≤ h ∧ h ≤ 32 ∧ n ≠ 0 ∧ n.log2 ≤ h
instance (h n : Nat) : Decidable (Nd h n) := inferInstanceAs (Decidable (_ ∧ _))
theorem nd_root {h : Nat} : Nd h 1 ↔ 1 ≤ h ∧ h ≤ 32 := by unfold Nd; rw [log2_one]; omega
/-- There is such a height. -/
def Hi (h : Int) : Prop := 1 ≤ h ∧ h ≤ 32
instance (h : Int) : Decidable (Hi h) := inferInstanceAs (Decidable (_ ∧ _))
theorem hi_iff (h : Int) : Hi h ↔ 1 ≤ h ∧ h ≤ 32 := Iff.rfl
theorem nd_iff (h n : Nat) : Nd h n ↔ 1 ≤ h ∧ h ≤ 32 ∧ n ≠ 0 ∧ n.log2 ≤ h := Iff.rfl
theorem root_lt : (1 : Nat) < 18446744073709551616 := by omega
theorem nd_root' (h : Int) : Nd h.toNat 1 ↔ Hi h := by rw [nd_root, hi_iff]; omega
/-- The first leaf below n, and the last one, as leaves' numbers; how many there are. -/
def lo (h n : Nat) : Nat := lf h n - 2 ^ h
def hi (h n : Nat) : Nat := rt h n - 1 - 2 ^ h
def wd (h n : Nat) : Nat := 2 ^ (h - n.log2)
theorem wd_pos (h n : Nat) : 0 < wd h n := pow_pos2 _
theorem hi_eq {h n : Nat} (d : Nd h n) : hi h n + 1 = lo h n + wd h n := by
  have := rt_eq h n
  have h1 := lf_ge d.2.2.1 d.2.2.2
  have h2 := wd_pos h n
  unfold hi lo; unfold wd at *; omega
theorem pow_le_h {h : Nat} (hh : h ≤ 32) : 2 ^ h ≤ 4294967296 := pow_mono (b := 32) hh
/-- Spans stand in order, apart from each other, each of leaves. -/
def Rise (m : Nat) : Nat → List (Nat × Nat) → Prop
  | _, [] => True
  | from_, x :: l => from_ ≤ x.1 ∧ x.1 ≤ x.2 ∧ x.2 < m ∧ Rise m (x.2 + 1) l
theorem Rise.mono {m : Nat} {l : List (Nat × Nat)} {a b : Nat} (h : Rise m a l) (hb : b ≤ a) : Rise m b l := by
  cases l with
  | nil => trivial
  | cons x l => exact ⟨Nat.le_trans hb h.1, h.2⟩
set_option maxRecDepth 100000 in
theorem len8_all : ∀ i : Fin 256, bt (⟨#[0, 1, 2, 2, 3, 3, 3, 3, 4, 4, 4, 4, 4, 4, 4, 4, 5, 5, 5, 5, 5, 5, 5, 5, 5, 5, 5, 5, 5, 5, 5, 5, 6, 6, 6, 6, 6, 6, 6, 6, 6, 6, 6, 6, 6, 6, 6, 6, 6, 6, 6, 6, 6, 6, 6, 6, 6, 6, 6, 6, 6, 6, 6, 6, 7, 7, 7, 7, 7, 7, 7, 7, 7, 7, 7, 7, 7, 7, 7, 7, 7, 7, 7, 7, 7, 7, 7, 7, 7, 7, 7, 7, 7, 7, 7, 7, 7, 7, 7, 7, 7, 7, 7, 7, 7, 7, 7, 7, 7, 7, 7, 7, 7, 7, 7, 7, 7, 7, 7, 7, 7, 7, 7, 7, 7, 7, 7, 7, 8, 8, 8, 8, 8, 8, 8, 8, 8, 8, 8, 8, 8, 8, 8, 8, 8, 8, 8, 8, 8, 8, 8, 8, 8, 8, 8, 8, 8, 8, 8, 8, 8, 8, 8, 8, 8, 8, 8, 8, 8, 8, 8, 8, 8, 8, 8, 8, 8, 8, 8, 8, 8, 8, 8, 8, 8, 8, 8, 8, 8, 8, 8, 8, 8, 8, 8, 8, 8, 8, 8, 8, 8, 8, 8, 8, 8, 8, 8, 8, 8, 8, 8, 8, 8, 8, 8, 8, 8, 8, 8, 8, 8, 8, 8, 8, 8, 8, 8, 8, 8, 8, 8, 8, 8, 8, 8, 8, 8, 8, 8, 8, 8, 8, 8, 8, 8, 8, 8, 8, 8, 8, 8, 8, 8, 8, 8, 8]⟩ : ByteArray) (i.val : Int) = (sz i.val : Int) := by decide +kernel
set_option maxRecDepth 100000 in
theorem len8 {i : Nat} (h : i < 256) : bt (⟨#[0, 1, 2, 2, 3, 3, 3, 3, 4, 4, 4, 4, 4, 4, 4, 4, 5, 5, 5, 5, 5, 5, 5, 5, 5, 5, 5, 5, 5, 5, 5, 5, 6, 6, 6, 6, 6, 6, 6, 6, 6, 6, 6, 6, 6, 6, 6, 6, 6, 6, 6, 6, 6, 6, 6, 6, 6, 6, 6, 6, 6, 6, 6, 6, 7, 7, 7, 7, 7, 7, 7, 7, 7, 7, 7, 7, 7, 7, 7, 7, 7, 7, 7, 7, 7, 7, 7, 7, 7, 7, 7, 7, 7, 7, 7, 7, 7, 7, 7, 7, 7, 7, 7, 7, 7, 7, 7, 7, 7, 7, 7, 7, 7, 7, 7, 7, 7, 7, 7, 7, 7, 7, 7, 7, 7, 7, 7, 7, 8, 8, 8, 8, 8, 8, 8, 8, 8, 8, 8, 8, 8, 8, 8, 8, 8, 8, 8, 8, 8, 8, 8, 8, 8, 8, 8, 8, 8, 8, 8, 8, 8, 8, 8, 8, 8, 8, 8, 8, 8, 8, 8, 8, 8, 8, 8, 8, 8, 8, 8, 8, 8, 8, 8, 8, 8, 8, 8, 8, 8, 8, 8, 8, 8, 8, 8, 8, 8, 8, 8, 8, 8, 8, 8, 8, 8, 8, 8, 8, 8, 8, 8, 8, 8, 8, 8, 8, 8, 8, 8, 8, 8, 8, 8, 8, 8, 8, 8, 8, 8, 8, 8, 8, 8, 8, 8, 8, 8, 8, 8, 8, 8, 8, 8, 8, 8, 8, 8, 8, 8, 8, 8, 8, 8, 8, 8, 8]⟩ : ByteArray) (i : Int) = (sz i : Int) := len8_all ⟨i, h⟩
set_option maxRecDepth 100000 in
theorem len64_j (k n c : Nat) (hn : n < 4294967296) (hc : c ≤ 32) : bits_Len64.j0 (k + 1) (n : Int) (c : Int) = some ((c + sz n : Nat) : Int) := by
  have h32 : sz n ≤ 32 := sz_le hn
  simp only [bits_Len64.j0]
  by_cases h1 : 65536 ≤ n
  · have e1 := sz_div (n := n) (k := 16) h1
    rw [if_pos (by omega)]
    by_cases h2 : 256 ≤ n / 65536
    · have e2 := sz_div (n := n / 65536) (k := 8) h2
      have i1 : n / 65536 / 256 < 256 := by omega
      have e3 : ((n : Int) / 65536 / 256) % 256 = ((n / 65536 / 256 : Nat) : Int) := by omega
      rw [if_pos (by omega), e3, if_pos (by omega), if_pos (by omega), len8 i1]
      have e1' : sz n = sz (n / 65536) + 16 := e1
      have e2' : sz (n / 65536) = sz (n / 65536 / 256) + 8 := e2
      rw [w64 (x := (c : Int) + 16) (by omega) (by omega), w64 (x := (c : Int) + 16 + 8) (by omega) (by omega), w64 (x := (sz (n / 65536 / 256) : Int)) (by omega) (by omega), w64 (by omega) (by omega)]
      congr 1; omega
    · have i1 : n / 65536 < 256 := by omega
      have e3 : ((n : Int) / 65536) % 256 = ((n / 65536 : Nat) : Int) := by omega
      have e1' : sz n = sz (n / 65536) + 16 := e1
      rw [if_neg (by omega), e3, if_pos (by omega), if_pos (by omega), len8 i1]
      rw [w64 (x := (c : Int) + 16) (by omega) (by omega), w64 (x := (sz (n / 65536) : Int)) (by omega) (by omega), w64 (by omega) (by omega)]
      congr 1; omega
  · rw [if_neg (by omega)]
    by_cases h2 : 256 ≤ n
    · have e2 : sz n = sz (n / 256) + 8 := sz_div (n := n) (k := 8) h2
      have i1 : n / 256 < 256 := by omega
      have e3 : ((n : Int) / 256) % 256 = ((n / 256 : Nat) : Int) := by omega
      rw [if_pos (by omega), e3, if_pos (by omega), if_pos (by omega), len8 i1]
      rw [w64 (x := (c : Int) + 8) (by omega) (by omega), w64 (x := (sz (n / 256) : Int)) (by omega) (by omega), w64 (by omega) (by omega)]
      congr 1; omega
    · have e3 : (n : Int) % 256 = (n : Int) := by omega
      rw [if_neg (by omega), e3, if_pos (by omega), if_pos (by omega), len8 (by omega)]
      rw [w64 (x := (sz n : Int)) (by omega) (by omega), w64 (by omega) (by omega)]
      congr 1
theorem len64 {n : Nat} (hn : n < 18446744073709551616) (k : Nat) : bits_Len64.f (k + 1) (n : Int) = some (sz n : Int) := by
  unfold bits_Len64.f
  by_cases h : 4294967296 ≤ n
  · have e : sz n = sz (n / 4294967296) + 32 := sz_div (n := n) (k := 32) h
    have := len64_j k (n / 4294967296) 32 (by omega) (by omega)
    rw [if_pos (by omega), show (n : Int) / 4294967296 = ((n / 4294967296 : Nat) : Int) by omega, show (32 : Int) = ((32 : Nat) : Int) by rfl, this]
    congr 2; omega
  · have := len64_j k n 0 (by omega) (by omega)
    rw [if_neg (by omega), show (0 : Int) = ((0 : Nat) : Int) by rfl, this]
    simp
theorem depth_eq {n : Nat} (h0 : n ≠ 0) (hn : n < 18446744073709551616) (k : Nat) : node_depth.f (k + 1) (n : Int) = some (n.log2 : Int) := by
  have := sz_le (k := 64) hn
  unfold node_depth.f
  rw [len64 hn]; simp only [Option.bind_some]
  rw [w64 (by omega) (by omega)]
  unfold sz; rw [if_neg h0]; congr 1; omega
theorem high_eq (h : Int) : node_high.f h = some (decide (Hi h)) := by
  unfold node_high.f
  by_cases h1 : h ≥ 1
  · rw [if_pos h1]; congr 1; rw [decide_eq_decide, hi_iff]; omega
  · rw [if_neg h1]; congr 1; symm; rw [decide_eq_false_iff_not, hi_iff]; omega
theorem check_eq (h : Int) {n : Nat} (hn : n < 18446744073709551616) (k : Nat) : node_Check.f (k + 1) h (n : Int) = some (if Nd h.toNat n then 0 else 1) := by
  unfold node_Check.f
  rw [high_eq]; simp only [Option.bind_some]
  by_cases h1 : Hi h
  · rw [decide_eq_true h1, if_pos rfl]
    rw [hi_iff] at h1
    by_cases h2 : n = 0
    · rw [if_pos (by omega), if_neg (by rw [nd_iff]; omega)]
    · rw [if_neg (by omega), depth_eq h2 hn]; simp only [Option.bind_some]
      by_cases h3 : (n.log2 : Int) > h
      · rw [if_pos h3, if_neg (by rw [nd_iff]; omega)]
      · rw [if_neg h3, if_pos (by rw [nd_iff]; omega)]
  · rw [decide_eq_false h1, if_neg (by simp), if_neg (by rw [nd_iff]; rw [hi_iff] at h1; omega)]
theorem shl_eq {n k : Nat} (hk : k ≤ 64) (hb : n * 2 ^ k < 18446744073709551616) : shl .u64 (n : Int) (k : Int) = ((n * 2 ^ k : Nat) : Int) := by
  unfold shl
  have : min ((k : Int)).toNat (IntKind.bits .u64) = k := by
    show min ((k : Int)).toNat 64 = k
    omega
  have e : (n : Int) * 2 ^ k = ((n * 2 ^ k : Nat) : Int) := by push_cast; rfl
  rw [this, e, wu64 (by omega) (by omega)]
theorem nLeaves_eq (h : Int) {n : Nat} (hn : n < 18446744073709551616) (k : Nat) :
    node_Leaves.f (k + 1) h (n : Int) = some (if Nd h.toNat n then ((lo h.toNat n : Int), (hi h.toNat n : Int), 0) else (0, 0, 1)) := by
  unfold node_Leaves.f
  rw [check_eq h hn]; simp only [Option.bind_some]
  by_cases h1 : Nd h.toNat n
  · have hh := h1
    rw [nd_iff] at hh
    have e : ((h.toNat : Nat) : Int) = h := by omega
    rw [if_pos h1, if_pos rfl, if_pos h1, depth_eq h1.2.2.1 hn]; simp only [Option.bind_some]
    generalize hH : h.toNat = H at *
    subst e
    have hlf := lf_ge h1.2.2.1 h1.2.2.2
    have hrt := rt_le (h := H) (n := n) h1.2.2.2
    have hlr := lf_lt_rt H n
    have hp33 : 2 ^ (H + 1) ≤ 8589934592 := pow_le_32 (by omega)
    have hpH : 2 ^ H ≤ 4294967296 := pow_le_h (by omega)
    have hpw : 2 ^ (H - n.log2) ≤ 4294967296 := pow_le_h (by omega)
    have hre := rt_eq H n
    rw [w64 (x := (H : Int) - n.log2) (by omega) (by omega), show (H : Int) - n.log2 = ((H - n.log2 : Nat) : Int) by omega, if_pos (by omega), if_pos (by omega)]
    have e1 : shl .u64 (n : Int) ((H - n.log2 : Nat) : Int) = (lf H n : Int) := shl_eq (by omega) (show lf H n < _ by omega)
    have e2 : shl .u64 1 (H : Int) = ((2 ^ H : Nat) : Int) := by
      have := shl_eq (n := 1) (k := H) (by omega) (by omega)
      rw [Nat.one_mul] at this; exact this
    have e3 : shl .u64 1 ((H - n.log2 : Nat) : Int) = ((2 ^ (H - n.log2) : Nat) : Int) := by
      have := shl_eq (n := 1) (k := H - n.log2) (by omega) (by omega)
      rw [Nat.one_mul] at this; exact this
    rw [e1, e2, e3]
    have f1 : (lf H n : Int) - ((2 ^ H : Nat) : Int) = (lo H n : Int) := by unfold lo; omega
    rw [f1]
    have g1 : lo H n < 8589934592 := by unfold lo; omega
    have g2 := hi_eq h1
    unfold wd at g2
    rw [wu64 (x := (lo H n : Int)) (by omega) (by omega), wu64 (x := (lo H n : Int) + _) (by omega) (by omega), wu64 (by omega) (by omega)]
    congr 3; omega
  · rw [if_neg h1, if_neg (by omega), if_neg h1]
/-- There may be a set of so many leaves; by how many subsets. -/
def Bd (h many : Int) : Prop := Hi h ∧ 0 ≤ many ∧ many ≤ 1024 ∧ many.toNat ≤ 2 ^ h.toNat
instance (h many : Int) : Decidable (Bd h many) := inferInstanceAs (Decidable (_ ∧ _))
def bdn (H m : Nat) : Nat := if m = 0 then 1 else m * (H - m.log2)
theorem log2_le_of {m H : Nat} (h : m ≤ 2 ^ H) : m.log2 ≤ H := by
  by_cases h0 : m = 0
  · subst h0; have : Nat.log2 0 = 0 := by decide
    omega
  · have := log2_lo h0
    apply Decidable.byContradiction
    intro z
    have := pow_lt (show H < m.log2 by omega)
    omega
theorem bdn_lt {H m : Nat} (hH : H ≤ 32) (hm : m ≤ 1024) : bdn H m ≤ 32768 := by
  unfold bdn; split
  · omega
  · have : m * (H - m.log2) ≤ 1024 * 32 := Nat.mul_le_mul hm (by omega)
    omega
theorem root_leaves (h : Int) (k : Nat) : node_Leaves.f (k + 1) h 1 = some (if Hi h then (0, ((2 ^ h.toNat - 1 : Nat) : Int), 0) else (0, 0, 1)) := by
  have nl := nLeaves_eq h root_lt k
  rw [show ((1 : Nat) : Int) = 1 from rfl] at nl
  rw [nl]
  by_cases c : Hi h
  · have nr : Nd h.toNat 1 := (nd_root' h).2 c
    have hi1 := hi_eq nr
    have lo1 : lo h.toNat 1 = 0 := by unfold lo lf; rw [log2_one]; simp
    have wd1 : wd h.toNat 1 = 2 ^ h.toNat := by unfold wd; rw [log2_one]; simp
    have hp := pow_pos2 h.toNat
    rw [if_pos nr, if_pos c, lo1]
    congr 3; omega
  · have nr : ¬ Nd h.toNat 1 := fun z => c ((nd_root' h).1 z)
    rw [if_neg nr, if_neg c]
theorem WBound_eq (h many : Int) {k : Nat} (hk : 5 ≤ k) : whole_Bound.f k h many = some (if Bd h many then ((bdn h.toNat many.toNat : Int), 0) else (0, 1)) := by
  obtain ⟨k, rfl⟩ : ∃ m, k = m + 3 := ⟨k - 3, by omega⟩
  unfold whole_Bound.f
  rw [root_leaves]; simp only [bnd]
  by_cases c : Hi h
  · have hH := c
    rw [hi_iff] at hH
    have hp := pow_pos2 h.toNat
    have hp32 := pow_le_h (h := h.toNat) (by omega)
    rw [if_pos c]; dsimp only
    rw [if_pos rfl]
    by_cases m0 : many < 0
    · have nb : ¬ Bd h many := fun z => by have := z.2.1; omega
      rw [if_pos m0, if_neg nb]; simp [whole_Bound.j0]
    · rw [if_neg m0]
      by_cases m1 : many > 1024
      · have nb : ¬ Bd h many := fun z => by have := z.2.2.1; omega
        rw [if_pos m1, if_neg nb]; simp [whole_Bound.j0]
      · obtain ⟨m, rfl⟩ := Int.eq_ofNat_of_zero_le (show 0 ≤ many by omega)
        rw [if_neg m1, wu64 (x := (m : Int)) (by omega) (by omega), wu64 (by omega) (by omega)]
        simp only [whole_Bound.j0, Int.toNat_natCast]
        by_cases m2 : m ≤ 2 ^ h.toNat
        · have yb : Bd h (m : Int) := ⟨c, by omega, by omega, by simpa using m2⟩
          have lg := log2_le_of m2
          rw [decide_eq_false (by omega), if_neg (by simp), if_pos yb]
          by_cases z : m = 0
          · rw [if_pos (by omega), z]; rfl
          · have b1 := bdn_lt (H := h.toNat) (m := m) (by omega) (by omega)
            unfold bdn at b1 ⊢
            rw [if_neg z] at b1 ⊢
            have e1 : (m : Int) * ((h + 1) - (sz m : Int)) = ((m * (h.toNat - m.log2) : Nat) : Int) := by
              have : (h + 1) - (sz m : Int) = ((h.toNat - m.log2 : Nat) : Int) := by unfold sz; rw [if_neg z]; omega
              rw [this]; push_cast; rfl
            have s1 : sz m = m.log2 + 1 := by unfold sz; rw [if_neg z]
            rw [if_neg (by omega)]
            unfold bits_Len.f
            rw [wu64 (by omega) (by omega), len64 (by omega)]; simp only [bnd]
            rw [w64 (x := h + 1) (by omega) (by omega), w64 (x := h + 1 - _) (by omega) (by omega), e1, w64 (by omega) (by omega), wu64 (by omega) (by omega)]
        · have nb : ¬ Bd h (m : Int) := fun z => m2 (by simpa using z.2.2.2)
          rw [decide_eq_true (by omega), if_pos rfl, if_neg nb]
  · have nb : ¬ Bd h many := fun z => c z.1
    rw [if_neg c, if_neg nb]; simp [whole_Bound.j0]
theorem live10' : medlarlaw10_live.f 30 = some true := by decide +kernel
theorem live10 {k : Nat} (hk : 30 ≤ k) : medlarlaw10_live.f k = some true := at_rounds (g := fun k => medlarlaw10_live.f k) medlarlaw10_live.mono hk live10'
end Go.Proofs.Ytoikjfcdpiikbaa.Med
