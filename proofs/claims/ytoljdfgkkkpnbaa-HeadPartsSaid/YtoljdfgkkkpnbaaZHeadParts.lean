/- Plain facts that the proof of HeadParts needs. -/
import Derived.Test.YtoljdfgkkkpnbaaK0
import Derived.Test.YtoljdfgkkkpnbaaMPx0
import Derived.Test.YtoljdfgkkkpnbaaMPx2
import Derived.Test.YtoljdfgkkkpnbaaMPx3
import Derived.Test.YtoljdfgkkkpnbaaMPx4
set_option linter.unusedVariables false
set_option linter.unusedSimpArgs false
set_option linter.unusedSectionVars false
namespace Go.Proofs.Ytoljdfgkkkpnbaa.Med
open Go.RowKit Go.Proofs.YtoljdfgkkkpnbaaW.PrintWords Go.Proofs.YtoljdfgkkkpnbaaW.PrintMore Go.Proofs.Ytoljdfgkkkpnbaa.MP
/-- As Option.bind_some, but no rfl lemma: the kernel then unfolds nothing. -/
theorem bnd {α β : Type} (a : α) (f : α → Option β) : (some a).bind f = f a := by
  have h := Option.bind_some a f
  exact h
theorem w64 {x : Int} (h0 : -9223372036854775808 ≤ x) (h1 : x ≤ 9223372036854775807) : wrap64 x = x := by unfold wrap64; omega
theorem wu64 {x : Int} (h0 : 0 ≤ x) (h1 : x < 18446744073709551616) : IntKind.u64.wrap x = x := by
  have : IntKind.u64.wrap x = x % 18446744073709551616 := by rfl
  omega
theorem wf_u64 {x : Int} (h : (Lit.int .u64 x).wf = true) : ∃ n : Nat, x = (n : Int) ∧ n < 18446744073709551616 := by
  have h0 : IntKind.u64.min = 0 := by decide
  have h1 : IntKind.u64.max = 18446744073709551615 := by decide
  simp [Lit.wf, h0, h1] at h
  exact ⟨x.toNat, by omega, by omega⟩
theorem wf_i64 {x : Int} (h : (Lit.int .i64 x).wf = true) : -9223372036854775808 ≤ x ∧ x ≤ 9223372036854775807 := by
  have h0 : IntKind.i64.min = -9223372036854775808 := by decide
  have h1 : IntKind.i64.max = 9223372036854775807 := by decide
  simp [Lit.wf, h0, h1] at h
  omega
theorem log2_iff {n d : Nat} (hn : n ≠ 0) : n.log2 = d ↔ 2 ^ d ≤ n ∧ n < 2 ^ (d + 1) := Nat.log2_eq_iff hn
theorem log2_lo {n : Nat} (hn : n ≠ 0) : 2 ^ n.log2 ≤ n := Nat.log2_self_le hn
theorem log2_hi (n : Nat) : n < 2 ^ (n.log2 + 1) := Nat.lt_log2_self
theorem log2_one : Nat.log2 1 = 0 := by decide
theorem pow_pos2 (k : Nat) : 0 < 2 ^ k := Nat.two_pow_pos k
theorem pow_split {a b : Nat} (h : a ≤ b) : 2 ^ b = 2 ^ a * 2 ^ (b - a) := by rw [← Nat.pow_add]; congr 1; omega
theorem pow_mono {a b : Nat} (h : a ≤ b) : 2 ^ a ≤ 2 ^ b := Nat.pow_le_pow_right (by omega) h
theorem pow_le_32 {d : Nat} (h : d ≤ 33) : 2 ^ d ≤ 8589934592 := pow_mono (b := 33) h
theorem log2_div {n k : Nat} (hn : n ≠ 0) (hk : k ≤ n.log2) : (n / 2 ^ k).log2 = n.log2 - k ∧ n / 2 ^ k ≠ 0 := by
  have h1 := log2_lo hn
  have h2 := log2_hi n
  have hp := pow_pos2 k
  rw [pow_split hk] at h1
  have e : n.log2 + 1 = k + (n.log2 - k + 1) := by omega
  rw [e, Nat.pow_add] at h2
  have g1 : 2 ^ (n.log2 - k) ≤ n / 2 ^ k := (Nat.le_div_iff_mul_le hp).2 (by rw [Nat.mul_comm]; exact h1)
  have g2 : n / 2 ^ k < 2 ^ (n.log2 - k + 1) := Nat.div_lt_of_lt_mul h2
  have g3 : n / 2 ^ k ≠ 0 := by have := pow_pos2 (n.log2 - k); omega
  exact ⟨(log2_iff g3).2 ⟨g1, g2⟩, g3⟩
/-- The node above n, of depth d. -/
def anc (n d : Nat) : Nat := n / 2 ^ (n.log2 - d)
theorem anc_log2 {n d : Nat} (hn : n ≠ 0) (hd : d ≤ n.log2) : (anc n d).log2 = d := by
  have := (log2_div hn (k := n.log2 - d) (by omega)).1
  unfold anc; omega
theorem anc_anc {n d e : Nat} (hn : n ≠ 0) (hd : d ≤ n.log2) (he : e ≤ d) : anc (anc n d) e = anc n e := by
  unfold anc
  rw [show (n / 2 ^ (n.log2 - d)).log2 = d from anc_log2 hn hd, Nat.div_div_eq_div_mul, ← Nat.pow_add]
  congr 2; omega
/-- a is above b. -/
def Abv (a b : Nat) : Prop := a.log2 ≤ b.log2 ∧ anc b a.log2 = a
instance (a b : Nat) : Decidable (Abv a b) := inferInstanceAs (Decidable (_ ∧ _))
theorem Abv.trans {a b c : Nat} (hc : c ≠ 0) (h : Abv a b) (k : Abv b c) : Abv a c := by
  refine ⟨Nat.le_trans h.1 k.1, ?_⟩
  rw [← anc_anc hc k.1 h.1, k.2]; exact h.2
def rt (h n : Nat) : Nat := (n + 1) * 2 ^ (h - n.log2)
/-- How many binary digits. -/
def sz (n : Nat) : Nat := if n = 0 then 0 else n.log2 + 1
theorem sz_div {n k : Nat} (h : 2 ^ k ≤ n) : sz n = sz (n / 2 ^ k) + k := by
  have hp := pow_pos2 k
  have hn : n ≠ 0 := by omega
  have hk : k ≤ n.log2 := (Nat.le_log2 hn).2 h
  obtain ⟨a, b⟩ := log2_div hn hk
  unfold sz; rw [if_neg hn, if_neg b, a]; omega
theorem sz_le {n k : Nat} (h : n < 2 ^ k) : sz n ≤ k := by
  unfold sz; split
  · omega
  · rename_i hn; have := (Nat.log2_lt hn).2 h; omega
theorem log2_64 {n : Nat} (hn : n < 18446744073709551616) : n.log2 < 64 := by
  by_cases h : n = 0
  · subst h; decide
  · exact (Nat.log2_lt h).2 hn
/-- There is such a node. -/
def Nd (h n : Nat) : Prop := 1 ≤ h ∧ h ≤ 32 ∧ n ≠ 0 ∧ n.log2 ≤ h
instance (h n : Nat) : Decidable (Nd h n) := inferInstanceAs (Decidable (_ ∧ _))
theorem Nd.lt {h n : Nat} (d : Nd h n) : n < 2 ^ (h + 1) := Nat.lt_of_lt_of_le (log2_hi n) (pow_mono (by have := d.2.2.2; omega))
theorem Nd.lt33 {h n : Nat} (d : Nd h n) : n < 8589934592 := Nat.lt_of_lt_of_le d.lt (pow_le_32 (by have := d.2.1; omega))
theorem nd_root {h : Nat} : Nd h 1 ↔ 1 ≤ h ∧ h ≤ 32 := by unfold Nd; rw [log2_one]; omega
/-- There is such a height. -/
def Hi (h : Int) : Prop := 1 ≤ h ∧ h ≤ 32
instance (h : Int) : Decidable (Hi h) := inferInstanceAs (Decidable (_ ∧ _))
theorem hi_iff (h : Int) : Hi h ↔ 1 ≤ h ∧ h ≤ 32 := Iff.rfl
theorem nd_iff (h n : Nat) : Nd h n ↔ 1 ≤ h ∧ h ≤ 32 ∧ n ≠ 0 ∧ n.log2 ≤ h := Iff.rfl
/-- A subset may be. -/
def Sb (h i j : Nat) : Prop := Nd h i ∧ (j = 0 ∨ (Nd h j ∧ i ≠ j ∧ Abv i j))
instance (h i j : Nat) : Decidable (Sb h i j) := inferInstanceAs (Decidable (_ ∧ _))
/-- A height's step. -/
def stp (h : Nat) : Nat := if h ≤ 1 then 1 else if h ≤ 4 then 2 else if h ≤ 9 then 3 else if h ≤ 16 then 4 else if h ≤ 25 then 5 else 6
theorem stp_pos (h : Nat) : 1 ≤ stp h ∧ stp h ≤ 6 := by unfold stp; constructor <;> (repeat' split) <;> omega
theorem root_lt : (1 : Nat) < 18446744073709551616 := by omega
theorem nd_root' (h : Int) : Nd h.toNat 1 ↔ Hi h := by rw [nd_root, hi_iff]; omega
/-- The least special depth above one; which ones are special. -/
def nxt (h i : Nat) : Nat := min ((i / stp h + 1) * stp h) h
def Spc (h i : Nat) : Prop := i % stp h = 0 ∨ i = h
instance (h i : Nat) : Decidable (Spc h i) := inferInstanceAs (Decidable (_ ∨ _))
theorem spc_iff (h i : Nat) : Spc h i ↔ i % stp h = 0 ∨ i = h := Iff.rfl
theorem tmod_cast (i s : Nat) : Int.tmod (i : Int) (s : Int) = ((i % s : Nat) : Int) := by rw [Int.tmod_eq_emod_of_nonneg (by omega)]; rfl
/-- Is it useful? -/
def Usf (h i j : Nat) : Prop := (j = 0 ∧ i = 1) ∨ (j ≠ 0 ∧ (Spc h i.log2 ∨ j.log2 ≤ nxt h i.log2))
instance (h i j : Nat) : Decidable (Usf h i j) := inferInstanceAs (Decidable (_ ∨ _))
theorem usf_iff (h i j : Nat) : Usf h i j ↔ (j = 0 ∧ i = 1) ∨ (j ≠ 0 ∧ (Spc h i.log2 ∨ j.log2 ≤ nxt h i.log2)) := Iff.rfl
theorem usf_0 (h i : Nat) : Usf h i 0 ↔ i = 1 := by rw [usf_iff]; simp
theorem usf_j (h i : Nat) {j : Nat} (h0 : j ≠ 0) : Usf h i j ↔ (Spc h i.log2 ∨ j.log2 ≤ nxt h i.log2) := by rw [usf_iff]; simp [h0]
theorem sb_h {h : Int} {i j : Nat} (s : Sb h.toNat i j) : ((h.toNat : Nat) : Int) = h := by have := s.1.1; omega
def hi (h n : Nat) : Nat := rt h n - 1 - 2 ^ h
/-- Spans stand in order, apart from each other, each of leaves. -/
def Rise (m : Nat) : Nat → List (Nat × Nat) → Prop
  | _, [] => True
  | from_, x :: l => from_ ≤ x.1 ∧ x.1 ≤ x.2 ∧ x.2 < m ∧ Rise m (x.2 + 1) l
theorem Rise.mono {m : Nat} {l : List (Nat × Nat)} {a b : Nat} (h : Rise m a l) (hb : b ≤ a) : Rise m b l := by
  cases l with
  | nil => trivial
  | cons x l => exact ⟨Nat.le_trans hb h.1, h.2⟩
/-- Which one comes first. -/
def Lss (a b : Nat × Nat) : Prop := a.1 < b.1 ∨ (a.1 = b.1 ∧ a.2 < b.2)
instance (a b : Nat × Nat) : Decidable (Lss a b) := inferInstanceAs (Decidable (_ ∨ _))
theorem lss_iff (a b : Nat × Nat) : Lss a b ↔ a.1 < b.1 ∨ (a.1 = b.1 ∧ a.2 < b.2) := Iff.rfl
/-- There is such a scheme. -/
def Sch (s : Int) : Prop := 1 ≤ s ∧ s ≤ 3
instance (s : Int) : Decidable (Sch s) := inferInstanceAs (Decidable (_ ∧ _))
theorem sch_iff (s : Int) : Sch s ↔ 1 ≤ s ∧ s ≤ 3 := Iff.rfl
/-- A subset may be of a scheme. -/
def May (h : Nat) (s : Int) (i j : Nat) : Prop := (s = 1 ∧ j = 0) ∨ (s = 2 ∧ (j ≠ 0 ∨ i = 1)) ∨ (s ≠ 1 ∧ s ≠ 2 ∧ Usf h i j)
instance (h : Nat) (s : Int) (i j : Nat) : Decidable (May h s i j) := inferInstanceAs (Decidable (_ ∨ _))
theorem may_iff (h : Nat) (s : Int) (i j : Nat) : May h s i j ↔ (s = 1 ∧ j = 0) ∨ (s = 2 ∧ (j ≠ 0 ∨ i = 1)) ∨ (s ≠ 1 ∧ s ≠ 2 ∧ Usf h i j) := Iff.rfl
def ints (l : List Nat) : List Int := l.map Int.ofNat
theorem ints_len (l : List Nat) : (ints l).length = l.length := by simp [ints]
set_option maxRecDepth 100000 in
theorem len8_all : ∀ i : Fin 256, bt (⟨#[0, 1, 2, 2, 3, 3, 3, 3, 4, 4, 4, 4, 4, 4, 4, 4, 5, 5, 5, 5, 5, 5, 5, 5, 5, 5, 5, 5, 5, 5, 5, 5, 6, 6, 6, 6, 6, 6, 6, 6, 6, 6, 6, 6, 6, 6, 6, 6, 6, 6, 6, 6, 6, 6, 6, 6, 6, 6, 6, 6, 6, 6, 6, 6, 7, 7, 7, 7, 7, 7, 7, 7, 7, 7, 7, 7, 7, 7, 7, 7, 7, 7, 7, 7, 7, 7, 7, 7, 7, 7, 7, 7, 7, 7, 7, 7, 7, 7, 7, 7, 7, 7, 7, 7, 7, 7, 7, 7, 7, 7, 7, 7, 7, 7, 7, 7, 7, 7, 7, 7, 7, 7, 7, 7, 7, 7, 7, 7, 8, 8, 8, 8, 8, 8, 8, 8, 8, 8, 8, 8, 8, 8, 8, 8, 8, 8, 8, 8, 8, 8, 8, 8, 8, 8, 8, 8, 8, 8, 8, 8, 8, 8, 8, 8, 8, 8, 8, 8, 8, 8, 8, 8, 8, 8, 8, 8, 8, 8, 8, 8, 8, 8, 8, 8, 8, 8, 8, 8, 8, 8, 8, 8, 8, 8, 8, 8, 8, 8, 8, 8, 8, 8, 8, 8, 8, 8, 8, 8, 8, 8, 8, 8, 8, 8, 8, 8, 8, 8, 8, 8, 8, 8, 8, 8, 8, 8, 8, 8, 8, 8, 8, 8, 8, 8, 8, 8, 8, 8, 8, 8, 8, 8, 8, 8, 8, 8, 8, 8, 8, 8, 8, 8, 8, 8, 8, 8]⟩ : ByteArray) (i.val : Int) = (sz i.val : Int) := by decide +kernel
set_option maxRecDepth 100000 in
theorem len8 {i : Nat} (h : i < 256) : bt (⟨#[0, 1, 2, 2, 3, 3, 3, 3, 4, 4, 4, 4, 4, 4, 4, 4, 5, 5, 5, 5, 5, 5, 5, 5, 5, 5, 5, 5, 5, 5, 5, 5, 6, 6, 6, 6, 6, 6, 6, 6, 6, 6, 6, 6, 6, 6, 6, 6, 6, 6, 6, 6, 6, 6, 6, 6, 6, 6, 6, 6, 6, 6, 6, 6, 7, 7, 7, 7, 7, 7, 7, 7, 7, 7, 7, 7, 7, 7, 7, 7, 7, 7, 7, 7, 7, 7, 7, 7, 7, 7, 7, 7, 7, 7, 7, 7, 7, 7, 7, 7, 7, 7, 7, 7, 7, 7, 7, 7, 7, 7, 7, 7, 7, 7, 7, 7, 7, 7, 7, 7, 7, 7, 7, 7, 7, 7, 7, 7, 8, 8, 8, 8, 8, 8, 8, 8, 8, 8, 8, 8, 8, 8, 8, 8, 8, 8, 8, 8, 8, 8, 8, 8, 8, 8, 8, 8, 8, 8, 8, 8, 8, 8, 8, 8, 8, 8, 8, 8, 8, 8, 8, 8, 8, 8, 8, 8, 8, 8, 8, 8, 8, 8, 8, 8, 8, 8, 8, 8, 8, 8, 8, 8, 8, 8, 8, 8, 8, 8, 8, 8, 8, 8, 8, 8, 8, 8, 8, 8, 8, 8, 8, 8, 8, 8, 8, 8, 8, 8, 8, 8, 8, 8, 8, 8, 8, 8, 8, 8, 8, 8, 8, 8, 8, 8, 8, 8, 8, 8, 8, 8, 8, 8, 8, 8, 8, 8, 8, 8, 8, 8, 8, 8, 8, 8, 8, 8]⟩ : ByteArray) (i : Int) = (sz i : Int) := len8_all ⟨i, h⟩
set_option maxRecDepth 100000 in
theorem len64_j (k n c : Nat) (hn : n < 4294967296) (hc : c ≤ 32) : bits_Len64.j0 (k + 1) (n : Int) (c : Int) = some ((c + sz n : Nat) : Int) := by
  have h32 : sz n ≤ 32 := sz_le hn
  simp only [bits_Len64.j0]
  by_cases h1 : 65536 ≤ n
  · have e1 := sz_div (n := n) (k := 16) h1
    rw [if_pos (by omega)]
    by_cases h2 : 256 ≤ n / 65536
    · have e2 := sz_div (n := n / 65536) (k := 8) h2
      have i1 : n / 65536 / 256 < 256 := by omega
      have e3 : ((n : Int) / 65536 / 256) % 256 = ((n / 65536 / 256 : Nat) : Int) := by omega
      rw [if_pos (by omega), e3, if_pos (by omega), if_pos (by omega), len8 i1]
      have e1' : sz n = sz (n / 65536) + 16 := e1
      have e2' : sz (n / 65536) = sz (n / 65536 / 256) + 8 := e2
      rw [w64 (x := (c : Int) + 16) (by omega) (by omega), w64 (x := (c : Int) + 16 + 8) (by omega) (by omega), w64 (x := (sz (n / 65536 / 256) : Int)) (by omega) (by omega), w64 (by omega) (by omega)]
      congr 1; omega
    · have i1 : n / 65536 < 256 := by omega
      have e3 : ((n : Int) / 65536) % 256 = ((n / 65536 : Nat) : Int) := by omega
      have e1' : sz n = sz (n / 65536) + 16 := e1
      rw [if_neg (by omega), e3, if_pos (by omega), if_pos (by omega), len8 i1]
      rw [w64 (x := (c : Int) + 16) (by omega) (by omega), w64 (x := (sz (n / 65536) : Int)) (by omega) (by omega), w64 (by omega) (by omega)]
      congr 1; omega
  · rw [if_neg (by omega)]
    by_cases h2 : 256 ≤ n
    · have e2 : sz n = sz (n / 256) + 8 := sz_div (n := n) (k := 8) h2
      have i1 : n / 256 < 256 := by omega
      have e3 : ((n : Int) / 256) % 256 = ((n / 256 : Nat) : Int) := by omega
      rw [if_pos (by omega), e3, if_pos (by omega), if_pos (by omega), len8 i1]
      rw [w64 (x := (c : Int) + 8) (by omega) (by omega), w64 (x := (sz (n / 256) : Int)) (by omega) (by omega), w64 (by omega) (by omega)]
      congr 1; omega
    · have e3 : (n : Int) % 256 = (n : Int) := by omega
      rw [if_neg (by omega), e3, if_pos (by omega), if_pos (by omega), len8 (by omega)]
      rw [w64 (x := (sz n : Int)) (by omega) (by omega), w64 (by omega) (by omega)]
      congr 1
theorem len64 {n : Nat} (hn : n < 18446744073709551616) (k : Nat) : bits_Len64.f (k + 1) (n : Int) = some (sz n : Int) := by
  unfold bits_Len64.f
  by_cases h : 4294967296 ≤ n
  · have e : sz n = sz (n / 4294967296) + 32 := sz_div (n := n) (k := 32) h
    have := len64_j k (n / 4294967296) 32 (by omega) (by omega)
    rw [if_pos (by omega), show (n : Int) / 4294967296 = ((n / 4294967296 : Nat) : Int) by omega, show (32 : Int) = ((32 : Nat) : Int) by rfl, this]
    congr 2; omega
  · have := len64_j k n 0 (by omega) (by omega)
    rw [if_neg (by omega), show (0 : Int) = ((0 : Nat) : Int) by rfl, this]
    simp
theorem depth_eq {n : Nat} (h0 : n ≠ 0) (hn : n < 18446744073709551616) (k : Nat) : node_depth.f (k + 1) (n : Int) = some (n.log2 : Int) := by
  have := sz_le (k := 64) hn
  unfold node_depth.f
  rw [len64 hn]; simp only [Option.bind_some]
  rw [w64 (by omega) (by omega)]
  unfold sz; rw [if_neg h0]; congr 1; omega
theorem high_eq (h : Int) : node_high.f h = some (decide (Hi h)) := by
  unfold node_high.f
  by_cases h1 : h ≥ 1
  · rw [if_pos h1]; congr 1; rw [decide_eq_decide, hi_iff]; omega
  · rw [if_neg h1]; congr 1; symm; rw [decide_eq_false_iff_not, hi_iff]; omega
theorem check_eq (h : Int) {n : Nat} (hn : n < 18446744073709551616) (k : Nat) : node_Check.f (k + 1) h (n : Int) = some (if Nd h.toNat n then 0 else 1) := by
  unfold node_Check.f
  rw [high_eq]; simp only [Option.bind_some]
  by_cases h1 : Hi h
  · rw [decide_eq_true h1, if_pos rfl]
    rw [hi_iff] at h1
    by_cases h2 : n = 0
    · rw [if_pos (by omega), if_neg (by rw [nd_iff]; omega)]
    · rw [if_neg (by omega), depth_eq h2 hn]; simp only [Option.bind_some]
      by_cases h3 : (n.log2 : Int) > h
      · rw [if_pos h3, if_neg (by rw [nd_iff]; omega)]
      · rw [if_neg h3, if_pos (by rw [nd_iff]; omega)]
  · rw [decide_eq_false h1, if_neg (by simp), if_neg (by rw [nd_iff]; rw [hi_iff] at h1; omega)]
theorem both_eq (h : Int) {a b : Nat} (ha : a < 18446744073709551616) (hb : b < 18446744073709551616) (k : Nat) :
    node_both.f (k + 1) h (a : Int) (b : Int) = some (if Nd h.toNat a ∧ Nd h.toNat b then 0 else 1) := by
  unfold node_both.f
  rw [check_eq h ha, check_eq h hb]; simp only [Option.bind_some]
  by_cases h1 : Nd h.toNat a <;> by_cases h2 : Nd h.toNat b <;> simp [h1, h2]
theorem shr_eq (n : Nat) {k : Nat} (hk : k ≤ 64) : shr .u64 (n : Int) (k : Int) = ((n / 2 ^ k : Nat) : Int) := by
  unfold shr
  have : min ((k : Int)).toNat (IntKind.bits .u64) = k := by
    show min ((k : Int)).toNat 64 = k
    omega
  rw [this]; push_cast; rfl
theorem above_eq {a b : Nat} (ha0 : a ≠ 0) (hb0 : b ≠ 0) (ha : a < 18446744073709551616) (hb : b < 18446744073709551616) (k : Nat) :
    node_above.f (k + 1) (a : Int) (b : Int) = some (decide (Abv a b)) := by
  have h1 := log2_64 ha
  have h2 := log2_64 hb
  unfold node_above.f
  rw [depth_eq ha0 ha, depth_eq hb0 hb]; simp only [Option.bind_some]
  unfold Abv anc
  by_cases h : a.log2 ≤ b.log2
  · rw [if_pos (by omega), w64 (by omega) (by omega), if_pos (by omega), show ((b.log2 : Int) - a.log2) = ((b.log2 - a.log2 : Nat) : Int) by omega, shr_eq _ (by omega)]
    congr 1
    simp only [h, true_and]
    by_cases e : b / 2 ^ (b.log2 - a.log2) = a
    · rw [decide_eq_true e, e]; simp
    · rw [decide_eq_false e, beq_eq_false_iff_ne]; omega
  · rw [if_neg (by omega)]; congr 1; simp [h]
theorem Above_eq (h : Int) {a b : Nat} (ha : a < 18446744073709551616) (hb : b < 18446744073709551616) (k : Nat) :
    node_Above.f (k + 1) h (a : Int) (b : Int) = some (if Nd h.toNat a ∧ Nd h.toNat b then (decide (Abv a b), 0) else (false, 1)) := by
  unfold node_Above.f
  rw [both_eq h ha hb]; simp only [Option.bind_some]
  by_cases h1 : Nd h.toNat a ∧ Nd h.toNat b
  · rw [if_pos h1, if_pos rfl, above_eq h1.1.2.2.1 h1.2.2.2.1 ha hb, if_pos h1]; rfl
  · rw [if_neg h1, if_neg (by omega), if_neg h1]
theorem Depth_eq (h : Int) {n : Nat} (hn : n < 18446744073709551616) (k : Nat) : node_Depth.f (k + 1) h (n : Int) = some (if Nd h.toNat n then ((n.log2 : Int), 0) else (0, 1)) := by
  unfold node_Depth.f
  rw [check_eq h hn]; simp only [Option.bind_some]
  by_cases h1 : Nd h.toNat n
  · rw [if_pos h1, if_pos rfl, depth_eq h1.2.2.1 hn, if_pos h1]; rfl
  · rw [if_neg h1, if_neg (by omega), if_neg h1]
theorem sCheck_eq (h : Int) {i j : Nat} (hi : i < 18446744073709551616) (hj : j < 18446744073709551616) (k : Nat) :
    sub_Check.f (k + 1) h (i : Int) (j : Int) = some (if Sb h.toNat i j then 0 else 1) := by
  unfold sub_Check.f
  by_cases h0 : j = 0
  · subst h0
    rw [if_pos (by rfl), check_eq h hi]; simp only [Option.bind_some]
    by_cases h1 : Nd h.toNat i
    · rw [if_pos h1, if_pos ⟨h1, .inl rfl⟩]
    · rw [if_neg h1, if_neg (fun z => h1 z.1)]
  · rw [if_neg (by omega), Above_eq h hi hj]; simp only [Option.bind_some]
    by_cases h1 : Nd h.toNat i ∧ Nd h.toNat j
    · rw [if_pos h1]; simp only [if_true]
      by_cases h2 : Abv i j
      · rw [decide_eq_true h2, if_pos rfl]
        by_cases h3 : i = j
        · rw [if_pos (by omega), if_neg (by rintro ⟨_, z | ⟨_, z, _⟩⟩ <;> omega)]
        · rw [if_neg (by omega), if_pos ⟨h1.1, .inr ⟨h1.2, h3, h2⟩⟩]
      · rw [decide_eq_false h2, if_neg (by simp), if_neg (fun z => z.2.elim (fun y => h0 y) (fun y => h2 y.2.2))]
    · rw [if_neg h1, if_neg (by simp), if_neg (fun z => z.2.elim (fun y => h0 y) (fun y => h1 ⟨z.1, y.1⟩))]
theorem checkRoot_eq (h : Int) (k : Nat) : node_Check.f (k + 1) h 1 = some (if Hi h then 0 else 1) := by
  have := check_eq h root_lt k
  rw [show ((1 : Nat) : Int) = 1 by rfl] at this
  rw [this]
  by_cases h1 : Hi h
  · rw [if_pos h1, if_pos ((nd_root' h).2 h1)]
  · rw [if_neg h1, if_neg (fun z => h1 ((nd_root' h).1 z))]
theorem stepL_eq : ∀ h : Fin 33, 1 ≤ h.val → sub_Step.l0 8 (h.val : Int) 1 = some ((stp h.val : Int), 0) := by decide +kernel
theorem Step_eq (h : Int) {k : Nat} (hk : 10 ≤ k) : sub_Step.f k h = some (if Hi h then ((stp h.toNat : Int), 0) else (0, 1)) := by
  obtain ⟨k, rfl⟩ : ∃ m, k = m + 1 := ⟨k - 1, by omega⟩
  unfold sub_Step.f
  rw [checkRoot_eq]; simp only [Option.bind_some]
  by_cases h1 : Hi h
  · rw [if_pos h1, if_pos rfl, if_pos h1]
    rw [hi_iff] at h1
    have := stepL_eq ⟨h.toNat, by omega⟩ (by show 1 ≤ h.toNat; omega)
    have e : ((h.toNat : Nat) : Int) = h := by omega
    simp only [e] at this
    exact at_rounds (g := fun k => sub_Step.l0 k h 1) (fun k => (sub_Step.mono_l k) _ _) (show 8 ≤ k + 1 by omega) this
  · rw [if_neg h1, if_neg (by omega), if_neg h1]
theorem mn_cast (a b : Nat) : mn (a : Int) (b : Int) = ((min a b : Nat) : Int) := by unfold mn; split <;> omega
theorem nxt_cast (h i : Nat) (hi : i ≤ 32) (hh : h ≤ 32) : mn (wrap64 (wrap64 (wrap64 (Int.tdiv (i : Int) (stp h : Int)) + 1) * (stp h : Int))) (h : Int) = (nxt h i : Int) := by
  obtain ⟨s0, s1⟩ := stp_pos h
  have hd : i / stp h ≤ 32 := Nat.le_trans (Nat.div_le_self _ _) hi
  have hm : (i / stp h + 1) * stp h ≤ 33 * 6 := Nat.mul_le_mul (by omega) s1
  rw [Int.tdiv_eq_ediv_of_nonneg (by omega), ← Int.natCast_ediv]
  unfold nxt
  generalize i / stp h = r at hd hm
  rw [w64 (x := (r : Int)) (by omega) (by omega), show (r : Int) + 1 = ((r + 1 : Nat) : Int) by omega, w64 (x := ((r + 1 : Nat) : Int)) (by omega) (by omega), ← Int.natCast_mul]
  generalize (r + 1) * stp h = q at hm
  rw [w64 (by omega) (by omega), mn_cast]
theorem depths_eq {h i j : Nat} (hs : Sb h i j) (hj : j < 18446744073709551616) {k : Nat} (hk : 10 ≤ k) :
    sub_depths.f k (h : Int) (i : Int) (j : Int) = some ((i.log2 : Int), (if j = 0 then 0 else (j.log2 : Int)), (nxt h i.log2 : Int), decide (Spc h i.log2), 0) := by
  obtain ⟨hi, hj'⟩ := hs
  have hl := hi.2.2.2
  have h32 := hi.2.1
  obtain ⟨s0, s1⟩ := stp_pos h
  have hilt := hi.lt33
  have hH : Hi (h : Int) := by rw [hi_iff]; have := hi.1; omega
  have hsp : ∀ (b : Bool), b = decide ((i.log2 : Int) = h) → (if ((i.log2 % stp h : Nat) : Int) = 0 then true else b) = decide (Spc h i.log2) := by
    intro b hb
    by_cases c : i.log2 % stp h = 0
    · rw [if_pos (by omega)]; symm; rw [decide_eq_true_iff]; exact .inl c
    · rw [if_neg (by omega), hb, decide_eq_decide, spc_iff]; omega
  have hbe : (((i.log2 : Int)) == (h : Int)) = decide ((i.log2 : Int) = h) := by
    by_cases c : (i.log2 : Int) = h
    · rw [decide_eq_true c]; simp [c]
    · rw [decide_eq_false c]; simp [c]
  obtain ⟨k, rfl⟩ : ∃ m, k = m + 1 := ⟨k - 1, by omega⟩
  unfold sub_depths.f
  rw [Step_eq _ (by omega), if_pos hH]; simp only [Option.bind_some, Int.toNat_natCast]
  rw [if_pos trivial, Depth_eq _ (by omega), Int.toNat_natCast, if_pos hi]; simp only [Option.bind_some]
  rw [if_pos trivial]
  by_cases h0 : j = 0
  · subst h0
    rw [if_pos (by rfl), if_neg (by omega), nxt_cast h i.log2 (by omega) h32, tmod_cast]
    simp only [if_true]
    rw [← hsp _ hbe]
    split <;> simp
  · obtain ⟨hj1, _, _⟩ := hj'.resolve_left h0
    rw [if_neg (by omega), Depth_eq _ hj, Int.toNat_natCast, if_pos hj1]; simp only [Option.bind_some]
    rw [if_neg (by omega), nxt_cast h i.log2 (by omega) h32, tmod_cast, if_neg h0]
    rw [← hsp _ hbe]
    split <;> simp
theorem Useful_eq (h : Int) {i j : Nat} (hi : i < 18446744073709551616) (hj : j < 18446744073709551616) {k : Nat} (hk : 10 ≤ k) :
    sub_Useful.f k h (i : Int) (j : Int) = some (if Sb h.toNat i j then (decide (Usf h.toNat i j), 0) else (false, 1)) := by
  obtain ⟨k, rfl⟩ : ∃ m, k = m + 1 := ⟨k - 1, by omega⟩
  unfold sub_Useful.f
  rw [sCheck_eq h hi hj]; simp only [Option.bind_some]
  by_cases h1 : Sb h.toNat i j
  · have e := sb_h h1
    rw [if_pos h1, if_pos rfl, if_pos h1]
    by_cases h0 : j = 0
    · subst h0
      rw [if_pos (by rfl)]; congr 2
      by_cases c : i = 1
      · rw [decide_eq_true ((usf_0 _ _).2 c), c]; rfl
      · rw [decide_eq_false (fun z => c ((usf_0 _ _).1 z)), beq_eq_false_iff_ne]; omega
    · have := depths_eq h1 hj (k := k + 1) (by omega)
      rw [e] at this
      rw [if_neg (by omega), this]; simp only [Option.bind_some, if_true]
      rw [if_neg h0]
      have hu := usf_j h.toNat i h0
      by_cases c : Spc h.toNat i.log2
      · rw [decide_eq_true c, if_pos rfl, decide_eq_true (hu.2 (.inl c))]
      · rw [decide_eq_false c, if_neg (by simp)]; congr 2; rw [decide_eq_decide, hu]
        constructor
        · intro z; right; omega
        · rintro (z | z)
          · exact absurd z c
          · omega
  · rw [if_neg h1, if_neg (by omega), if_neg h1]
def Up (l : List Nat) : Prop := l.Pairwise (· < ·)
theorem Up.lt {a : Nat} {l : List Nat} (h : Up (a :: l)) {x : Nat} (hx : x ∈ l) : a < x := (List.pairwise_cons.1 h).1 x hx
theorem ints_app (a b : List Nat) : ints a ++ ints b = ints (a ++ b) := by simp [ints]
theorem ints_one (n : Nat) : [(n : Int)] = ints [n] := rfl
instance (l : List Nat) : Decidable (Up l) := inferInstanceAs (Decidable (l.Pairwise (· < ·)))
/-- A number's octets, the lowest one first. -/
def oct : Nat → Nat → List Nat
  | _, 0 => []
  | n, m + 1 => n % 256 :: oct (n / 256) m
theorem oct_len : ∀ (m n : Nat), (oct n m).length = m
  | 0, _ => rfl
  | m + 1, n => by rw [oct, List.length_cons, oct_len m]
/-- The number of octets. -/
def nm : List Nat → Nat
  | [] => 0
  | c :: l => c + 256 * nm l
theorem nm_oct : ∀ (m n : Nat), n < 256 ^ m → nm (oct n m) = n
  | 0, n, h => by rw [Nat.pow_zero] at h; rw [oct, nm]; omega
  | m + 1, n, h => by rw [oct, nm, nm_oct m _ (by rw [Nat.pow_succ] at h; omega)]; omega
theorem oct_lt : ∀ (m n : Nat), ∀ c ∈ oct n m, c < 256
  | 0, _ => by simp [oct]
  | m + 1, n => by
    intro c hc
    rw [oct] at hc
    rcases List.mem_cons.1 hc with rfl | hc
    · exact Nat.mod_lt _ (by decide)
    · exact oct_lt m _ c hc
theorem hput_l (o n : Nat) (ho : o ≤ 8) (hn : n < 18446744073709551616) : ∀ (q i k : Nat) (A : List Nat), i + q = o → q < k → A.length ≤ 100000000 + i →
    head_put.l0 k (ints A) (n : Int) (o : Int) (i : Int) = some (ints (A ++ oct (n / 256 ^ i) q)) := by
  intro q
  induction q with
  | zero =>
    intro i k A hi hk hA
    obtain ⟨k, rfl⟩ : ∃ m, k = m + 1 := ⟨k - 1, by omega⟩
    rw [head_put.l0, if_neg (by omega)]; simp [oct]
  | succ q ih =>
    intro i k A hi hk hA
    obtain ⟨k, rfl⟩ : ∃ m, k = m + 1 := ⟨k - 1, by omega⟩
    have e8 : wrap64 (8 * (i : Int)) = ((8 * i : Nat) : Int) := by rw [w64 (by omega) (by omega)]; omega
    have ep : 2 ^ (8 * i) = 256 ^ i := by rw [show (256 : Nat) = 2 ^ 8 by decide, ← Nat.pow_mul]
    rw [head_put.l0, if_pos (by omega), e8, if_pos (by omega), if_pos (by rw [ints_len]; omega), shr_eq n (by omega), ep, w64 (by omega) (by omega),
      show ((n / 256 ^ i : Nat) : Int) % 256 = (((n / 256 ^ i) % 256 : Nat) : Int) by omega, ints_one, ints_app, show (i : Int) + 1 = ((i + 1 : Nat) : Int) by omega,
      ih (i + 1) k _ (by omega) (by omega) (by simp; omega), oct, List.append_assoc, Nat.pow_succ, Nat.div_div_eq_div_mul]
    rfl
theorem hput_eq {n o : Nat} (A : List Nat) (ho : o ≤ 8) (hn : n < 18446744073709551616) (hA : A.length ≤ 100000000) {k : Nat} (hk : 9 ≤ k) : head_put.f k (ints A) (n : Int) (o : Int) = some (ints (A ++ oct n o)) := by
  unfold head_put.f
  have := hput_l o n ho hn o 0 k A (by omega) (by omega) (by omega)
  rw [show (0 : Int) = ((0 : Nat) : Int) from rfl, this, Nat.pow_zero, Nat.div_one]
/-- A block's octets. -/
def so (a b : Nat) : List Nat := oct a 8 ++ oct b 8
theorem so_len (a b : Nat) : (so a b).length = 16 := by simp [so, oct_len]
theorem oct_get : ∀ (m n i : Nat) (h : i < (oct n m).length), (oct n m)[i] = n / 256 ^ i % 256
  | 0, _, _, h => by simp [oct] at h
  | m + 1, n, 0, h => by simp [oct]
  | m + 1, n, i + 1, h => by
    simp only [oct, List.getElem_cons_succ]
    rw [oct_get m (n / 256) i, Nat.pow_succ, Nat.div_div_eq_div_mul, Nat.mul_comm]
theorem so_get (a b i : Nat) (h : i < 16) : (so a b)[i]'(by rw [so_len]; exact h) = (if i < 8 then a else b) / 256 ^ (i % 8) % 256 := by
  unfold so
  by_cases c : i < 8
  · rw [List.getElem_append_left (by rw [oct_len]; exact c), oct_get, if_pos c, Nat.mod_eq_of_lt c]
  · rw [List.getElem_append_right (by rw [oct_len]; omega), oct_get, if_neg c]
    simp only [oct_len]
    rw [show i % 8 = i - 8 by omega]
theorem moct_l (a b : Nat) : ∀ (q i k : Nat) (A : List Nat), i + q = 16 → q < k → A.length = 16 → A.take i = (so a b).take i →
    mix_Octets.l0 k [(a : Int), (b : Int)] (ints A) 16 (i : Int) = some (ints (so a b)) := by
  intro q
  induction q with
  | zero =>
    intro i k A hi hk hA e
    obtain ⟨k, rfl⟩ : ∃ m, k = m + 1 := ⟨k - 1, by omega⟩
    rw [List.take_of_length_le (by omega), List.take_of_length_le (by rw [so_len]; omega)] at e
    rw [mix_Octets.l0, if_neg (by omega), e]
  | succ q ih =>
    intro i k A hi hk hA e
    obtain ⟨k, rfl⟩ : ∃ m, k = m + 1 := ⟨k - 1, by omega⟩
    have d8 : wrap64 (Int.tdiv (i : Int) 8) = ((i / 8 : Nat) : Int) := by rw [Int.tdiv_eq_ediv_of_nonneg (by omega), w64 (by omega) (by omega)]; omega
    have m8 : wrap64 (Int.tmod (i : Int) 8 * 8) = ((i % 8 * 8 : Nat) : Int) := by rw [Int.tmod_eq_emod_of_nonneg (by omega), w64 (by omega) (by omega)]; omega
    have ep : 2 ^ (i % 8 * 8) = 256 ^ (i % 8) := by rw [show (256 : Nat) = 2 ^ 8 by decide, ← Nat.pow_mul, Nat.mul_comm]
    have rdv : rd [(a : Int), (b : Int)] ((i / 8 : Nat) : Int) = (((if i < 8 then a else b) : Nat) : Int) := by
      by_cases c : i < 8
      · rw [if_pos c, show i / 8 = 0 by omega]; rfl
      · rw [if_neg c, show i / 8 = 1 by omega]; rfl
    rw [mix_Octets.l0, if_pos (by omega), d8, if_pos (by omega), if_pos (by omega), m8, if_pos (by omega), if_pos (by omega), if_pos (by rw [ints_len]; omega), rdv, shr_eq _ (by omega), ep, w64 (by omega) (by omega),
      show (i : Int) + 1 = ((i + 1 : Nat) : Int) by omega, Int.toNat_natCast,
      show (((if i < 8 then a else b) / 256 ^ (i % 8) : Nat) : Int) % 256 = (((if i < 8 then a else b) / 256 ^ (i % 8) % 256 : Nat) : Int) by omega]
    have es : (ints A).set i (((if i < 8 then a else b) / 256 ^ (i % 8) % 256 : Nat) : Int) = ints (A.set i ((if i < 8 then a else b) / 256 ^ (i % 8) % 256)) := by
      unfold ints; rw [List.map_set]; rfl
    rw [es]
    refine ih (i + 1) k _ (by omega) (by omega) (by rw [List.length_set]; exact hA) ?_
    have hi16 : i < 16 := by omega
    rw [List.take_succ_eq_append_getElem (by rw [List.length_set, hA]; exact hi16), List.take_succ_eq_append_getElem (by rw [so_len]; exact hi16), List.getElem_set_self, so_get a b i hi16, List.take_set_of_le (by omega), e]
theorem moct_eq (a b : Nat) {k : Nat} (hk : 17 ≤ k) : mix_Octets.f k (a : Int) (b : Int) = some (ints (so a b)) := by
  unfold mix_Octets.f mix_Octets.g
  rw [if_pos (by decide), bnd]
  have := moct_l a b 16 0 k (List.replicate 16 0) (by omega) (by omega) (by simp) (by simp)
  exact this
theorem soct_eq (a b c d : Nat) {k : Nat} (hk : 17 ≤ k) : seal_Octets.f k (a : Int) (b : Int) (c : Int) (d : Int) = some (ints (so a b ++ so c d)) := by
  unfold seal_Octets.f
  rw [moct_eq a b hk, bnd, moct_eq c d hk, bnd, if_pos (by rw [ints_len, ints_len, so_len, so_len]; omega), ints_app]
theorem cmp_eq (a b : Int) : cmp_Compare_uint64.f a b = some (if a < b then -1 else if a > b then 1 else 0) := by
  unfold cmp_Compare_uint64.f cmp_isNaN_uint64.f
  simp
  split
  · rfl
  · split <;> rfl
theorem or_eq (x y : Int) (k : Nat) : cmp_Or_int.f (k + 3) [x, y] = some (if x = 0 then y else x) := by
  unfold cmp_Or_int.f
  have w1 : wrap64 1 = 1 := by unfold wrap64; omega
  have w2 : wrap64 2 = 2 := by unfold wrap64; omega
  simp only [cmp_Or_int.l0, List.length_cons, List.length_nil]
  by_cases h : x = 0
  · subst h
    by_cases h2 : y = 0
    · subst h2; simp [rd, w1, w2]
    · simp [rd, w1, w2, h2]
  · simp [rd, h]
theorem Less_eq (i j a b : Nat) {k : Nat} (hk : 3 ≤ k) : sub_Less.f k (i : Int) (j : Int) (a : Int) (b : Int) = some (decide (Lss (i, j) (a, b))) := by
  obtain ⟨k, rfl⟩ : ∃ m, k = m + 3 := ⟨k - 3, by omega⟩
  unfold sub_Less.f
  rw [cmp_eq, cmp_eq]; simp only [Option.bind_some]
  rw [or_eq]; simp only [Option.bind_some]
  congr 1; rw [decide_eq_decide, lss_iff]
  simp only
  repeat' split
  all_goals omega
theorem lcheck_eq (h s : Int) (k : Nat) : layer_check.f (k + 1) h s = some (if Sch s ∧ Hi h then 0 else 1) := by
  unfold layer_check.f
  by_cases c1 : s < 1
  · rw [if_pos c1, if_neg (by rw [sch_iff]; omega)]
  · rw [if_neg c1]
    by_cases c2 : s > 3
    · rw [if_pos c2, if_neg (by rw [sch_iff]; omega)]
    · rw [if_neg c2, checkRoot_eq]; simp only [bnd]
      by_cases c3 : Hi h
      · rw [if_pos c3, if_pos ⟨(sch_iff s).2 (by omega), c3⟩]
      · rw [if_neg c3, if_neg (fun z => c3 z.2)]
theorem May_eq (h s : Int) {i j : Nat} (hi' : i < 18446744073709551616) (hj : j < 18446744073709551616) {k : Nat} (hk : 12 ≤ k) :
    layer_May.f k h s (i : Int) (j : Int) = some (if Sch s ∧ Sb h.toNat i j then (decide (May h.toNat s i j), 0) else (false, 1)) := by
  obtain ⟨k, rfl⟩ : ∃ m, k = m + 1 := ⟨k - 1, by omega⟩
  unfold layer_May.f
  rw [lcheck_eq, sCheck_eq h hi' hj]; simp only [bnd]
  by_cases c1 : Sch s ∧ Hi h
  · rw [if_pos c1]; simp only [if_true]
    by_cases c2 : Sb h.toNat i j
    · have c3 : Sch s ∧ Sb h.toNat i j := ⟨c1.1, c2⟩
      rw [if_pos c2, if_pos c3]
      simp only [layer_May.j0]
      rw [if_neg (by simp)]
      by_cases e1 : s = 1
      · rw [if_pos e1]; congr 2
        rw [Bool.eq_iff_iff, decide_eq_true_iff, may_iff]
        simp [e1]
      · rw [if_neg e1]
        by_cases e2 : s = 2
        · rw [if_pos e2]
          by_cases e3 : j = 0
          · subst e3
            rw [if_pos (by rfl)]; congr 2
            rw [Bool.eq_iff_iff, decide_eq_true_iff, may_iff]
            simp [e2]; omega
          · rw [if_neg (by omega)]; congr 2
            symm; rw [decide_eq_true_iff, may_iff]
            simp [e2, e3]
        · rw [if_neg e2, Useful_eq h hi' hj (by omega), if_pos c2]; simp only [bnd]
          congr 2
          rw [decide_eq_decide, may_iff]
          simp [e1, e2]
    · rw [if_neg c2, if_neg (fun z => c2 z.2)]; simp [layer_May.j0]
  · have c3 : ¬ (Sch s ∧ Sb h.toNat i j) := by
      rintro ⟨a, b⟩
      refine c1 ⟨a, ?_⟩
      have := b.1; rw [nd_iff] at this; rw [hi_iff]; omega
    rw [if_neg c1, if_neg c3]; simp [layer_May.j0]
abbrev U (x : Int) : Prop := 0 ≤ x ∧ x < 18446744073709551616
/-- A sealed value's numbers fit. -/
def Us (s : S27) : Prop := U s.f0.f0 ∧ U s.f0.f1 ∧ U s.f1.f0 ∧ U s.f1.f1
/-- What a part's numbers are. -/
def Upt (p : S41) : Prop := U p.f0.f0 ∧ U p.f0.f1 ∧ Us p.f1.f3
/-- Whether a value is of octets, and sealed. -/
def shv (v : S29) : Prop := v.f0 = false ∧ v.f1 = true ∧ v.f2 = ⟨0, 0⟩ ∧ v.f4 = 0
instance decShv (v : S29) : Decidable (shv v) := by
  unfold shv
  exact decidable_of_iff (v.f0 = false ∧ v.f1 = true ∧ (v.f2.f0 = 0 ∧ v.f2.f1 = 0) ∧ v.f4 = 0) (by
    rcases v with ⟨_, _, ⟨_, _⟩, _, _⟩; simp)
theorem shut_eq (v : S29) : head_shut.f v.f0 v.f1 v.f2.f0 v.f2.f1 v.f3.f0.f0 v.f3.f0.f1 v.f3.f1.f0 v.f3.f1.f1 v.f4 = some (decide (shv v)) := by
  rcases v with ⟨a, b, ⟨c, d⟩, e, f⟩
  unfold head_shut.f shv
  cases a <;> cases b <;> simp <;> by_cases h1 : c = 0 <;> by_cases h2 : d = 0 <;> by_cases h3 : f = 0 <;> simp [h1, h2, h3]
/-- Whether part i may stand where it does. -/
def okpt (h s : Int) (L : List S41) (i : Nat) : Prop :=
  (∃ p, L[i]? = some p ∧ Sch s ∧ Sb h.toNat p.f0.f0.toNat p.f0.f1.toNat ∧ May h.toNat s p.f0.f0.toNat p.f0.f1.toNat ∧ shv p.f1 ∧
    (0 < i → ∃ q, L[i - 1]? = some q ∧ Lss (q.f0.f0.toNat, q.f0.f1.toNat) (p.f0.f0.toNat, p.f0.f1.toNat)))
open Classical in
theorem chk_l (h s : Int) (L : List S41) (hL : ∀ p ∈ L, Upt p) (hn : L.length ≤ 50000) (x0 x1 x2 : Int) (x4 x5 : Bool) (x6 x7 x8 x9 x10 x11 x12 : Int) : ∀ (q i k : Nat), i + q = L.length → q + 20 ≤ k →
    head_Check.l0 k L (L.length : Int) (i : Int) s h x2 L x4 x5 x6 x7 x8 x9 x10 x11 x12 = some (if ∀ j, i ≤ j → j < L.length → okpt h s L j then 0 else 1) := by
  intro q
  induction q with
  | zero =>
    intro i k hi hk
    obtain ⟨k, rfl⟩ : ∃ m, k = m + 1 := ⟨k - 1, by omega⟩
    rw [head_Check.l0, if_neg (by omega), if_pos (by intro j h1 h2; omega)]
  | succ q ih =>
    intro i k hi hk
    obtain ⟨k, rfl⟩ : ∃ m, k = m + 1 := ⟨k - 1, by omega⟩
    have hlt : i < L.length := by omega
    have nx := ih (i + 1) k (by omega) (by omega)
    obtain ⟨⟨p00, p01⟩, ⟨p10, p11⟩, us⟩ := hL _ (List.getElem_mem hlt)
    have r1 : rd_T41 L (i : Int) = L[i] := by unfold rd_T41; simp [List.getD_eq_getElem?_getD, hlt]
    have g1 : L[i]? = some L[i] := List.getElem?_eq_getElem hlt
    rw [head_Check.l0, if_pos (by omega), if_pos (by omega), if_pos (by omega), r1]
    have e0 : L[i].f0.f0 = ((L[i].f0.f0.toNat : Nat) : Int) := (Int.toNat_of_nonneg p00).symm
    have e1 : L[i].f0.f1 = ((L[i].f0.f1.toNat : Nat) : Int) := (Int.toNat_of_nonneg p10).symm
    have my := May_eq h s (i := L[i].f0.f0.toNat) (j := L[i].f0.f1.toNat) (by omega) (by omega) (k := k) (by omega)
    rw [← e0, ← e1] at my
    rw [my, bnd]
    by_cases c1 : Sch s ∧ Sb h.toNat L[i].f0.f0.toNat L[i].f0.f1.toNat
    · rw [if_pos c1]; simp only [if_true, decide_eq_true_eq]
      by_cases c2 : May h.toNat s L[i].f0.f0.toNat L[i].f0.f1.toNat
      · rw [if_pos c2, shut_eq, bnd]
        by_cases c3 : shv L[i].f1
        · simp only [c3, decide_true, if_true]
          by_cases c4 : 0 < i
          · have hlt' : i - 1 < L.length := by omega
            obtain ⟨⟨q00, q01⟩, ⟨q10, q11⟩, _⟩ := hL _ (List.getElem_mem hlt')
            have w1 : wrap64 ((i : Int) - 1) = ((i - 1 : Nat) : Int) := by rw [w64 (by omega) (by omega)]; omega
            have r2 : rd_T41 L ((i - 1 : Nat) : Int) = L[i - 1] := by unfold rd_T41; simp [List.getD_eq_getElem?_getD, hlt']
            have f0 : L[i - 1].f0.f0 = ((L[i - 1].f0.f0.toNat : Nat) : Int) := (Int.toNat_of_nonneg q00).symm
            have f1 : L[i - 1].f0.f1 = ((L[i - 1].f0.f1.toNat : Nat) : Int) := (Int.toNat_of_nonneg q10).symm
            have ls := Less_eq L[i - 1].f0.f0.toNat L[i - 1].f0.f1.toNat L[i].f0.f0.toNat L[i].f0.f1.toNat (k := k) (by omega)
            rw [← f0, ← f1, ← e0, ← e1] at ls
            rw [if_pos (by omega), w1, if_pos (by omega), if_pos (by omega), r2, ls, bnd]
            simp only [decide_eq_true_eq]
            by_cases c5 : Lss (L[i - 1].f0.f0.toNat, L[i - 1].f0.f1.toNat) (L[i].f0.f0.toNat, L[i].f0.f1.toNat)
            · rw [if_pos c5, w64 (by omega) (by omega), show (i : Int) + 1 = ((i + 1 : Nat) : Int) by omega, nx]
              congr 1
              have : okpt h s L i := ⟨_, g1, c1.1, c1.2, c2, c3, fun _ => ⟨_, List.getElem?_eq_getElem hlt', c5⟩⟩
              by_cases a : ∀ j, i + 1 ≤ j → j < L.length → okpt h s L j
              · rw [if_pos a, if_pos (fun j h1 h2 => by rcases Nat.eq_or_lt_of_le h1 with rfl | h1; exact this; exact a j h1 h2)]
              · rw [if_neg a, if_neg (fun z => a fun j h1 h2 => z j (by omega) h2)]
            · rw [if_neg c5, if_neg]
              intro z
              obtain ⟨p, gp, _, _, _, _, hq⟩ := z i (Nat.le_refl _) hlt
              obtain ⟨q, gq, lq⟩ := hq c4
              rw [g1] at gp; rw [List.getElem?_eq_getElem hlt'] at gq
              cases gp; cases gq
              exact c5 lq
          · rw [if_neg (by omega), w64 (by omega) (by omega), show (i : Int) + 1 = ((i + 1 : Nat) : Int) by omega, nx]
            congr 1
            have : okpt h s L i := ⟨_, g1, c1.1, c1.2, c2, c3, fun z => absurd z c4⟩
            by_cases a : ∀ j, i + 1 ≤ j → j < L.length → okpt h s L j
            · rw [if_pos a, if_pos (fun j h1 h2 => by rcases Nat.eq_or_lt_of_le h1 with rfl | h1; exact this; exact a j h1 h2)]
            · rw [if_neg a, if_neg (fun z => a fun j h1 h2 => z j (by omega) h2)]
        · simp only [c3, decide_false, Bool.false_eq_true, if_false]
          rw [if_neg]
          intro z
          obtain ⟨p, gp, _, _, _, hs, _⟩ := z i (Nat.le_refl _) hlt
          rw [g1] at gp; cases gp; exact c3 hs
      · rw [if_neg c2, if_neg]
        intro z
        obtain ⟨p, gp, _, _, hm, _⟩ := z i (Nat.le_refl _) hlt
        rw [g1] at gp; cases gp; exact c2 hm
    · rw [if_neg c1]; simp only [show ¬ ((1 : Int) = 0) by decide, if_false]
      rw [if_neg]
      intro z
      obtain ⟨p, gp, h1, h2, _⟩ := z i (Nat.le_refl _) hlt
      rw [g1] at gp; cases gp; exact c1 ⟨h1, h2⟩
/-- Whether a header may be. -/
def Ck (s h e : Int) (L : List S41) (v : S29) : Prop :=
  Hi h ∧ Sch s ∧ 1 ≤ e ∧ e ≤ 1099511627776 ∧ L.length ≤ 32768 ∧ shv v ∧ ∀ j, j < L.length → okpt h s L j
open Classical in
theorem Check_eq (s h e : Int) (L : List S41) (v : S29) (hL : ∀ p ∈ L, Upt p) (hn : L.length ≤ 50000) {k : Nat} (hk : L.length + 30 ≤ k) :
    head_Check.f k s h e L v.f0 v.f1 v.f2.f0 v.f2.f1 v.f3.f0.f0 v.f3.f0.f1 v.f3.f1.f0 v.f3.f1.f1 v.f4 = some (if Ck s h e L v then 0 else 1) := by
  obtain ⟨k, rfl⟩ : ∃ m, k = m + 2 := ⟨k - 2, by omega⟩
  have j1 : ∀ (a : Int), head_Check.j0 (k + 2) true s h e L v.f0 v.f1 v.f2.f0 v.f2.f1 v.f3.f0.f0 v.f3.f0.f1 v.f3.f1.f0 v.f3.f1.f1 v.f4 = some 1 := fun _ => by rw [head_Check.j0, if_pos rfl]
  unfold head_Check.f
  rw [checkRoot_eq, bnd]
  by_cases c1 : Hi h
  · rw [if_pos c1, if_pos rfl]
    by_cases c2 : e < 1
    · rw [if_pos c2, j1 0, if_neg (fun z => by have := z.2.2.1; omega)]
    rw [if_neg c2]
    by_cases c3 : e > 1099511627776
    · rw [if_pos c3, j1 0, if_neg (fun z => by have := z.2.2.2.1; omega)]
    rw [if_neg c3]
    by_cases c4 : (L.length : Int) > 32768
    · rw [if_pos c4, j1 0, if_neg (fun z => by have := z.2.2.2.2.1; omega)]
    rw [if_neg c4, shut_eq, bnd]
    by_cases c5 : shv v
    · simp only [c5, decide_true, Bool.not_true]
      rw [head_Check.j0, if_neg (by decide)]
      have my := May_eq h s (i := 1) (j := 0) (by omega) (by omega) (k := k + 1) (by omega)
      have sb : Sb h.toNat 1 0 := ⟨by unfold Nd; unfold Hi at c1; rw [log2_one]; omega, .inl rfl⟩
      rw [show ((1 : Nat) : Int) = 1 from rfl, show ((0 : Nat) : Int) = 0 from rfl] at my
      by_cases c6 : Sch s
      · rw [my.trans (congrArg some (if_pos ⟨c6, sb⟩)), bnd]
        dsimp only
        rw [if_pos rfl]
        have := chk_l h s L hL hn s h e v.f0 v.f1 v.f2.f0 v.f2.f1 v.f3.f0.f0 v.f3.f0.f1 v.f3.f1.f0 v.f3.f1.f1 v.f4 L.length 0 (k + 1) (by omega) (by omega)
        rw [show ((0 : Nat) : Int) = 0 from rfl] at this
        rw [this]
        congr 1
        by_cases a : ∀ j, j < L.length → okpt h s L j
        · rw [if_pos (fun j _ h2 => a j h2), if_pos ⟨c1, c6, by omega, by omega, by omega, c5, a⟩]
        · rw [if_neg (fun z => a fun j h2 => z j (Nat.zero_le _) h2), if_neg (fun z => a z.2.2.2.2.2.2)]
      · rw [my.trans (congrArg some (if_neg (fun z => c6 z.1))), bnd]
        dsimp only
        rw [if_neg (by decide), if_neg (fun z => c6 z.2.1)]
    · simp only [c5, decide_false, Bool.not_false]
      rw [j1 0, if_neg (fun z => c5 z.2.2.2.2.2.1)]
  · rw [if_neg c1, if_neg (by decide), j1 0, if_neg (fun z => c1 z.1)]
/-- A sealed value's octets; a part's; a header's. -/
def st (s : S27) : List Nat := so s.f0.f0.toNat s.f0.f1.toNat ++ so s.f1.f0.toNat s.f1.f1.toNat
def pt (p : S41) : List Nat := oct p.f0.f0.toNat 8 ++ (oct p.f0.f1.toNat 8 ++ st p.f1.f3)
def front (s h e : Int) (n : Nat) : List Nat := [1, s.toNat % 256, h.toNat % 256] ++ (oct e.toNat 8 ++ oct n 4)
def text (s h e : Int) (L : List S41) (v : S29) : List Nat := front s h e L.length ++ (L.flatMap pt ++ st v.f3)
theorem st_len (s : S27) : (st s).length = 32 := by simp [st, so_len]
theorem pt_len (p : S41) : (pt p).length = 48 := by simp [pt, st_len, oct_len]
theorem pts_len : ∀ (L : List S41), (L.flatMap pt).length = 48 * L.length
  | [] => rfl
  | p :: L => by rw [List.flatMap_cons, List.length_append, pt_len, pts_len L, List.length_cons]; omega
theorem front_len (s h e : Int) (n : Nat) : (front s h e n).length = 15 := by simp [front, oct_len]
theorem text_len (s h e : Int) (L : List S41) (v : S29) : (text s h e L v).length = 47 + 48 * L.length := by
  unfold text; rw [List.length_append, List.length_append, front_len, pts_len, st_len]; omega
theorem byt_l (L : List S41) (hL : ∀ p ∈ L, Upt p) (hn : L.length ≤ 50000) (v : S29) (hv : Us v.f3) (x0 x1 x2 : Int) (x3 : List S41) (x4 x5 : Bool) (x6 x7 x12 : Int) : ∀ (q i k : Nat) (A : List Nat), i + q = L.length → q + 20 ≤ k → A.length = 15 + 48 * i →
    head_Bytes.l0 k (ints A) L (L.length : Int) (i : Int) x0 x1 x2 x3 x4 x5 x6 x7 v.f3.f0.f0 v.f3.f0.f1 v.f3.f1.f0 v.f3.f1.f1 x12 = some (ints (A ++ ((L.drop i).flatMap pt ++ st v.f3)), 0) := by
  have soc : ∀ (s : S27) (k : Nat), Us s → 17 ≤ k → seal_Octets.f k s.f0.f0 s.f0.f1 s.f1.f0 s.f1.f1 = some (ints (st s)) := by
    intro s k ⟨⟨a0, _⟩, ⟨b0, _⟩, ⟨c0, _⟩, ⟨d0, _⟩⟩ hk
    have := soct_eq s.f0.f0.toNat s.f0.f1.toNat s.f1.f0.toNat s.f1.f1.toNat hk
    rw [Int.toNat_of_nonneg a0, Int.toNat_of_nonneg b0, Int.toNat_of_nonneg c0, Int.toNat_of_nonneg d0] at this
    exact this
  intro q
  induction q with
  | zero =>
    intro i k A hi hk hA
    obtain ⟨k, rfl⟩ : ∃ m, k = m + 1 := ⟨k - 1, by omega⟩
    rw [head_Bytes.l0, if_neg (by omega), soc v.f3 k hv (by omega), bnd, if_pos (by rw [ints_len, ints_len, st_len]; omega), ints_app, List.drop_of_length_le (by omega)]
    rfl
  | succ q ih =>
    intro i k A hi hk hA
    obtain ⟨k, rfl⟩ : ∃ m, k = m + 1 := ⟨k - 1, by omega⟩
    have hlt : i < L.length := by omega
    obtain ⟨⟨p00, p01⟩, ⟨p10, p11⟩, us⟩ := hL _ (List.getElem_mem hlt)
    have r1 : rd_T41 L (i : Int) = L[i] := by unfold rd_T41; simp [List.getD_eq_getElem?_getD, hlt]
    have e0 : L[i].f0.f0 = ((L[i].f0.f0.toNat : Nat) : Int) := (Int.toNat_of_nonneg p00).symm
    have e1 : L[i].f0.f1 = ((L[i].f0.f1.toNat : Nat) : Int) := (Int.toNat_of_nonneg p10).symm
    have h1 := hput_eq (n := L[i].f0.f0.toNat) (o := 8) A (by decide) (by omega) (by omega) (k := k) (by omega)
    have h2 := hput_eq (n := L[i].f0.f1.toNat) (o := 8) (A ++ oct L[i].f0.f0.toNat 8) (by decide) (by omega) (by rw [List.length_append, oct_len]; omega) (k := k) (by omega)
    rw [← e0] at h1; rw [← e1] at h2
    rw [head_Bytes.l0, if_pos (by omega), if_pos (by omega), if_pos (by omega), r1]
    rw [show ((8 : Nat) : Int) = 8 from rfl] at h1 h2
    rw [h1, bnd, h2, bnd, soc _ k us (by omega), bnd, if_pos (by rw [ints_len, ints_len, st_len, List.length_append, List.length_append, oct_len, oct_len]; omega), ints_app, w64 (by omega) (by omega), show (i : Int) + 1 = ((i + 1 : Nat) : Int) by omega]
    have ea : A ++ oct L[i].f0.f0.toNat 8 ++ oct L[i].f0.f1.toNat 8 ++ st L[i].f1.f3 = A ++ pt L[i] := by simp [pt, List.append_assoc]
    rw [ea, ih (i + 1) k _ (by omega) (by omega) (by rw [List.length_append, pt_len]; omega), List.drop_eq_getElem_cons hlt, List.flatMap_cons]
    simp only [List.append_assoc]
open Classical in
theorem Bytes_eq (s h e : Int) (L : List S41) (v : S29) (hL : ∀ p ∈ L, Upt p) (hv : Us v.f3) (hn : L.length ≤ 50000) {k : Nat} (hk : L.length + 40 ≤ k) :
    head_Bytes.f k s h e L v.f0 v.f1 v.f2.f0 v.f2.f1 v.f3.f0.f0 v.f3.f0.f1 v.f3.f1.f0 v.f3.f1.f1 v.f4 = some (if Ck s h e L v then (ints (text s h e L v), 0) else ([], 1)) := by
  unfold head_Bytes.f
  rw [Check_eq s h e L v hL hn (by omega), bnd]
  by_cases c : Ck s h e L v
  · obtain ⟨⟨h1, h2⟩, cs, e1, e2, _, _⟩ := id c
    have ⟨s1, s2⟩ := (sch_iff s).1 cs
    rw [if_pos c, if_pos rfl, if_pos c]
    have we : IntKind.u64.wrap e = ((e.toNat : Nat) : Int) := by rw [wu64 (by omega) (by omega)]; omega
    have wl : IntKind.u64.wrap (L.length : Int) = ((L.length : Nat) : Int) := wu64 (by omega) (by omega)
    have e3 : [1, s % 256, h % 256] = ints [1, s.toNat % 256, h.toNat % 256] := by
      unfold ints; simp; omega
    have p1 := hput_eq (n := e.toNat) (o := 8) [1, s.toNat % 256, h.toNat % 256] (by decide) (by omega) (by simp) (k := k) (by omega)
    have p2 := hput_eq (n := L.length) (o := 4) ([1, s.toNat % 256, h.toNat % 256] ++ oct e.toNat 8) (by decide) (by omega) (by simp [oct_len]) (k := k) (by omega)
    rw [show ((8 : Nat) : Int) = 8 from rfl] at p1
    rw [show ((4 : Nat) : Int) = 4 from rfl] at p2
    rw [we, e3, p1, bnd, wl, p2, bnd]
    have := byt_l L hL hn v hv s h e L v.f0 v.f1 v.f2.f0 v.f2.f1 v.f4 L.length 0 k ([1, s.toNat % 256, h.toNat % 256] ++ oct e.toNat 8 ++ oct L.length 4) (by omega) (by omega) (by simp [oct_len])
    rw [show ((0 : Nat) : Int) = 0 from rfl, List.drop_zero] at this
    rw [this]
    simp only [text, front, List.append_assoc]
  · rw [if_neg c, if_neg (by decide), if_neg c]
theorem str_ints (a : List Nat) : (strOfNums (ints a)).toList = a.map UInt8.ofNat := by
  unfold strOfNums
  rw [Go.ByteArray.toList_mk]; unfold ints; rw [List.map_map]; rfl
theorem map8_inj : ∀ (a b : List Nat), (∀ c ∈ a, c < 256) → (∀ c ∈ b, c < 256) → a.map UInt8.ofNat = b.map UInt8.ofNat → a = b
  | [], [], _, _, _ => rfl
  | [], _ :: _, _, _, h => by simp at h
  | _ :: _, [], _, _, h => by simp at h
  | x :: a, y :: b, ha, hb, h => by
    rw [List.map_cons, List.map_cons, List.cons.injEq] at h
    have hx := ha x List.mem_cons_self
    have hy := hb y List.mem_cons_self
    have e := congrArg UInt8.toNat h.1
    rw [UInt8.toNat_ofNat', UInt8.toNat_ofNat'] at e
    rw [map8_inj a b (fun c hc => ha c (List.mem_cons_of_mem _ hc)) (fun c hc => hb c (List.mem_cons_of_mem _ hc)) h.2, show x = y by omega]
theorem str_beq (a b : List Nat) (ha : ∀ c ∈ a, c < 256) (hb : ∀ c ∈ b, c < 256) : ((strOfNums (ints a)).toList == (strOfNums (ints b)).toList) = decide (a = b) := by
  rw [str_ints, str_ints, Bool.eq_iff_iff, beq_iff_eq, decide_eq_true_iff]
  exact ⟨map8_inj a b ha hb, fun e => by rw [e]⟩
def n8 (l : List Nat) (i : Nat) : Int := (nm ((l.drop i).take 8) : Int)
def slv (l : List Nat) : S29 := ⟨false, true, ⟨0, 0⟩, ⟨⟨n8 l 0, n8 l 8⟩, ⟨n8 l 16, n8 l 24⟩⟩, 0⟩
def mkp (l : List Nat) : S41 := ⟨⟨n8 l 0, n8 l 8⟩, slv (l.drop 16)⟩
def hprs : Nat → List Nat → List S41
  | 0, _ => []
  | m + 1, l => mkp l :: hprs m (l.drop 48)
theorem so_lt (a b : Nat) : ∀ c ∈ so a b, c < 256 := by
  intro c hc
  rcases List.mem_append.1 hc with h | h
  · exact oct_lt _ _ c h
  · exact oct_lt _ _ c h
theorem st_lt (s : S27) : ∀ c ∈ st s, c < 256 := by
  intro c hc
  rcases List.mem_append.1 hc with h | h
  · exact so_lt _ _ c h
  · exact so_lt _ _ c h
theorem pt_lt (p : S41) : ∀ c ∈ pt p, c < 256 := by
  intro c hc
  unfold pt at hc
  rcases List.mem_append.1 hc with h | h
  · exact oct_lt _ _ c h
  · rcases List.mem_append.1 h with h | h
    · exact oct_lt _ _ c h
    · exact st_lt _ c h
theorem text_lt (s h e : Int) (L : List S41) (v : S29) : ∀ c ∈ text s h e L v, c < 256 := by
  intro c hc
  unfold text at hc
  rcases List.mem_append.1 hc with h | h
  · unfold front at h
    rcases List.mem_append.1 h with h | h
    · simp at h; omega
    · rcases List.mem_append.1 h with h | h
      · exact oct_lt _ _ c h
      · exact oct_lt _ _ c h
  · rcases List.mem_append.1 h with h | h
    · obtain ⟨p, _, hp⟩ := List.mem_flatMap.1 h; exact pt_lt p c hp
    · exact st_lt _ c h
def scm (b : List Nat) : Int := (nm ((b.drop 1).take 1) : Int)
def hgt (b : List Nat) : Int := (nm ((b.drop 2).take 1) : Int)
def epo (b : List Nat) : Int := wrap64 (n8 b 3)
/-- What octets are read as; whether that may be, and its text is these. -/
def Rd (m : Nat) (b : List Nat) : Prop := Ck (scm b) (hgt b) (epo b) (hprs m (b.drop 15)) (slv (b.drop (15 + 48 * m))) ∧ text (scm b) (hgt b) (epo b) (hprs m (b.drop 15)) (slv (b.drop (15 + 48 * m))) = b
theorem n8_oct {n : Int} (hn : U n) (A B : List Nat) (i : Nat) (hi : A.length = i) : n8 (A ++ (oct n.toNat 8 ++ B)) i = n := by
  unfold n8
  have p : (256 : Nat) ^ 8 = 18446744073709551616 := by decide
  rw [List.drop_append_of_le_length (by omega), List.drop_of_length_le (by omega), List.nil_append, List.take_append_of_le_length (by rw [oct_len]; exact Nat.le_refl _), List.take_of_length_le (by rw [oct_len]; exact Nat.le_refl _), nm_oct 8 _ (by rw [p]; have := hn.2; omega)]
  have := hn.1; omega
theorem slv_st {v : S29} (hv : Us v.f3) (hs : shv v) (B : List Nat) : slv (st v.f3 ++ B) = v := by
  obtain ⟨a, b, c, d⟩ := hv
  obtain ⟨s1, s2, s3, s4⟩ := hs
  rcases v with ⟨v0, v1, v2, ⟨⟨x, y⟩, ⟨z, w⟩⟩, v4⟩
  dsimp only at a b c d s1 s2 s3 s4 ⊢
  subst s1; subst s2; subst s3; subst s4
  unfold slv st so
  have e1 := n8_oct a [] (oct y.toNat 8 ++ (oct z.toNat 8 ++ oct w.toNat 8) ++ B) 0 rfl
  have e2 := n8_oct b (oct x.toNat 8) (oct z.toNat 8 ++ oct w.toNat 8 ++ B) 8 (oct_len _ _)
  have e3 := n8_oct c (oct x.toNat 8 ++ oct y.toNat 8) (oct w.toNat 8 ++ B) 16 (by simp [oct_len])
  have e4 := n8_oct d (oct x.toNat 8 ++ oct y.toNat 8 ++ oct z.toNat 8) B 24 (by simp [oct_len])
  simp only [List.append_assoc, List.nil_append] at e1 e2 e3 e4 ⊢
  rw [e1, e2, e3, e4]
theorem mkp_pt {p : S41} (hp : Upt p) (hs : shv p.f1) (B : List Nat) : mkp (pt p ++ B) = p := by
  obtain ⟨a, b, c⟩ := hp
  rcases p with ⟨⟨x, y⟩, v⟩
  dsimp only at a b c hs ⊢
  unfold mkp pt
  have e1 := n8_oct a [] (oct y.toNat 8 ++ st v.f3 ++ B) 0 rfl
  have e2 := n8_oct b (oct x.toNat 8) (st v.f3 ++ B) 8 (oct_len _ _)
  have e3 : (oct x.toNat 8 ++ (oct y.toNat 8 ++ (st v.f3 ++ B))).drop 16 = st v.f3 ++ B := by
    rw [← List.append_assoc, List.drop_append_of_le_length (by simp [oct_len]), List.drop_of_length_le (by simp [oct_len]), List.nil_append]
  simp only [List.append_assoc, List.nil_append] at e1 e2 e3 ⊢
  rw [e1, e2, e3, slv_st c hs]
theorem hprs_pts : ∀ (L : List S41) (B : List Nat), (∀ p ∈ L, Upt p ∧ shv p.f1) → hprs L.length (L.flatMap pt ++ B) = L
  | [], _, _ => rfl
  | p :: L, B, h => by
    have hp := h p List.mem_cons_self
    rw [List.length_cons, hprs, List.flatMap_cons, List.append_assoc, mkp_pt hp.1 hp.2, List.drop_append_of_le_length (by rw [pt_len]; exact Nat.le_refl _), List.drop_of_length_le (by rw [pt_len]; exact Nat.le_refl _), List.nil_append, hprs_pts L B fun q hq => h q (List.mem_cons_of_mem _ hq)]
theorem ck_shut {s h e : Int} {L : List S41} {v : S29} (c : Ck s h e L v) : ∀ p ∈ L, shv p.f1 := by
  intro p hp
  obtain ⟨i, hi, rfl⟩ := List.getElem_of_mem hp
  obtain ⟨q, hq, _, _, _, hs, _⟩ := c.2.2.2.2.2.2 i hi
  rw [List.getElem?_eq_getElem hi] at hq; cases hq; exact hs
/-- What is written is read. -/
theorem Rd_text {s h e : Int} {L : List S41} {v : S29} (c : Ck s h e L v) (hL : ∀ p ∈ L, Upt p) (hv : Us v.f3) :
    Rd L.length (text s h e L v) ∧ scm (text s h e L v) = s ∧ hgt (text s h e L v) = h ∧ epo (text s h e L v) = e ∧ hprs L.length ((text s h e L v).drop 15) = L ∧ slv ((text s h e L v).drop (15 + 48 * L.length)) = v := by
  have hsh := ck_shut c
  obtain ⟨⟨h1, h2⟩, cs, e1, e2, hn, hs, _⟩ := id c
  have ⟨s1, s2⟩ := (sch_iff s).1 cs
  have f15 : (text s h e L v).drop 15 = L.flatMap pt ++ st v.f3 := by
    unfold text; rw [List.drop_append_of_le_length (by rw [front_len]; exact Nat.le_refl _), List.drop_of_length_le (by rw [front_len]; exact Nat.le_refl _), List.nil_append]
  have fv : (text s h e L v).drop (15 + 48 * L.length) = st v.f3 := by
    rw [← List.drop_drop, f15, List.drop_append_of_le_length (by rw [pts_len]; exact Nat.le_refl _), List.drop_of_length_le (by rw [pts_len]; exact Nat.le_refl _), List.nil_append]
  have a1 : scm (text s h e L v) = s := by
    unfold scm text front; simp [nm]; omega
  have a2 : hgt (text s h e L v) = h := by
    unfold hgt text front; simp [nm]; omega
  have a3 : epo (text s h e L v) = e := by
    unfold epo text front
    have := n8_oct (n := e) ⟨by omega, by omega⟩ [1, s.toNat % 256, h.toNat % 256] (oct L.length 4 ++ (L.flatMap pt ++ st v.f3)) 3 rfl
    simp only [List.append_assoc] at this ⊢
    rw [this, w64 (by omega) (by omega)]
  have a4 : hprs L.length ((text s h e L v).drop 15) = L := by rw [f15]; exact hprs_pts L _ fun p hp => ⟨hL p hp, hsh p hp⟩
  have a5 : slv ((text s h e L v).drop (15 + 48 * L.length)) = v := by
    rw [fv]; have := slv_st hv hs []; rwa [List.append_nil] at this
  refine ⟨?_, a1, a2, a3, a4, a5⟩
  unfold Rd
  rw [a1, a2, a3, a4, a5]
  exact ⟨c, rfl⟩
theorem live16' : medlarlaw16_live.f 60 = some true := by decide +kernel
theorem live16 {k : Nat} (hk : 60 ≤ k) : medlarlaw16_live.f k = some true := at_rounds (g := fun k => medlarlaw16_live.f k) medlarlaw16_live.mono hk live16'
end Go.Proofs.Ytoljdfgkkkpnbaa.Med
