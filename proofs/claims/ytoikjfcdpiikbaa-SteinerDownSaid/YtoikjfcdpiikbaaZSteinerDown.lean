/- Plain facts that the proof of SteinerDown needs. -/
import Derived.Test.YtoikjfcdpiikbaaK0
import Derived.Laws.Bits64b
import Derived.Laws.Bits64
import Derived.Test.YtoikjfcdpiikbaaMPx10
import Derived.Test.YtoikjfcdpiikbaaMPx11
import Derived.Test.YtoikjfcdpiikbaaMPx2
import Derived.Test.YtoikjfcdpiikbaaMPx22
import Derived.Test.YtoikjfcdpiikbaaMPx23
import Derived.Test.YtoikjfcdpiikbaaMPx26
import Derived.Test.YtoikjfcdpiikbaaMPx3
import Derived.Test.YtoikjfcdpiikbaaMPx33
import Derived.Test.YtoikjfcdpiikbaaMPx7
import Derived.Test.YtoikjfcdpiikbaaMPx9
set_option linter.unusedVariables false
set_option linter.unusedSimpArgs false
set_option linter.unusedSectionVars false
namespace Go.Proofs.Ytoikjfcdpiikbaa.Med
open Go.RowKit Go.Proofs.YtoikjfcdpiikbaaW.PrintWords Go.Proofs.YtoikjfcdpiikbaaW.PrintMore Go.Proofs.Ytoikjfcdpiikbaa.MP
/-- As Option.bind_some, but no rfl lemma: the kernel then unfolds nothing. -/
theorem bnd {α β : Type} (a : α) (f : α → Option β) : (some a).bind f = f a := by
  have h := Option.bind_some a f
  exact h
theorem w64 {x : Int} (h0 : -9223372036854775808 ≤ x) (h1 : x ≤ 9223372036854775807) : wrap64 x = x := by unfold wrap64; omega
theorem wu64 {x : Int} (h0 : 0 ≤ x) (h1 : x < 18446744073709551616) : IntKind.u64.wrap x = x := by
  have : IntKind.u64.wrap x = x % 18446744073709551616 := by rfl
  omega
theorem wf_u64 {x : Int} (h : (Lit.int .u64 x).wf = true) : ∃ n : Nat, x = (n : Int) ∧ n < 18446744073709551616 := by
  have h0 : IntKind.u64.min = 0 := by decide
  have h1 : IntKind.u64.max = 18446744073709551615 := by decide
  simp [Lit.wf, h0, h1] at h
  exact ⟨x.toNat, by omega, by omega⟩
theorem log2_iff {n d : Nat} (hn : n ≠ 0) : n.log2 = d ↔ 2 ^ d ≤ n ∧ n < 2 ^ (d + 1) := Nat.log2_eq_iff hn
theorem log2_lo {n : Nat} (hn : n ≠ 0) : 2 ^ n.log2 ≤ n := Nat.log2_self_le hn
theorem log2_hi (n : Nat) : n < 2 ^ (n.log2 + 1) := Nat.lt_log2_self
theorem log2_one : Nat.log2 1 = 0 := by decide
theorem pow_pos2 (k : Nat) : 0 < 2 ^ k := Nat.two_pow_pos k
theorem pow_split {a b : Nat} (h : a ≤ b) : 2 ^ b = 2 ^ a * 2 ^ (b - a) := by rw [← Nat.pow_add]; congr 1; omega
theorem pow_mono {a b : Nat} (h : a ≤ b) : 2 ^ a ≤ 2 ^ b := Nat.pow_le_pow_right (by omega) h
theorem pow_le_32 {d : Nat} (h : d ≤ 33) : 2 ^ d ≤ 8589934592 := pow_mono (b := 33) h
theorem log2_div {n k : Nat} (hn : n ≠ 0) (hk : k ≤ n.log2) : (n / 2 ^ k).log2 = n.log2 - k ∧ n / 2 ^ k ≠ 0 := by
  have h1 := log2_lo hn
  have h2 := log2_hi n
  have hp := pow_pos2 k
  rw [pow_split hk] at h1
  have e : n.log2 + 1 = k + (n.log2 - k + 1) := by omega
  rw [e, Nat.pow_add] at h2
  have g1 : 2 ^ (n.log2 - k) ≤ n / 2 ^ k := (Nat.le_div_iff_mul_le hp).2 (by rw [Nat.mul_comm]; exact h1)
  have g2 : n / 2 ^ k < 2 ^ (n.log2 - k + 1) := Nat.div_lt_of_lt_mul h2
  have g3 : n / 2 ^ k ≠ 0 := by have := pow_pos2 (n.log2 - k); omega
  exact ⟨(log2_iff g3).2 ⟨g1, g2⟩, g3⟩
/-- The node above n, of depth d. -/
def anc (n d : Nat) : Nat := n / 2 ^ (n.log2 - d)
theorem anc_log2 {n d : Nat} (hn : n ≠ 0) (hd : d ≤ n.log2) : (anc n d).log2 = d := by
  have := (log2_div hn (k := n.log2 - d) (by omega)).1
  unfold anc; omega
theorem anc_ne {n d : Nat} (hn : n ≠ 0) : anc n d ≠ 0 := (log2_div hn (k := n.log2 - d) (by omega)).2
theorem anc_self (n : Nat) : anc n n.log2 = n := by unfold anc; simp
theorem anc_anc {n d e : Nat} (hn : n ≠ 0) (hd : d ≤ n.log2) (he : e ≤ d) : anc (anc n d) e = anc n e := by
  unfold anc
  rw [show (n / 2 ^ (n.log2 - d)).log2 = d from anc_log2 hn hd, Nat.div_div_eq_div_mul, ← Nat.pow_add]
  congr 2; omega
/-- a is above b. -/
def Abv (a b : Nat) : Prop := a.log2 ≤ b.log2 ∧ anc b a.log2 = a
instance (a b : Nat) : Decidable (Abv a b) := inferInstanceAs (Decidable (_ ∧ _))
theorem Abv.refl (a : Nat) : Abv a a := ⟨Nat.le_refl _, anc_self a⟩
theorem Abv.trans {a b c : Nat} (hc : c ≠ 0) (h : Abv a b) (k : Abv b c) : Abv a c := by
  refine ⟨Nat.le_trans h.1 k.1, ?_⟩
  rw [← anc_anc hc k.1 h.1, k.2]; exact h.2
theorem abv_anc {n d : Nat} (hn : n ≠ 0) (hd : d ≤ n.log2) : Abv (anc n d) n := by
  unfold Abv; rw [anc_log2 hn hd]; exact ⟨hd, rfl⟩
theorem abv_div {a b k : Nat} (hb : b ≠ 0) (hk : k ≤ b.log2) (h : b / 2 ^ k = a) : Abv a b := by
  subst h
  have := (log2_div hb hk).1
  refine ⟨by omega, ?_⟩
  unfold anc; congr 2; omega
theorem Abv.eq_of_log2 {a b : Nat} (h : Abv a b) (e : a.log2 = b.log2) : a = b := by
  have := h.2; rw [e, anc_self] at this; exact this.symm
theorem Abv.total {a b c : Nat} (hc : c ≠ 0) (h : Abv a c) (k : Abv b c) (hab : a.log2 ≤ b.log2) : Abv a b := by
  refine ⟨hab, ?_⟩
  have := anc_anc hc k.1 hab
  rw [k.2] at this; rw [this]; exact h.2
/-- The leaves below n, of a tree of height h, as nodes: from lf up to (not with) rt. -/
def lf (h n : Nat) : Nat := n * 2 ^ (h - n.log2)
def rt (h n : Nat) : Nat := (n + 1) * 2 ^ (h - n.log2)
theorem rt_eq (h n : Nat) : rt h n = lf h n + 2 ^ (h - n.log2) := by unfold rt lf; rw [Nat.add_mul, Nat.one_mul]
theorem lf_lt_rt (h n : Nat) : lf h n < rt h n := by have := pow_pos2 (h - n.log2); rw [rt_eq]; omega
theorem lf_ge {h n : Nat} (hn : n ≠ 0) (hd : n.log2 ≤ h) : 2 ^ h ≤ lf h n := by
  unfold lf; rw [pow_split hd]; exact Nat.mul_le_mul_right _ (log2_lo hn)
theorem rt_le {h n : Nat} (hd : n.log2 ≤ h) : rt h n ≤ 2 ^ (h + 1) := by
  have e : h + 1 = (n.log2 + 1) + (h - n.log2) := by omega
  unfold rt; rw [e, Nat.pow_add]; exact Nat.mul_le_mul_right _ (log2_hi n)
theorem leaf_log2 {h x : Nat} (h0 : 2 ^ h ≤ x) (h1 : x < 2 ^ (h + 1)) : x.log2 = h := by
  have : x ≠ 0 := by have := pow_pos2 h; omega
  exact (log2_iff this).2 ⟨h0, h1⟩
/-- A leaf (as a node) is below n just if it lies between. -/
theorem abv_leaf {h n x : Nat} (hn : n ≠ 0) (hd : n.log2 ≤ h) (h0 : 2 ^ h ≤ x) (h1 : x < 2 ^ (h + 1)) : Abv n x ↔ lf h n ≤ x ∧ x < rt h n := by
  have hx := leaf_log2 h0 h1
  unfold Abv anc lf rt
  rw [hx]
  have hp := pow_pos2 (h - n.log2)
  constructor
  · rintro ⟨_, e⟩
    exact ⟨(Nat.le_div_iff_mul_le hp).1 (by omega), (Nat.div_lt_iff_lt_mul hp).1 (by omega)⟩
  · rintro ⟨a, b⟩
    refine ⟨hd, Nat.le_antisymm ?_ ((Nat.le_div_iff_mul_le hp).2 a)⟩
    have : x / 2 ^ (h - n.log2) < n + 1 := Nat.div_lt_of_lt_mul (by rw [Nat.mul_comm]; exact b)
    omega
theorem log2_half {n : Nat} (h : 2 ≤ n) : (n / 2).log2 + 1 = n.log2 := by
  have h1 : 1 ≤ n.log2 := (Nat.le_log2 (by omega)).2 (by simpa using h)
  have := (log2_div (n := n) (k := 1) (by omega) h1).1
  rw [Nat.pow_one] at this; omega
/-- How many binary digits. -/
def sz (n : Nat) : Nat := if n = 0 then 0 else n.log2 + 1
theorem sz_div {n k : Nat} (h : 2 ^ k ≤ n) : sz n = sz (n / 2 ^ k) + k := by
  have hp := pow_pos2 k
  have hn : n ≠ 0 := by omega
  have hk : k ≤ n.log2 := (Nat.le_log2 hn).2 h
  obtain ⟨a, b⟩ := log2_div hn hk
  unfold sz; rw [if_neg hn, if_neg b, a]; omega
theorem sz_le {n k : Nat} (h : n < 2 ^ k) : sz n ≤ k := by
  unfold sz; split
  · omega
  · rename_i hn; have := (Nat.log2_lt hn).2 h; omega
theorem log2_64 {n : Nat} (hn : n < 18446744073709551616) : n.log2 < 64 := by
  by_cases h : n = 0
  · subst h; decide
  · exact (Nat.log2_lt h).2 hn
/-- There is such a node. -/
def Nd (h n : Nat) : Prop := 1 ≤ h ∧ h ≤ 32 ∧ n ≠ 0 ∧ n.log2 ≤ h
instance (h n : Nat) : Decidable (Nd h n) := inferInstanceAs (Decidable (_ ∧ _))
theorem Nd.lt {h n : Nat} (d : Nd h n) : n < 2 ^ (h + 1) := Nat.lt_of_lt_of_le (log2_hi n) (pow_mono (by have := d.2.2.2; omega))
theorem Nd.lt33 {h n : Nat} (d : Nd h n) : n < 8589934592 := Nat.lt_of_lt_of_le d.lt (pow_le_32 (by have := d.2.1; omega))
theorem nd_root {h : Nat} : Nd h 1 ↔ 1 ≤ h ∧ h ≤ 32 := by unfold Nd; rw [log2_one]; omega
/-- There is such a height. -/
def Hi (h : Int) : Prop := 1 ≤ h ∧ h ≤ 32
instance (h : Int) : Decidable (Hi h) := inferInstanceAs (Decidable (_ ∧ _))
theorem hi_iff (h : Int) : Hi h ↔ 1 ≤ h ∧ h ≤ 32 := Iff.rfl
theorem nd_iff (h n : Nat) : Nd h n ↔ 1 ≤ h ∧ h ≤ 32 ∧ n ≠ 0 ∧ n.log2 ≤ h := Iff.rfl
theorem root_lt : (1 : Nat) < 18446744073709551616 := by omega
theorem nd_root' (h : Int) : Nd h.toNat 1 ↔ Hi h := by rw [nd_root, hi_iff]; omega
/-- The first leaf below n, and the last one, as leaves' numbers; how many there are. -/
def lo (h n : Nat) : Nat := lf h n - 2 ^ h
def hi (h n : Nat) : Nat := rt h n - 1 - 2 ^ h
def wd (h n : Nat) : Nat := 2 ^ (h - n.log2)
theorem wd_pos (h n : Nat) : 0 < wd h n := pow_pos2 _
theorem hi_eq {h n : Nat} (d : Nd h n) : hi h n + 1 = lo h n + wd h n := by
  have := rt_eq h n
  have h1 := lf_ge d.2.2.1 d.2.2.2
  have h2 := wd_pos h n
  unfold hi lo; unfold wd at *; omega
theorem hi_lt {h n : Nat} (d : Nd h n) : hi h n < 2 ^ h := by
  have h1 := rt_le (h := h) (n := n) d.2.2.2
  have h2 := lf_lt_rt h n
  have h3 := lf_ge d.2.2.1 d.2.2.2
  have h4 : 2 ^ (h + 1) = 2 ^ h * 2 := Nat.pow_succ 2 h
  unfold hi; omega
theorem pow_le_h {h : Nat} (hh : h ≤ 32) : 2 ^ h ≤ 4294967296 := pow_mono (b := 32) hh
/-- Spans stand in order, apart from each other, each of leaves. -/
def Rise (m : Nat) : Nat → List (Nat × Nat) → Prop
  | _, [] => True
  | from_, x :: l => from_ ≤ x.1 ∧ x.1 ≤ x.2 ∧ x.2 < m ∧ Rise m (x.2 + 1) l
theorem Rise.mono {m : Nat} {l : List (Nat × Nat)} {a b : Nat} (h : Rise m a l) (hb : b ≤ a) : Rise m b l := by
  cases l with
  | nil => trivial
  | cons x l => exact ⟨Nat.le_trans hb h.1, h.2⟩
/-- A leaf lies below a node just if its number lies between. -/
theorem abv_lo_hi {h n p : Nat} (d : Nd h n) (hp : p < 2 ^ h) : Abv n (2 ^ h + p) ↔ lo h n ≤ p ∧ p ≤ hi h n := by
  have g1 := lf_ge d.2.2.1 d.2.2.2
  have g3 := lf_lt_rt h n
  have hs : 2 ^ (h + 1) = 2 ^ h * 2 := Nat.pow_succ 2 h
  rw [abv_leaf d.2.2.1 d.2.2.2 (by omega) (by omega)]
  unfold lo hi; omega
/-- There is such a leaf. -/
def Lfi (h : Int) (p : Nat) : Prop := Hi h ∧ p < 2 ^ h.toNat
instance (h : Int) (p : Nat) : Decidable (Lfi h p) := inferInstanceAs (Decidable (_ ∧ _))
def ints (l : List Nat) : List Int := l.map Int.ofNat
theorem ints_len (l : List Nat) : (ints l).length = l.length := by simp [ints]
theorem ints_rd {l : List Nat} {i : Nat} (h : i < l.length) : rd (ints l) (i : Int) = ((l[i] : Nat) : Int) := by
  unfold rd ints
  simp [List.getD_eq_getElem?_getD, h]
set_option maxRecDepth 100000 in
theorem len8_all : ∀ i : Fin 256, bt (⟨#[0, 1, 2, 2, 3, 3, 3, 3, 4, 4, 4, 4, 4, 4, 4, 4, 5, 5, 5, 5, 5, 5, 5, 5, 5, 5, 5, 5, 5, 5, 5, 5, 6, 6, 6, 6, 6, 6, 6, 6, 6, 6, 6, 6, 6, 6, 6, 6, 6, 6, 6, 6, 6, 6, 6, 6, 6, 6, 6, 6, 6, 6, 6, 6, 7, 7, 7, 7, 7, 7, 7, 7, 7, 7, 7, 7, 7, 7, 7, 7, 7, 7, 7, 7, 7, 7, 7, 7, 7, 7, 7, 7, 7, 7, 7, 7, 7, 7, 7, 7, 7, 7, 7, 7, 7, 7, 7, 7, 7, 7, 7, 7, 7, 7, 7, 7, 7, 7, 7, 7, 7, 7, 7, 7, 7, 7, 7, 7, 8, 8, 8, 8, 8, 8, 8, 8, 8, 8, 8, 8, 8, 8, 8, 8, 8, 8, 8, 8, 8, 8, 8, 8, 8, 8, 8, 8, 8, 8, 8, 8, 8, 8, 8, 8, 8, 8, 8, 8, 8, 8, 8, 8, 8, 8, 8, 8, 8, 8, 8, 8, 8, 8, 8, 8, 8, 8, 8, 8, 8, 8, 8, 8, 8, 8, 8, 8, 8, 8, 8, 8, 8, 8, 8, 8, 8, 8, 8, 8, 8, 8, 8, 8, 8, 8, 8, 8, 8, 8, 8, 8, 8, 8, 8, 8, 8, 8, 8, 8, 8, 8, 8, 8, 8, 8, 8, 8, 8, 8, 8, 8, 8, 8, 8, 8, 8, 8, 8, 8, 8, 8, 8, 8, 8, 8, 8, 8]⟩ : ByteArray) (i.val : Int) = (sz i.val : Int) := by decide +kernel
set_option maxRecDepth 100000 in
theorem len8 {i : Nat} (h : i < 256) : bt (⟨#[0, 1, 2, 2, 3, 3, 3, 3, 4, 4, 4, 4, 4, 4, 4, 4, 5, 5, 5, 5, 5, 5, 5, 5, 5, 5, 5, 5, 5, 5, 5, 5, 6, 6, 6, 6, 6, 6, 6, 6, 6, 6, 6, 6, 6, 6, 6, 6, 6, 6, 6, 6, 6, 6, 6, 6, 6, 6, 6, 6, 6, 6, 6, 6, 7, 7, 7, 7, 7, 7, 7, 7, 7, 7, 7, 7, 7, 7, 7, 7, 7, 7, 7, 7, 7, 7, 7, 7, 7, 7, 7, 7, 7, 7, 7, 7, 7, 7, 7, 7, 7, 7, 7, 7, 7, 7, 7, 7, 7, 7, 7, 7, 7, 7, 7, 7, 7, 7, 7, 7, 7, 7, 7, 7, 7, 7, 7, 7, 8, 8, 8, 8, 8, 8, 8, 8, 8, 8, 8, 8, 8, 8, 8, 8, 8, 8, 8, 8, 8, 8, 8, 8, 8, 8, 8, 8, 8, 8, 8, 8, 8, 8, 8, 8, 8, 8, 8, 8, 8, 8, 8, 8, 8, 8, 8, 8, 8, 8, 8, 8, 8, 8, 8, 8, 8, 8, 8, 8, 8, 8, 8, 8, 8, 8, 8, 8, 8, 8, 8, 8, 8, 8, 8, 8, 8, 8, 8, 8, 8, 8, 8, 8, 8, 8, 8, 8, 8, 8, 8, 8, 8, 8, 8, 8, 8, 8, 8, 8, 8, 8, 8, 8, 8, 8, 8, 8, 8, 8, 8, 8, 8, 8, 8, 8, 8, 8, 8, 8, 8, 8, 8, 8, 8, 8, 8, 8]⟩ : ByteArray) (i : Int) = (sz i : Int) := len8_all ⟨i, h⟩
set_option maxRecDepth 100000 in
theorem len64_j (k n c : Nat) (hn : n < 4294967296) (hc : c ≤ 32) : bits_Len64.j0 (k + 1) (n : Int) (c : Int) = some ((c + sz n : Nat) : Int) := by
  have h32 : sz n ≤ 32 := sz_le hn
  simp only [bits_Len64.j0]
  by_cases h1 : 65536 ≤ n
  · have e1 := sz_div (n := n) (k := 16) h1
    rw [if_pos (by omega)]
    by_cases h2 : 256 ≤ n / 65536
    · have e2 := sz_div (n := n / 65536) (k := 8) h2
      have i1 : n / 65536 / 256 < 256 := by omega
      have e3 : ((n : Int) / 65536 / 256) % 256 = ((n / 65536 / 256 : Nat) : Int) := by omega
      rw [if_pos (by omega), e3, if_pos (by omega), if_pos (by omega), len8 i1]
      have e1' : sz n = sz (n / 65536) + 16 := e1
      have e2' : sz (n / 65536) = sz (n / 65536 / 256) + 8 := e2
      rw [w64 (x := (c : Int) + 16) (by omega) (by omega), w64 (x := (c : Int) + 16 + 8) (by omega) (by omega), w64 (x := (sz (n / 65536 / 256) : Int)) (by omega) (by omega), w64 (by omega) (by omega)]
      congr 1; omega
    · have i1 : n / 65536 < 256 := by omega
      have e3 : ((n : Int) / 65536) % 256 = ((n / 65536 : Nat) : Int) := by omega
      have e1' : sz n = sz (n / 65536) + 16 := e1
      rw [if_neg (by omega), e3, if_pos (by omega), if_pos (by omega), len8 i1]
      rw [w64 (x := (c : Int) + 16) (by omega) (by omega), w64 (x := (sz (n / 65536) : Int)) (by omega) (by omega), w64 (by omega) (by omega)]
      congr 1; omega
  · rw [if_neg (by omega)]
    by_cases h2 : 256 ≤ n
    · have e2 : sz n = sz (n / 256) + 8 := sz_div (n := n) (k := 8) h2
      have i1 : n / 256 < 256 := by omega
      have e3 : ((n : Int) / 256) % 256 = ((n / 256 : Nat) : Int) := by omega
      rw [if_pos (by omega), e3, if_pos (by omega), if_pos (by omega), len8 i1]
      rw [w64 (x := (c : Int) + 8) (by omega) (by omega), w64 (x := (sz (n / 256) : Int)) (by omega) (by omega), w64 (by omega) (by omega)]
      congr 1; omega
    · have e3 : (n : Int) % 256 = (n : Int) := by omega
      rw [if_neg (by omega), e3, if_pos (by omega), if_pos (by omega), len8 (by omega)]
      rw [w64 (x := (sz n : Int)) (by omega) (by omega), w64 (by omega) (by omega)]
      congr 1
theorem len64 {n : Nat} (hn : n < 18446744073709551616) (k : Nat) : bits_Len64.f (k + 1) (n : Int) = some (sz n : Int) := by
  unfold bits_Len64.f
  by_cases h : 4294967296 ≤ n
  · have e : sz n = sz (n / 4294967296) + 32 := sz_div (n := n) (k := 32) h
    have := len64_j k (n / 4294967296) 32 (by omega) (by omega)
    rw [if_pos (by omega), show (n : Int) / 4294967296 = ((n / 4294967296 : Nat) : Int) by omega, show (32 : Int) = ((32 : Nat) : Int) by rfl, this]
    congr 2; omega
  · have := len64_j k n 0 (by omega) (by omega)
    rw [if_neg (by omega), show (0 : Int) = ((0 : Nat) : Int) by rfl, this]
    simp
theorem depth_eq {n : Nat} (h0 : n ≠ 0) (hn : n < 18446744073709551616) (k : Nat) : node_depth.f (k + 1) (n : Int) = some (n.log2 : Int) := by
  have := sz_le (k := 64) hn
  unfold node_depth.f
  rw [len64 hn]; simp only [Option.bind_some]
  rw [w64 (by omega) (by omega)]
  unfold sz; rw [if_neg h0]; congr 1; omega
theorem high_eq (h : Int) : node_high.f h = some (decide (Hi h)) := by
  unfold node_high.f
  by_cases h1 : h ≥ 1
  · rw [if_pos h1]; congr 1; rw [decide_eq_decide, hi_iff]; omega
  · rw [if_neg h1]; congr 1; symm; rw [decide_eq_false_iff_not, hi_iff]; omega
theorem check_eq (h : Int) {n : Nat} (hn : n < 18446744073709551616) (k : Nat) : node_Check.f (k + 1) h (n : Int) = some (if Nd h.toNat n then 0 else 1) := by
  unfold node_Check.f
  rw [high_eq]; simp only [Option.bind_some]
  by_cases h1 : Hi h
  · rw [decide_eq_true h1, if_pos rfl]
    rw [hi_iff] at h1
    by_cases h2 : n = 0
    · rw [if_pos (by omega), if_neg (by rw [nd_iff]; omega)]
    · rw [if_neg (by omega), depth_eq h2 hn]; simp only [Option.bind_some]
      by_cases h3 : (n.log2 : Int) > h
      · rw [if_pos h3, if_neg (by rw [nd_iff]; omega)]
      · rw [if_neg h3, if_pos (by rw [nd_iff]; omega)]
  · rw [decide_eq_false h1, if_neg (by simp), if_neg (by rw [nd_iff]; rw [hi_iff] at h1; omega)]
theorem both_eq (h : Int) {a b : Nat} (ha : a < 18446744073709551616) (hb : b < 18446744073709551616) (k : Nat) :
    node_both.f (k + 1) h (a : Int) (b : Int) = some (if Nd h.toNat a ∧ Nd h.toNat b then 0 else 1) := by
  unfold node_both.f
  rw [check_eq h ha, check_eq h hb]; simp only [Option.bind_some]
  by_cases h1 : Nd h.toNat a <;> by_cases h2 : Nd h.toNat b <;> simp [h1, h2]
theorem shr_eq (n : Nat) {k : Nat} (hk : k ≤ 64) : shr .u64 (n : Int) (k : Int) = ((n / 2 ^ k : Nat) : Int) := by
  unfold shr
  have : min ((k : Int)).toNat (IntKind.bits .u64) = k := by
    show min ((k : Int)).toNat 64 = k
    omega
  rw [this]; push_cast; rfl
theorem above_eq {a b : Nat} (ha0 : a ≠ 0) (hb0 : b ≠ 0) (ha : a < 18446744073709551616) (hb : b < 18446744073709551616) (k : Nat) :
    node_above.f (k + 1) (a : Int) (b : Int) = some (decide (Abv a b)) := by
  have h1 := log2_64 ha
  have h2 := log2_64 hb
  unfold node_above.f
  rw [depth_eq ha0 ha, depth_eq hb0 hb]; simp only [Option.bind_some]
  unfold Abv anc
  by_cases h : a.log2 ≤ b.log2
  · rw [if_pos (by omega), w64 (by omega) (by omega), if_pos (by omega), show ((b.log2 : Int) - a.log2) = ((b.log2 - a.log2 : Nat) : Int) by omega, shr_eq _ (by omega)]
    congr 1
    simp only [h, true_and]
    by_cases e : b / 2 ^ (b.log2 - a.log2) = a
    · rw [decide_eq_true e, e]; simp
    · rw [decide_eq_false e, beq_eq_false_iff_ne]; omega
  · rw [if_neg (by omega)]; congr 1; simp [h]
theorem Above_eq (h : Int) {a b : Nat} (ha : a < 18446744073709551616) (hb : b < 18446744073709551616) (k : Nat) :
    node_Above.f (k + 1) h (a : Int) (b : Int) = some (if Nd h.toNat a ∧ Nd h.toNat b then (decide (Abv a b), 0) else (false, 1)) := by
  unfold node_Above.f
  rw [both_eq h ha hb]; simp only [Option.bind_some]
  by_cases h1 : Nd h.toNat a ∧ Nd h.toNat b
  · rw [if_pos h1, if_pos rfl, above_eq h1.1.2.2.1 h1.2.2.2.1 ha hb, if_pos h1]; rfl
  · rw [if_neg h1, if_neg (by omega), if_neg h1]
theorem checkRoot_eq (h : Int) (k : Nat) : node_Check.f (k + 1) h 1 = some (if Hi h then 0 else 1) := by
  have := check_eq h root_lt k
  rw [show ((1 : Nat) : Int) = 1 by rfl] at this
  rw [this]
  by_cases h1 : Hi h
  · rw [if_pos h1, if_pos ((nd_root' h).2 h1)]
  · rw [if_neg h1, if_neg (fun z => h1 ((nd_root' h).1 z))]
theorem mn_cast (a b : Nat) : mn (a : Int) (b : Int) = ((min a b : Nat) : Int) := by unfold mn; split <;> omega
theorem shl_eq {n k : Nat} (hk : k ≤ 64) (hb : n * 2 ^ k < 18446744073709551616) : shl .u64 (n : Int) (k : Int) = ((n * 2 ^ k : Nat) : Int) := by
  unfold shl
  have : min ((k : Int)).toNat (IntKind.bits .u64) = k := by
    show min ((k : Int)).toNat 64 = k
    omega
  have e : (n : Int) * 2 ^ k = ((n * 2 ^ k : Nat) : Int) := by push_cast; rfl
  rw [this, e, wu64 (by omega) (by omega)]
theorem nLeaves_eq (h : Int) {n : Nat} (hn : n < 18446744073709551616) (k : Nat) :
    node_Leaves.f (k + 1) h (n : Int) = some (if Nd h.toNat n then ((lo h.toNat n : Int), (hi h.toNat n : Int), 0) else (0, 0, 1)) := by
  unfold node_Leaves.f
  rw [check_eq h hn]; simp only [Option.bind_some]
  by_cases h1 : Nd h.toNat n
  · have hh := h1
    rw [nd_iff] at hh
    have e : ((h.toNat : Nat) : Int) = h := by omega
    rw [if_pos h1, if_pos rfl, if_pos h1, depth_eq h1.2.2.1 hn]; simp only [Option.bind_some]
    generalize hH : h.toNat = H at *
    subst e
    have hlf := lf_ge h1.2.2.1 h1.2.2.2
    have hrt := rt_le (h := H) (n := n) h1.2.2.2
    have hlr := lf_lt_rt H n
    have hp33 : 2 ^ (H + 1) ≤ 8589934592 := pow_le_32 (by omega)
    have hpH : 2 ^ H ≤ 4294967296 := pow_le_h (by omega)
    have hpw : 2 ^ (H - n.log2) ≤ 4294967296 := pow_le_h (by omega)
    have hre := rt_eq H n
    rw [w64 (x := (H : Int) - n.log2) (by omega) (by omega), show (H : Int) - n.log2 = ((H - n.log2 : Nat) : Int) by omega, if_pos (by omega), if_pos (by omega)]
    have e1 : shl .u64 (n : Int) ((H - n.log2 : Nat) : Int) = (lf H n : Int) := shl_eq (by omega) (show lf H n < _ by omega)
    have e2 : shl .u64 1 (H : Int) = ((2 ^ H : Nat) : Int) := by
      have := shl_eq (n := 1) (k := H) (by omega) (by omega)
      rw [Nat.one_mul] at this; exact this
    have e3 : shl .u64 1 ((H - n.log2 : Nat) : Int) = ((2 ^ (H - n.log2) : Nat) : Int) := by
      have := shl_eq (n := 1) (k := H - n.log2) (by omega) (by omega)
      rw [Nat.one_mul] at this; exact this
    rw [e1, e2, e3]
    have f1 : (lf H n : Int) - ((2 ^ H : Nat) : Int) = (lo H n : Int) := by unfold lo; omega
    rw [f1]
    have g1 : lo H n < 8589934592 := by unfold lo; omega
    have g2 := hi_eq h1
    unfold wd at g2
    rw [wu64 (x := (lo H n : Int)) (by omega) (by omega), wu64 (x := (lo H n : Int) + _) (by omega) (by omega), wu64 (by omega) (by omega)]
    congr 3; omega
  · rw [if_neg h1, if_neg (by omega), if_neg h1]
theorem nLeaf_eq (h : Int) {p : Nat} (hp : p < 18446744073709551616) : node_Leaf.f h (p : Int) = some (if Hi h then (if p < 2 ^ h.toNat then ((2 ^ h.toNat + p : Nat) : Int) else 0, if p < 2 ^ h.toNat then 0 else 4) else (0, 1)) := by
  unfold node_Leaf.f
  rw [high_eq]; simp only [Option.bind_some]
  by_cases h1 : Hi h
  · have hh := h1
    rw [hi_iff] at hh
    rw [decide_eq_true h1, if_pos rfl, if_pos (by omega), if_pos h1]
    have e : ((h.toNat : Nat) : Int) = h := by omega
    generalize hH : h.toNat = H at *
    subst e
    rw [shr_eq p (by omega)]
    have hz : 0 < 2 ^ H := pow_pos2 H
    by_cases c : p < 2 ^ H
    · have e1 : shl .u64 1 (H : Int) = ((2 ^ H : Nat) : Int) := by
        have hpH : 2 ^ H ≤ 4294967296 := pow_le_h (by omega)
        have := shl_eq (n := 1) (k := H) (by omega) (by omega)
        rw [Nat.one_mul] at this; exact this
      rw [Nat.div_eq_of_lt c, if_neg (by omega), e1, if_pos c, if_pos c]
      have hpH : 2 ^ H ≤ 4294967296 := pow_le_h (by omega)
      congr 2
      rw [Go.bits_or_u64_nat _ _ (by omega) (by omega)]
      have : 2 ^ H ||| p = 2 ^ H + p := by
        have := Nat.two_pow_add_eq_or_of_lt c 1
        rw [Nat.mul_one] at this; exact this.symm
      rw [this]
    · have : 1 ≤ p / 2 ^ H := (Nat.le_div_iff_mul_le hz).2 (by omega)
      rw [if_pos (by omega), if_neg c, if_neg c]
  · rw [decide_eq_false h1, if_neg (by simp), if_neg h1]
theorem lis_eq (h : Int) {p : Nat} (hp : p < 18446744073709551616) : leaf_is.f h (p : Int) = some (decide (Lfi h p)) := by
  unfold leaf_is.f
  rw [nLeaf_eq h hp]; simp only [Option.bind_some]
  by_cases h1 : Hi h
  · rw [if_pos h1]
    by_cases h2 : p < 2 ^ h.toNat
    · rw [if_pos h2, decide_eq_true ⟨h1, h2⟩]; simp [h2]
    · rw [if_neg h2, decide_eq_false (fun z => h2 z.2)]; simp [h2]
  · rw [if_neg h1, decide_eq_false (fun z => h1 z.1)]; rfl
def Up (l : List Nat) : Prop := l.Pairwise (· < ·)
theorem Up.tail {a : Nat} {l : List Nat} (h : Up (a :: l)) : Up l := (List.pairwise_cons.1 h).2
theorem Up.lt {a : Nat} {l : List Nat} (h : Up (a :: l)) {x : Nat} (hx : x ∈ l) : a < x := (List.pairwise_cons.1 h).1 x hx
theorem Up.filter {l : List Nat} (h : Up l) (p : Nat → Bool) : Up (l.filter p) := List.Pairwise.filter p h
theorem Up.append {a b : List Nat} (ha : Up a) (hb : Up b) (h : ∀ x ∈ a, ∀ y ∈ b, x < y) : Up (a ++ b) := List.pairwise_append.2 ⟨ha, hb, h⟩
/-- A leaf is below n. -/
def inT (h : Nat) (l : List Nat) (n : Nat) : Bool := l.any fun i => decide (Abv n (2 ^ h + i))
theorem inT_iff {h : Nat} {l : List Nat} {n : Nat} : inT h l n = true ↔ ∃ i ∈ l, Abv n (2 ^ h + i) := by simp [inT]
theorem leaf_ne (h i : Nat) : 2 ^ h + i ≠ 0 := by have := pow_pos2 h; omega
theorem leaf_log {h i : Nat} (hi : i < 2 ^ h) : (2 ^ h + i).log2 = h := leaf_log2 (by omega) (by rw [Nat.pow_succ]; omega)
theorem inT_up {h : Nat} {l : List Nat} {a n : Nat} (hab : Abv a n) (hn : inT h l n = true) : inT h l a = true := by
  rw [inT_iff] at *
  obtain ⟨i, hi, h1⟩ := hn
  exact ⟨i, hi, hab.trans (leaf_ne h i) h1⟩
theorem log2_dbl {n : Nat} (hn : n ≠ 0) : (2 * n).log2 = n.log2 + 1 ∧ (2 * n + 1).log2 = n.log2 + 1 := by
  have a := log2_half (n := 2 * n) (by omega)
  have b := log2_half (n := 2 * n + 1) (by omega)
  rw [show 2 * n / 2 = n by omega] at a
  rw [show (2 * n + 1) / 2 = n by omega] at b
  omega
theorem abv_half {n : Nat} (hn : 2 ≤ n) : Abv (n / 2) n := abv_div (k := 1) (by omega) (by have := log2_half hn; omega) (by rw [Nat.pow_one])
theorem abv_dbl {n : Nat} (hn : n ≠ 0) : Abv n (2 * n) ∧ Abv n (2 * n + 1) := by
  have a := abv_half (n := 2 * n) (by omega)
  have b := abv_half (n := 2 * n + 1) (by omega)
  rw [show 2 * n / 2 = n by omega] at a
  rw [show (2 * n + 1) / 2 = n by omega] at b
  exact ⟨a, b⟩
/-- What lies below n, and is not n, lies below one of its children. -/
theorem abv_child {n x : Nat} (hx : x ≠ 0) (hn : Abv n x) (hd : n.log2 < x.log2) : Abv (2 * n) x ∨ Abv (2 * n + 1) x := by
  have l1 := anc_log2 hx (show n.log2 + 1 ≤ x.log2 by omega)
  have n1 := anc_ne (d := n.log2 + 1) hx
  have a1 := abv_anc hx (show n.log2 + 1 ≤ x.log2 by omega)
  have e : anc x (n.log2 + 1) / 2 = n := by
    have two := pow_mono (show 1 ≤ (anc x (n.log2 + 1)).log2 by omega)
    have lo := log2_lo n1
    have hh := abv_half (n := anc x (n.log2 + 1)) (by omega)
    have ll := log2_half (n := anc x (n.log2 + 1)) (by omega)
    have := (hh.trans hx a1).total hx hn (by omega)
    exact this.eq_of_log2 (by omega)
  rcases Nat.mod_two_eq_zero_or_one (anc x (n.log2 + 1)) with z | z
  · left; rw [show 2 * n = anc x (n.log2 + 1) by omega]; exact a1
  · right; rw [show 2 * n + 1 = anc x (n.log2 + 1) by omega]; exact a1
/-- The nodes of a depth, and those of the tree. -/
def lvl (h : Nat) (l : List Nat) (d : Nat) : List Nat := (List.range' (2 ^ d) (2 ^ d)).filter (inT h l)
theorem mem_lvl {h : Nat} {l : List Nat} {d n : Nat} : n ∈ lvl h l d ↔ n ≠ 0 ∧ n.log2 = d ∧ inT h l n = true := by
  unfold lvl
  rw [List.mem_filter, List.mem_range'_1]
  constructor
  · rintro ⟨⟨a, b⟩, c⟩
    have : n ≠ 0 := by have := pow_pos2 d; omega
    exact ⟨this, (log2_iff this).2 ⟨a, by rw [Nat.pow_succ]; omega⟩, c⟩
  · rintro ⟨a, b, c⟩
    have := (log2_iff a).1 b
    rw [Nat.pow_succ] at this
    exact ⟨⟨this.1, by omega⟩, c⟩
def trs (h : Nat) (l : List Nat) : Nat → List Nat
  | 0 => []
  | d + 1 => trs h l d ++ lvl h l d
theorem mem_trs {h : Nat} {l : List Nat} {n : Nat} : ∀ {D : Nat}, n ∈ trs h l D ↔ n ≠ 0 ∧ n.log2 < D ∧ inT h l n = true
  | 0 => by simp [trs]
  | D + 1 => by
    rw [trs, List.mem_append, mem_trs (D := D), mem_lvl]
    constructor
    · rintro (⟨a, b, c⟩ | ⟨a, b, c⟩)
      · exact ⟨a, by omega, c⟩
      · exact ⟨a, by omega, c⟩
    · rintro ⟨a, b, c⟩
      by_cases e : n.log2 = D
      · exact .inr ⟨a, e, c⟩
      · exact .inl ⟨a, by omega, c⟩
def fks (h : Nat) (l : List Nat) (t : List Nat) : List Nat := t.filter fun n => decide (n.log2 < h) && (inT h l (2 * n) && inT h l (2 * n + 1))
def frk (h : Nat) (l : List Nat) : List Nat := fks h l (trs h l h)
theorem mem_frk {h : Nat} {l : List Nat} {n : Nat} : n ∈ frk h l ↔ n ≠ 0 ∧ n.log2 < h ∧ inT h l (2 * n) = true ∧ inT h l (2 * n + 1) = true := by
  unfold frk fks
  rw [List.mem_filter, mem_trs]
  constructor
  · rintro ⟨⟨a, b, c⟩, d⟩
    simp at d; exact ⟨a, b, d.2.1, d.2.2⟩
  · rintro ⟨a, b, c, d⟩
    exact ⟨⟨a, b, inT_up (abv_dbl a).1 c⟩, by simp [b, c, d]⟩
/-- The deepest node above both, of two of one depth. -/
def mt (a b : Nat) : Nat := a / 2 ^ sz (a ^^^ b)
theorem sz_le_iff {n k : Nat} : sz n ≤ k ↔ n < 2 ^ k := by
  constructor
  · intro h
    unfold sz at h
    split at h
    · rename_i e; subst e; exact pow_pos2 k
    · have := log2_hi n
      have := pow_mono h; omega
  · exact sz_le
theorem div_eq_iff {a b k : Nat} : a / 2 ^ k = b / 2 ^ k ↔ sz (a ^^^ b) ≤ k := by
  rw [sz_le_iff]
  have h : (a ^^^ b) / 2 ^ k = a / 2 ^ k ^^^ b / 2 ^ k := Nat.xor_div_two_pow
  have hp := pow_pos2 k
  constructor
  · intro e
    rw [e, Nat.xor_self] at h
    exact (Nat.div_eq_zero_iff.1 h).resolve_left (by omega)
  · intro z
    rw [Nat.div_eq_of_lt z] at h
    have h2 := congrArg (b / 2 ^ k ^^^ ·) h.symm
    simp only [Nat.xor_zero] at h2
    rw [Nat.xor_comm (a / 2 ^ k), ← Nat.xor_assoc, Nat.xor_self, Nat.zero_xor] at h2
    exact h2
theorem sz_log2 {a b : Nat} (ha : a ≠ 0) (hb : b ≠ 0) (e : a.log2 = b.log2) : sz (a ^^^ b) ≤ a.log2 := by
  rw [← div_eq_iff]
  have h1 := log2_div ha (Nat.le_refl _)
  have h2 := log2_div hb (k := a.log2) (by omega)
  have g1 : a / 2 ^ a.log2 = 1 := by have := (log2_iff h1.2).1 h1.1; simp at this; omega
  have g2 : b / 2 ^ a.log2 = 1 := by have := (log2_iff h2.2).1 h2.1; rw [e] at *; simp at this; omega
  rw [g1, g2]
theorem mt_log2 {a b : Nat} (ha : a ≠ 0) (hb : b ≠ 0) (e : a.log2 = b.log2) : (mt a b).log2 = a.log2 - sz (a ^^^ b) ∧ mt a b ≠ 0 := log2_div ha (sz_log2 ha hb e)
theorem mt_abv {a b : Nat} (ha : a ≠ 0) (hb : b ≠ 0) (e : a.log2 = b.log2) : Abv (mt a b) a ∧ Abv (mt a b) b := by
  have h := sz_log2 ha hb e
  refine ⟨abv_div ha h rfl, abv_div (k := sz (a ^^^ b)) hb (by omega) ?_⟩
  unfold mt
  exact (div_eq_iff.2 (Nat.le_refl _)).symm
theorem abv_mt {a b n : Nat} (ha : a ≠ 0) (hb : b ≠ 0) (e : a.log2 = b.log2) : Abv n (mt a b) ↔ Abv n a ∧ Abv n b := by
  obtain ⟨m1, m2⟩ := mt_abv ha hb e
  obtain ⟨l1, l2⟩ := mt_log2 ha hb e
  constructor
  · intro h; exact ⟨h.trans ha m1, h.trans hb m2⟩
  · rintro ⟨h1, h2⟩
    refine h1.total ha m1 ?_
    have k1 := h1.2
    have k2 := h2.2
    unfold anc at k1 k2
    rw [e] at k1
    have := (div_eq_iff (a := a) (b := b)).1 (k1.trans k2.symm)
    have := h1.1
    omega
/-- The leaves of the set below a node. -/
def blw (h : Nat) (l : List Nat) (n : Nat) : List Nat := l.filter fun i => decide (Abv n (2 ^ h + i))
theorem mem_blw {h : Nat} {l : List Nat} {n i : Nat} : i ∈ blw h l n ↔ i ∈ l ∧ Abv n (2 ^ h + i) := by simp [blw]
theorem blw_up {h : Nat} {l : List Nat} (hu : Up l) (n : Nat) : Up (blw h l n) := hu.filter _
theorem blw_nil {h : Nat} {l : List Nat} {n : Nat} : blw h l n = [] ↔ inT h l n = false := by
  rw [Bool.eq_false_iff, ne_eq, inT_iff, List.eq_nil_iff_forall_not_mem]
  constructor
  · rintro z ⟨i, h1, h2⟩; exact z i (mem_blw.2 ⟨h1, h2⟩)
  · intro z i hi; rw [mem_blw] at hi; exact z ⟨i, hi⟩
theorem blw_ne {h : Nat} {l : List Nat} {n : Nat} : blw h l n ≠ [] ↔ inT h l n = true := by
  rw [ne_eq, blw_nil]; simp
def fst1 (l : List Nat) : Nat := l.headD 0
def lst1 (l : List Nat) : Nat := l.getLastD 0
theorem fst_mem {l : List Nat} (h : l ≠ []) : fst1 l ∈ l := by cases l <;> simp_all [fst1]
theorem lst_mem {l : List Nat} (h : l ≠ []) : lst1 l ∈ l := by
  unfold lst1; rw [List.getLastD_eq_getLast?, List.getLast?_eq_some_getLast h]; exact List.getLast_mem h
theorem fst_le {l : List Nat} (hu : Up l) {x : Nat} (hx : x ∈ l) : fst1 l ≤ x := by
  cases l with
  | nil => simp at hx
  | cons a t =>
    show a ≤ x
    rcases List.mem_cons.1 hx with rfl | z
    · omega
    · have := hu.lt z; omega
theorem le_lst : ∀ {l : List Nat}, Up l → ∀ {x : Nat}, x ∈ l → x ≤ lst1 l
  | [], _, _, hx => by simp at hx
  | [a], _, x, hx => by simp at hx; subst hx; simp [lst1]
  | a :: b :: t, hu, x, hx => by
    have e : lst1 (a :: b :: t) = lst1 (b :: t) := by simp [lst1]
    rw [e]
    rcases List.mem_cons.1 hx with rfl | z
    · have := hu.lt (show b ∈ b :: t by simp)
      have := le_lst hu.tail (show b ∈ b :: t by simp)
      omega
    · exact le_lst hu.tail z
/-- Down. -/
def dwn (h : Nat) (l : List Nat) (n : Nat) : Nat := mt (2 ^ h + fst1 (blw h l n)) (2 ^ h + lst1 (blw h l n))
section
variable {h : Nat} {l : List Nat} (hl : ∀ i ∈ l, i < 2 ^ h) (hu : Up l) {n : Nat} (hn : inT h l n = true)
include hl hu hn
theorem dwn_iff (m : Nat) : Abv m (dwn h l n) ↔ ∀ i ∈ blw h l n, Abv m (2 ^ h + i) := by
  have hb := blw_ne.2 hn
  have f1 := fst_mem hb
  have g1 := lst_mem hb
  have f2 := hl _ (mem_blw.1 f1).1
  have g2 := hl _ (mem_blw.1 g1).1
  unfold dwn
  rw [abv_mt (leaf_ne _ _) (leaf_ne _ _) (by rw [leaf_log f2, leaf_log g2])]
  constructor
  · rintro ⟨a, b⟩ i hi
    have i1 := fst_le (blw_up hu n) hi
    have i2 := le_lst (blw_up hu n) hi
    have ml := a.1
    rw [leaf_log f2] at ml
    have m0 : m ≠ 0 := by rintro rfl; exact anc_ne (leaf_ne _ _) a.2
    have r : ∀ j, j < 2 ^ h → 2 ^ h + j < 2 ^ (h + 1) := fun j hj => by rw [Nat.pow_succ]; omega
    have i3 := hl _ (mem_blw.1 hi).1
    have a' := (abv_leaf m0 ml (by omega) (r _ f2)).1 a
    have b' := (abv_leaf m0 ml (by omega) (r _ g2)).1 b
    exact (abv_leaf m0 ml (by omega) (r _ i3)).2 ⟨by omega, by omega⟩
  · intro z; exact ⟨z _ f1, z _ g1⟩
theorem dwn_below : Abv n (dwn h l n) := (dwn_iff hl hu hn n).2 (fun i hi => (mem_blw.1 hi).2)
theorem dwn_ne : dwn h l n ≠ 0 := by
  have hb := blw_ne.2 hn
  have f2 := hl _ (mem_blw.1 (fst_mem hb)).1
  have g2 := hl _ (mem_blw.1 (lst_mem hb)).1
  exact (mt_log2 (leaf_ne _ _) (leaf_ne _ _) (by rw [leaf_log f2, leaf_log g2])).2
theorem dwn_le : (dwn h l n).log2 ≤ h := by
  have hb := blw_ne.2 hn
  have f2 := hl _ (mem_blw.1 (fst_mem hb)).1
  have g2 := hl _ (mem_blw.1 (lst_mem hb)).1
  have := (mt_log2 (leaf_ne h (fst1 (blw h l n))) (leaf_ne h (lst1 (blw h l n))) (by rw [leaf_log f2, leaf_log g2])).1
  rw [leaf_log f2] at this
  unfold dwn; omega
theorem dwn_all {i : Nat} (hi : i ∈ blw h l n) : Abv (dwn h l n) (2 ^ h + i) := (dwn_iff hl hu hn _).1 (Abv.refl _) i hi
theorem dwn_blw : blw h l (dwn h l n) = blw h l n := by
  unfold blw
  refine List.filter_congr (fun i hi => ?_)
  rw [decide_eq_decide]
  constructor
  · intro z; exact (dwn_below hl hu hn).trans (leaf_ne h i) z
  · intro z; exact dwn_all hl hu hn (mem_blw.2 ⟨hi, z⟩)
theorem dwn_inT : inT h l (dwn h l n) = true := by rw [← blw_ne, dwn_blw hl hu hn, blw_ne]; exact hn
theorem dwn_dwn : dwn h l (dwn h l n) = dwn h l n := by
  have e := dwn_blw hl hu hn
  show mt (2 ^ h + fst1 (blw h l (dwn h l n))) (2 ^ h + lst1 (blw h l (dwn h l n))) = mt (2 ^ h + fst1 (blw h l n)) (2 ^ h + lst1 (blw h l n))
  rw [e]
theorem dwn_fork (hd : (dwn h l n).log2 < h) : dwn h l n ∈ frk h l := by
  have d0 := dwn_ne hl hu hn
  have key : ∀ c c', (c = 2 * dwn h l n ∧ c' = 2 * dwn h l n + 1 ∨ c' = 2 * dwn h l n ∧ c = 2 * dwn h l n + 1) → inT h l c' = true := by
    intro c c' hc
    have hlg := log2_dbl d0
    have : ¬ ∀ i ∈ blw h l n, Abv c (2 ^ h + i) := by
      rw [← dwn_iff hl hu hn]
      intro z
      have := z.1
      rcases hc with ⟨rfl, _⟩ | ⟨_, rfl⟩ <;> omega
    apply Decidable.byContradiction
    intro z
    apply this
    intro i hi
    have q := abv_child (leaf_ne h i) (dwn_all hl hu hn hi) (by rw [leaf_log (hl _ (mem_blw.1 hi).1)]; exact hd)
    have nz : ¬ Abv c' (2 ^ h + i) := fun q => z (inT_iff.2 ⟨i, (mem_blw.1 hi).1, q⟩)
    rcases hc with ⟨rfl, rfl⟩ | ⟨rfl, rfl⟩
    · exact q.resolve_right nz
    · exact q.resolve_left nz
  exact mem_frk.2 ⟨d0, hd, key _ _ (.inr ⟨rfl, rfl⟩), key _ _ (.inl ⟨rfl, rfl⟩)⟩
theorem dwn_self_of_fork (hf : n ∈ frk h l) : dwn h l n = n := by
  have hf' := mem_frk.1 hf
  have a := dwn_below hl hu hn
  apply Decidable.byContradiction
  intro ne
  have lt : n.log2 < (dwn h l n).log2 := by
    rcases Nat.lt_or_ge n.log2 (dwn h l n).log2 with z | z
    · exact z
    · exact absurd (a.eq_of_log2 (Nat.le_antisymm a.1 z)).symm ne
  obtain ⟨i, hi, c1⟩ := inT_iff.1 hf'.2.2.1
  obtain ⟨j, hj, c2⟩ := inT_iff.1 hf'.2.2.2
  have d := abv_dbl hf'.1
  have i1 := dwn_all hl hu hn (mem_blw.2 ⟨hi, d.1.trans (leaf_ne h i) c1⟩)
  have j1 := dwn_all hl hu hn (mem_blw.2 ⟨hj, d.2.trans (leaf_ne h j) c2⟩)
  have lg := log2_dbl hf'.1
  have e1 := c1.total (leaf_ne h i) i1 (by omega)
  have e2 := c2.total (leaf_ne h j) j1 (by omega)
  have := e1.total (dwn_ne hl hu hn) e2 (by omega)
  have := this.eq_of_log2 (by omega)
  omega
end
/-- With more leaves it is no deeper. -/
theorem dwn_more {h : Nat} {l m : List Nat} (hl : ∀ i ∈ l, i < 2 ^ h) (hu : Up l) (hm : ∀ i ∈ m, i < 2 ^ h) (hv : Up m) (hs : ∀ i ∈ l, i ∈ m) {n : Nat} (hn : inT h l n = true) : inT h m n = true ∧ Abv (dwn h m n) (dwn h l n) := by
  have hn' : inT h m n = true := by
    obtain ⟨i, hi, h1⟩ := inT_iff.1 hn
    exact inT_iff.2 ⟨i, hs i hi, h1⟩
  refine ⟨hn', (dwn_iff hl hu hn _).2 (fun i hi => ?_)⟩
  rw [mem_blw] at hi
  exact dwn_all hm hv hn' (mem_blw.2 ⟨hs i hi.1, hi.2⟩)
theorem ints_of (l : List Int) (h : ∀ x ∈ l, (Lit.int .u64 x).wf = true) : ∃ m : List Nat, l = ints m ∧ ∀ x ∈ m, x < 18446744073709551616 := by
  refine ⟨l.map Int.toNat, ?_, ?_⟩
  · unfold ints
    rw [List.map_map]
    symm
    rw [List.map_congr_left (g := id)]
    · simp
    · intro x hx
      obtain ⟨n, rfl, _⟩ := wf_u64 (h x hx)
      simp
  · intro x hx
    obtain ⟨y, hy, rfl⟩ := List.mem_map.1 hx
    obtain ⟨n, rfl, hn⟩ := wf_u64 (h y hy)
    simpa using hn
theorem ints_take (l : List Nat) (n : Nat) : (ints l).take n = ints (l.take n) := by simp [ints]
theorem ints_drop (l : List Nat) (n : Nat) : (ints l).drop n = ints (l.drop n) := by simp [ints]
/-- A set may be. -/
def Lst (h : Int) (l : List Nat) : Prop := Hi h ∧ l.length ≤ 1024 ∧ (∀ i ∈ l, i < 2 ^ h.toNat) ∧ Up l
instance (l : List Nat) : Decidable (Up l) := inferInstanceAs (Decidable (l.Pairwise (· < ·)))
instance (h : Int) (l : List Nat) : Decidable (Lst h l) := inferInstanceAs (Decidable (_ ∧ _))
/-- From a place on: each a leaf, above the one ahead of it. -/
def okf (H : Nat) : Option Nat → List Nat → Bool
  | _, [] => true
  | p, i :: l => decide (i < 2 ^ H) && (match p with | none => true | some q => decide (q < i)) && okf H (some i) l
theorem okf_some (H : Nat) : ∀ (l : List Nat) (q : Nat), okf H (some q) l = true ↔ (∀ i ∈ l, i < 2 ^ H) ∧ Up l ∧ ∀ i ∈ l, q < i
  | [], q => by simp [okf, Up]
  | i :: l, q => by
    simp only [okf, Bool.and_eq_true, decide_eq_true_iff, okf_some H l i]
    constructor
    · rintro ⟨⟨a, b⟩, c, d, e⟩
      refine ⟨?_, List.pairwise_cons.2 ⟨e, d⟩, ?_⟩
      · intro x hx; rcases List.mem_cons.1 hx with rfl | hx
        · exact a
        · exact c x hx
      · intro x hx; rcases List.mem_cons.1 hx with rfl | hx
        · exact b
        · have := e x hx; omega
    · rintro ⟨a, b, c⟩
      exact ⟨⟨a i (by simp), c i (by simp)⟩, fun x hx => a x (by simp [hx]), b.tail, fun x hx => b.lt hx⟩
theorem okf_none (H : Nat) (l : List Nat) : okf H none l = true ↔ (∀ i ∈ l, i < 2 ^ H) ∧ Up l := by
  cases l with
  | nil => simp [okf, Up]
  | cons i l =>
    simp only [okf, Bool.and_eq_true, decide_eq_true_iff, okf_some H l i, and_true]
    constructor
    · rintro ⟨a, c, d, e⟩
      refine ⟨?_, List.pairwise_cons.2 ⟨e, d⟩⟩
      intro x hx; rcases List.mem_cons.1 hx with rfl | hx
      · exact a
      · exact c x hx
    · rintro ⟨a, b⟩
      exact ⟨a i (by simp), fun x hx => a x (by simp [hx]), b.tail, fun x hx => b.lt hx⟩
def bef (l : List Nat) (i : Nat) : Option Nat := if i = 0 then none else l[i - 1]?
theorem bef_succ {l : List Nat} {i : Nat} (hi : i < l.length) : bef l (i + 1) = some l[i] := by unfold bef; rw [if_neg (by omega)]; simp [hi]
theorem lCheck_l (h : Int) (hh : Hi h) (l : List Nat) (hb : ∀ x ∈ l, x < 18446744073709551616) (hn : l.length < 4611686018427387904) : ∀ (q i k : Nat), i + q = l.length → q < k →
    leaf_Check.l0 k h (ints l) (ints l) (l.length : Int) (i : Int) = some (if okf h.toNat (bef l i) (l.drop i) = true then 0 else 1) := by
  intro q
  induction q with
  | zero =>
    intro i k hi hk
    obtain ⟨k, rfl⟩ : ∃ m, k = m + 1 := ⟨k - 1, by omega⟩
    simp only [leaf_Check.l0]
    rw [if_neg (by omega), List.drop_of_length_le (by omega)]; simp [okf]
  | succ q ih =>
    intro i k hi hk
    obtain ⟨k, rfl⟩ : ∃ m, k = m + 1 := ⟨k - 1, by omega⟩
    have d1 : l.drop i = l[i] :: l.drop (i + 1) := List.drop_eq_getElem_cons (by omega)
    have lb := hb l[i] (List.getElem_mem (by omega))
    have r := ih (i + 1) k (by omega) (by omega)
    rw [bef_succ (by omega)] at r
    simp only [leaf_Check.l0]
    rw [if_pos (by omega), if_pos (by omega), if_pos (by rw [ints_len]; omega), ints_rd (show i < l.length by omega), lis_eq h lb]; simp only [bnd]
    rw [w64 (x := (i : Int) + 1) (by omega) (by omega), show (i : Int) + 1 = ((i + 1 : Nat) : Int) by omega, r, d1]
    by_cases c : l[i] < 2 ^ h.toNat
    · rw [decide_eq_true (show Lfi h l[i] from ⟨hh, c⟩), if_pos rfl]
      by_cases i0 : i = 0
      · subst i0
        rw [if_neg (by omega)]
        simp only [okf, bef, if_true, decide_eq_true c, Bool.true_and, Bool.and_true]
      · have ei : (i : Int) - 1 = ((i - 1 : Nat) : Int) := by omega
        rw [if_pos (by omega), w64 (x := (i : Int) - 1) (by omega) (by omega), ei, if_pos (by omega), if_pos (by rw [ints_len]; omega), ints_rd (show i - 1 < l.length by omega)]
        have eb : bef l i = some l[i - 1] := by unfold bef; rw [if_neg i0]; simp [show i - 1 < l.length by omega]
        rw [eb]
        by_cases g : l[i - 1] < l[i]
        · rw [if_neg (by omega)]
          simp only [okf, decide_eq_true c, decide_eq_true g, Bool.true_and, Bool.and_true]
        · rw [if_pos (by omega)]
          simp [okf, g]
    · rw [decide_eq_false (show ¬ Lfi h l[i] from fun z => c z.2), if_neg (by simp)]
      simp [okf, c]
theorem lCheck_eq (h : Int) {l : List Nat} (hb : ∀ x ∈ l, x < 18446744073709551616) (hn : l.length < 4611686018427387904) {k : Nat} (hk : l.length + 2 ≤ k) :
    leaf_Check.f k h (ints l) = some (if Lst h l then 0 else 1) := by
  obtain ⟨k, rfl⟩ : ∃ m, k = m + 1 := ⟨k - 1, by omega⟩
  unfold leaf_Check.f
  rw [checkRoot_eq]; simp only [bnd]
  by_cases hh : Hi h
  · rw [if_pos hh, if_pos rfl, ints_len]
    simp only [leaf_Check.j0]
    by_cases c : l.length ≤ 1024
    · rw [decide_eq_false (by omega), if_neg (by simp), ints_len]
      have := lCheck_l h hh l hb hn l.length 0 k (by omega) (by omega)
      rw [show ((0 : Nat) : Int) = 0 from rfl, List.drop_zero, show bef l 0 = none from rfl] at this
      rw [this]
      by_cases o : okf h.toNat none l = true
      · have o' := (okf_none _ _).1 o
        rw [if_pos o, if_pos (show Lst h l from ⟨hh, c, o'.1, o'.2⟩)]
      · rw [if_neg o, if_neg (show ¬ Lst h l from fun z => o ((okf_none _ _).2 ⟨z.2.2.1, z.2.2.2⟩))]
    · rw [decide_eq_true (by omega), if_pos rfl, if_neg (show ¬ Lst h l from fun z => c z.2.1)]
  · rw [if_neg hh, if_neg (by omega)]
    simp only [leaf_Check.j0, if_true]
    rw [if_neg (show ¬ Lst h l from fun z => hh z.1)]
/-- How many are less. -/
def pos (l : List Nat) (x : Nat) : Nat := (l.filter fun y => decide (y < x)).length
theorem pos_le (l : List Nat) (x : Nat) : pos l x ≤ l.length := List.length_filter_le _ _
theorem pos_iff : ∀ {l : List Nat}, Up l → ∀ (x p : Nat) (hp : p < l.length), l[p] < x ↔ p < pos l x
  | [], _, x, p, hp => by simp at hp
  | a :: l, hu, x, p, hp => by
    unfold pos
    rw [List.filter_cons]
    by_cases c : a < x
    · rw [if_pos (decide_eq_true c), List.length_cons]
      cases p with
      | zero => simp [c]
      | succ p =>
        rw [List.getElem_cons_succ]
        have := pos_iff hu.tail x p (by simpa using hp)
        unfold pos at this
        rw [this]; omega
    · rw [if_neg (by simpa using c)]
      have : l.filter (fun y => decide (y < x)) = [] := by
        rw [List.filter_eq_nil_iff]; intro y hy; have := hu.lt hy; simp; omega
      rw [this]
      cases p with
      | zero => simp [c]
      | succ p =>
        rw [List.getElem_cons_succ]
        have := hu.lt (List.getElem_mem (l := l) (show p < l.length by simpa using hp))
        simp; omega
theorem pos_take {l : List Nat} (hu : Up l) (x : Nat) : l.take (pos l x) = l.filter fun y => decide (y < x) := by
  induction l with
  | nil => rfl
  | cons a l ih =>
    unfold pos
    rw [List.filter_cons]
    by_cases c : a < x
    · rw [if_pos (decide_eq_true c), List.length_cons, List.take_succ_cons]
      congr 1
      exact ih hu.tail
    · rw [if_neg (by simpa using c)]
      have : l.filter (fun y => decide (y < x)) = [] := by
        rw [List.filter_eq_nil_iff]; intro y hy; have := hu.lt hy; simp; omega
      rw [this]; rfl
theorem pos_drop {l : List Nat} (hu : Up l) (x : Nat) : l.drop (pos l x) = l.filter fun y => decide (x ≤ y) := by
  induction l with
  | nil => rfl
  | cons a l ih =>
    unfold pos
    rw [List.filter_cons, List.filter_cons]
    by_cases c : a < x
    · rw [if_pos (decide_eq_true c), List.length_cons, List.drop_succ_cons, if_neg (by simp; omega)]
      exact ih hu.tail
    · rw [if_neg (by simpa using c), if_pos (by simp; omega)]
      have : l.filter (fun y => decide (y < x)) = [] := by
        rw [List.filter_eq_nil_iff]; intro y hy; have := hu.lt hy; simp; omega
      rw [this]
      simp only [List.length_nil, List.drop_zero]
      congr 1
      symm
      rw [List.filter_eq_self]; intro y hy; have := hu.lt hy; simp; omega
theorem cmpLess_eq (a b : Nat) : cmp_Less_uint64.f (a : Int) (b : Int) = some (decide (a < b)) := by
  unfold cmp_Less_uint64.f cmp_isNaN_uint64.f
  simp
theorem isNaN_eq (a : Nat) : slices_isNaN_uint64.f (a : Int) = some false := by unfold slices_isNaN_uint64.f; simp
theorem half_eq {a b : Nat} (h : a + b < 9223372036854775808) : wrap64 ((IntKind.u64.wrap (wrap64 ((a : Int) + (b : Int)))) / 2) = (((a + b) / 2 : Nat) : Int) := by
  rw [w64 (x := (a : Int) + b) (by omega) (by omega), wu64 (by omega) (by omega), w64 (by omega) (by omega)]; omega
theorem search_l {l : List Nat} (hu : Up l) (x : Nat) (hn : l.length < 4611686018427387904) : ∀ (q i j k : Nat), j - i ≤ q → q < k → i ≤ pos l x → pos l x ≤ j → j ≤ l.length →
    slices_BinarySearch_uint64_uint64.l0 k (ints l) (x : Int) (l.length : Int) (i : Int) (j : Int) = some ((pos l x : Int), decide (x ∈ l)) := by
  intro q
  induction q with
  | zero =>
    intro i j k hq hk h1 h2 h3
    obtain ⟨k, rfl⟩ : ∃ m, k = m + 1 := ⟨k - 1, by omega⟩
    have e : i = pos l x := by omega
    have e2 : j = i := by omega
    subst e2
    rw [e]
    simp only [slices_BinarySearch_uint64_uint64.l0]
    rw [if_neg (by omega)]
    by_cases c : pos l x < l.length
    · rw [if_pos (by omega), if_pos (by omega), if_pos (by rw [ints_len]; omega), ints_rd c]
      have hp := pos_iff hu x (pos l x) c
      by_cases d : l[pos l x] = x
      · rw [if_pos (by omega), decide_eq_true (by rw [← d]; exact List.getElem_mem c)]
      · rw [if_neg (by omega), isNaN_eq]; simp only [bnd]
        rw [if_neg (by simp)]
        congr 2; symm; rw [decide_eq_false_iff_not]
        intro hx
        obtain ⟨p, hp', rfl⟩ := List.getElem_of_mem hx
        have a := pos_iff hu l[p] p hp'
        rcases Nat.lt_trichotomy p (pos l l[p]) with z | z | z
        · have := a.2 z; omega
        · exact d (by simp [← z])
        · have := List.pairwise_iff_getElem.1 hu (pos l l[p]) p c hp' z
          have := hp.1 this; omega
    · rw [if_neg (by omega)]
      congr 2; symm; rw [decide_eq_false_iff_not]
      intro hx
      obtain ⟨p, hp', rfl⟩ := List.getElem_of_mem hx
      have a := pos_iff hu l[p] p hp'
      have := a.2 (by have := pos_le l l[p]; omega); omega
  | succ q ih =>
    intro i j k hq hk h1 h2 h3
    obtain ⟨k, rfl⟩ : ∃ m, k = m + 1 := ⟨k - 1, by omega⟩
    by_cases c : i < j
    · simp only [slices_BinarySearch_uint64_uint64.l0]
      have hm : (i + j) / 2 < l.length := by omega
      rw [if_pos (by omega), half_eq (by omega), if_pos (by omega), if_pos (by rw [ints_len]; omega), ints_rd hm, cmpLess_eq]; simp only [bnd]
      have hp := pos_iff hu x ((i + j) / 2) hm
      by_cases d : l[(i + j) / 2] < x
      · rw [decide_eq_true d, if_pos rfl, w64 (by omega) (by omega), show (((i + j) / 2 : Nat) : Int) + 1 = (((i + j) / 2 + 1 : Nat) : Int) by omega]
        exact ih _ _ k (by omega) (by omega) (by have := hp.1 d; omega) h2 h3
      · rw [decide_eq_false d, if_neg (by simp)]
        exact ih _ _ k (by omega) (by omega) h1 (by have : ¬ _ := fun z => d (hp.2 z); omega) (by omega)
    · exact ih i j (k + 1) (by omega) (by omega) h1 h2 h3
theorem search_eq {l : List Nat} (hu : Up l) (x : Nat) (hn : l.length < 4611686018427387904) {k : Nat} (hk : l.length < k) :
    slices_BinarySearch_uint64_uint64.f k (ints l) (x : Int) = some ((pos l x : Int), decide (x ∈ l)) := by
  unfold slices_BinarySearch_uint64_uint64.f
  rw [ints_len]
  have := search_l hu x hn l.length 0 l.length k (by omega) hk (by omega) (pos_le l x) (Nat.le_refl _)
  exact this
theorem lfind_eq (h : Int) {l : List Nat} (hb : ∀ x ∈ l, x < 18446744073709551616) (hn : l.length < 4611686018427387904) {p : Nat} (hp : p < 18446744073709551616) {k : Nat} (hk : l.length + 2 ≤ k) :
    leaf_find.f k h (ints l) (p : Int) = some (if Lst h l ∧ Lfi h p then ((pos l p : Int), decide (p ∈ l), 0) else (0, false, 1)) := by
  unfold leaf_find.f
  rw [lCheck_eq h hb hn hk]; simp only [bnd]
  by_cases c1 : Lst h l
  · rw [if_pos c1, if_pos rfl, lis_eq h hp]; simp only [bnd]
    by_cases c2 : Lfi h p
    · have c12 : Lst h l ∧ Lfi h p := ⟨c1, c2⟩
      rw [decide_eq_true c2, if_pos rfl, search_eq c1.2.2.2 p hn (by omega)]; simp only [bnd]
      rw [if_pos c12]
    · rw [decide_eq_false c2, if_neg (by simp), if_neg (fun z => c2 z.2)]
  · rw [if_neg c1, if_neg (by omega), if_neg (fun z => c1 z.1)]
theorem clone_eq {l : List Int} (h : l.length < 17592186044416) : slices_Clone_uint64_uint64.f l = some l := by unfold slices_Clone_uint64_uint64.f; rw [if_pos h]
theorem lBelow_eq (h : Int) {l : List Nat} (hb : ∀ x ∈ l, x < 18446744073709551616) (hn : l.length < 4611686018427387904) {n : Nat} (h1 : n < 18446744073709551616) {k : Nat} (hk : l.length + 3 ≤ k) :
    leaf_Below.f k h (ints l) (n : Int) = some (if Lst h l ∧ Nd h.toNat n then (ints (blw h.toNat l n), 0) else ([], 1)) := by
  obtain ⟨k, rfl⟩ : ∃ m, k = m + 1 := ⟨k - 1, by omega⟩
  unfold leaf_Below.f
  rw [nLeaves_eq h h1]; simp only [bnd]
  by_cases c1 : Nd h.toNat n
  · rw [if_pos c1]; dsimp only
    rw [if_pos rfl, lCheck_eq h hb hn (by omega)]; simp only [bnd]
    by_cases c2 : Lst h l
    · have c12 : Lst h l ∧ Nd h.toNat n := ⟨c2, c1⟩
      have hlt := hi_lt c1
      have hw := hi_eq c1
      have hwp := wd_pos h.toNat n
      have hp32 : 2 ^ h.toNat ≤ 4294967296 := pow_le_h (by have := c1.2.1; omega)
      rw [if_pos c2, if_pos c12]
      simp only [leaf_Below.j0]
      rw [if_neg (by simp), search_eq c2.2.2.2 _ hn (by omega)]; simp only [bnd]
      rw [wu64 (by omega) (by omega), show (hi h.toNat n : Int) + 1 = ((hi h.toNat n + 1 : Nat) : Int) by omega, search_eq c2.2.2.2 _ hn (by omega)]; simp only [bnd]
      have pl := pos_le l (hi h.toNat n + 1)
      have pm : pos l (lo h.toNat n) ≤ pos l (hi h.toNat n + 1) := by
        unfold pos
        have : ∀ t : List Nat, (t.filter fun y => decide (y < lo h.toNat n)).length ≤ (t.filter fun y => decide (y < hi h.toNat n + 1)).length := by
          intro t
          induction t with
          | nil => simp
          | cons a t ih =>
            simp only [List.filter_cons]
            by_cases d : a < lo h.toNat n
            · rw [if_pos (decide_eq_true d), if_pos (decide_eq_true (by omega))]; simpa using ih
            · rw [if_neg (by simpa using d)]
              split
              · simp only [List.length_cons]; omega
              · exact ih
        exact this l
      rw [if_pos (by omega), if_pos (by omega), if_pos (by rw [ints_len]; omega), Int.toNat_natCast, Int.toNat_natCast, ints_take, ints_drop, clone_eq (by rw [ints_len, List.length_drop, List.length_take]; have := c2.2.1; omega)]; simp only [bnd]
      congr 3
      rw [pos_take c2.2.2.2]
      have u2 : Up (l.filter fun y => decide (y < hi h.toNat n + 1)) := c2.2.2.2.filter _
      have ep : pos l (lo h.toNat n) = pos (l.filter fun y => decide (y < hi h.toNat n + 1)) (lo h.toNat n) := by
        unfold pos
        rw [List.filter_filter]
        congr 1
        refine List.filter_congr (fun y _ => ?_)
        rw [Bool.eq_iff_iff]; simp; omega
      rw [ep, pos_drop u2, List.filter_filter]
      unfold blw
      refine List.filter_congr (fun y hy => ?_)
      rw [Bool.eq_iff_iff, Bool.and_eq_true, decide_eq_true_iff, decide_eq_true_iff, decide_eq_true_iff, abv_lo_hi c1 (c2.2.2.1 y hy)]
      omega
    · rw [if_neg c2, if_neg (fun z => c2 z.1)]; simp [leaf_Below.j0]
  · have c12 : ¬ (Lst h l ∧ Nd h.toNat n) := fun z => c1 z.2
    rw [if_neg c1, if_neg c12]; simp [leaf_Below.j0]
/-- A list with one number more, in order. -/
def ins (l : List Nat) (p : Nat) : List Nat := l.take (pos l p) ++ p :: l.drop (pos l p)
theorem mem_ins {l : List Nat} {p x : Nat} : x ∈ ins l p ↔ x ∈ l ∨ x = p := by
  unfold ins
  have : x ∈ l ↔ x ∈ l.take (pos l p) ∨ x ∈ l.drop (pos l p) := by
    conv => lhs; rw [← List.take_append_drop (pos l p) l]
    exact List.mem_append
  rw [this, List.mem_append, List.mem_cons]
  constructor
  · rintro (z | z | z)
    · exact .inl (.inl z)
    · exact .inr z
    · exact .inl (.inr z)
  · rintro ((z | z) | z)
    · exact .inl z
    · exact .inr (.inr z)
    · exact .inr (.inl z)
theorem ins_len {l : List Nat} {p : Nat} : (ins l p).length = l.length + 1 := by
  have := pos_le l p
  unfold ins
  rw [List.length_append, List.length_cons, List.length_take, List.length_drop]; omega
theorem ins_up {l : List Nat} {p : Nat} (hu : Up l) (hp : p ∉ l) : Up (ins l p) := by
  unfold ins
  rw [pos_take hu, pos_drop hu]
  refine Up.append (hu.filter _) (List.pairwise_cons.2 ⟨?_, hu.filter _⟩) ?_
  · intro x hx
    rw [List.mem_filter, decide_eq_true_eq] at hx
    have : x ≠ p := fun e => hp (e ▸ hx.1)
    omega
  · intro x hx y hy
    rw [List.mem_filter, decide_eq_true_eq] at hx
    rw [List.mem_cons, List.mem_filter, decide_eq_true_eq] at hy
    rcases hy with rfl | hy
    · exact hx.2
    · omega
theorem ins_lst {h : Int} {l : List Nat} {p : Nat} (c : Lst h l) (z : Lfi h p) (hp : p ∉ l) (hn : l.length ≠ 1024) : Lst h (ins l p) := by
  obtain ⟨h1, h2, h3, h4⟩ := c
  refine ⟨h1, by rw [ins_len]; omega, fun i hi => ?_, ins_up h4 hp⟩
  rcases mem_ins.1 hi with y | rfl
  · exact h3 i y
  · exact z.2
theorem With_eq (h : Int) {l : List Nat} (hb : ∀ x ∈ l, x < 18446744073709551616) (hn : l.length < 4611686018427387904) {p : Nat} (hp : p < 18446744073709551616) {k : Nat} (hk : l.length + 2 ≤ k) :
    leaf_With.f k h (ints l) (p : Int) = some (if Lst h l ∧ Lfi h p then (if p ∈ l then ([], 5) else if l.length = 1024 then ([], 6) else (ints (ins l p), 0)) else ([], 1)) := by
  unfold leaf_With.f
  rw [lfind_eq h hb hn hp hk]; simp only [bnd]
  by_cases c : Lst h l ∧ Lfi h p
  · rw [if_pos c, if_pos c]; dsimp only
    rw [if_pos (by trivial)]
    by_cases m : p ∈ l
    · rw [decide_eq_true m, if_pos (by trivial), if_pos m]
    · rw [decide_eq_false m, if_neg (by simp), if_neg m, ints_len]
      by_cases z : l.length = 1024
      · rw [if_pos (by omega), if_pos z]
      · have h2 := c.1.2.1
        have pl := pos_le l p
        rw [if_neg (by omega), if_neg z, if_pos ⟨by omega, by omega, by omega⟩, Int.toNat_natCast, ints_take, ints_drop]
        simp [ints, ins]
  · rw [if_neg c, if_neg c]; dsimp only
    rw [if_neg (by omega)]
theorem Meet_eq {h a b : Nat} (da : Nd h a) (db : Nd h b) (e : a.log2 = b.log2) {k : Nat} (hk : 2 ≤ k) : node_Meet.f k (h : Int) (a : Int) (b : Int) = some ((mt a b : Int), 0) := by
  obtain ⟨k, rfl⟩ : ∃ m, k = m + 1 := ⟨k - 1, by omega⟩
  have la := da.lt33
  have lb := db.lt33
  have h32 := da.2.1
  have hlog := da.2.2.2
  have bt := both_eq (h : Int) (a := a) (b := b) (by omega) (by omega) k
  simp only [Int.toNat_natCast] at bt
  have dd : Nd h a ∧ Nd h b := ⟨da, db⟩
  rw [if_pos dd] at bt
  have x0 : Go.bits .xor .u64 (a : Int) (b : Int) = ((a ^^^ b : Nat) : Int) := Go.bits_xor_u64_nat a b (by omega) (by omega)
  have xl : a ^^^ b < 18446744073709551616 := Nat.xor_lt_two_pow (n := 64) (by omega) (by omega)
  have s0 := shr_eq a (k := 0) (by omega)
  have s1 := shr_eq b (k := 0) (by omega)
  rw [Nat.pow_zero, Nat.div_one] at s0 s1
  have szl := sz_log2 da.2.2.1 db.2.2.1 e
  unfold node_Meet.f
  rw [bt]; simp only [bnd]
  rw [if_pos (by trivial), depth_eq da.2.2.1 (by omega), depth_eq db.2.2.1 (by omega)]; simp only [bnd]
  rw [← e, mn_cast, Nat.min_self, Int.sub_self]
  have w0 : wrap64 0 = 0 := w64 (by omega) (by omega)
  rw [w0, if_pos (by omega), if_pos (by omega)]
  rw [show (0 : Int) = ((0 : Nat) : Int) from rfl, s0, s1, x0, len64 xl]; simp only [bnd]
  rw [if_pos (by omega), shr_eq a (by omega)]; rfl
theorem rd_fst {l : List Nat} (h : l ≠ []) : rd (ints l) 0 = (fst1 l : Int) := by
  have : 0 < l.length := List.length_pos_iff.2 h
  have e := ints_rd this
  rw [show ((0 : Nat) : Int) = 0 from rfl] at e
  rw [e]; cases l with
  | nil => exact absurd rfl h
  | cons a t => rfl
theorem rd_lst {l : List Nat} (h : l ≠ []) (hn : l.length < 4611686018427387904) : rd (ints l) (wrap64 ((l.length : Int) - 1)) = (lst1 l : Int) := by
  have : 0 < l.length := List.length_pos_iff.2 h
  rw [w64 (by omega) (by omega), show (l.length : Int) - 1 = ((l.length - 1 : Nat) : Int) by omega, ints_rd (by omega)]
  unfold lst1
  rw [List.getLastD_eq_getLast?, List.getLast?_eq_some_getLast h, List.getLast_eq_getElem]; rfl
theorem Down_eq (h : Int) {l : List Nat} (hb : ∀ x ∈ l, x < 18446744073709551616) (hn : l.length < 4611686018427387904) {n : Nat} (h1 : n < 18446744073709551616) {k : Nat} (hk : l.length + 3 ≤ k) :
    steiner_Down.f k h (ints l) (n : Int) = some (if Lst h l ∧ Nd h.toNat n then (if inT h.toNat l n = true then ((dwn h.toNat l n : Int), 0) else (0, 4)) else (0, 1)) := by
  unfold steiner_Down.f
  rw [lBelow_eq h hb hn h1 hk]; simp only [bnd]
  by_cases c : Lst h l ∧ Nd h.toNat n
  · rw [if_pos c, if_pos c]; dsimp only
    rw [if_pos (by trivial), ints_len]
    have hl := c.1.2.2.1
    have hh := c.1.1
    have hH := hh
    rw [hi_iff] at hH
    by_cases t : inT h.toNat l n = true
    · have hne := blw_ne.2 t
      have hl2 : (blw h.toNat l n).length ≤ l.length := List.length_filter_le _ _
      have hp : 0 < (blw h.toNat l n).length := List.length_pos_iff.2 hne
      have f1 := hl _ (mem_blw.1 (fst_mem hne)).1
      have g1 := hl _ (mem_blw.1 (lst_mem hne)).1
      have hpw := pow_le_h (h := h.toNat) (by omega)
      have n1 : Nd h.toNat (2 ^ h.toNat + fst1 (blw h.toNat l n)) := ⟨by omega, by omega, leaf_ne _ _, by rw [leaf_log f1]; omega⟩
      have n2 : Nd h.toNat (2 ^ h.toNat + lst1 (blw h.toNat l n)) := ⟨by omega, by omega, leaf_ne _ _, by rw [leaf_log g1]; omega⟩
      have me := Meet_eq n1 n2 (by rw [leaf_log f1, leaf_log g1]) (k := k) (by omega)
      have e : ((h.toNat : Nat) : Int) = h := by omega
      rw [e] at me
      rw [if_pos t, if_neg (by omega), if_pos (by omega), rd_fst hne, nLeaf_eq h (by omega)]; simp only [bnd]
      rw [if_pos hh, if_pos f1, if_pos f1, if_pos (by rw [w64 (by omega) (by omega)]; omega), if_pos (by rw [w64 (by omega) (by omega)]; omega), rd_lst hne (by omega), nLeaf_eq h (by omega)]; simp only [bnd]
      rw [if_pos hh, if_pos g1, if_pos g1]; dsimp only
      rw [if_pos rfl, if_pos (by trivial), me]; rfl
    · have hne : blw h.toNat l n = [] := blw_nil.2 (by simpa using t)
      rw [if_neg t, hne]; rfl
  · rw [if_neg c, if_neg c]; rfl
theorem Same2_l (l m : List Nat) (e : l.length = m.length) (hn : l.length < 4611686018427387904) : ∀ (q i k : Nat), i + q = l.length → q < k → medlarref02_Same.l0 k (ints l) (ints m) (l.length : Int) (i : Int) = some (decide (l.drop i = m.drop i)) := by
  intro q
  induction q with
  | zero =>
    intro i k hi hk
    obtain ⟨k, rfl⟩ : ∃ m, k = m + 1 := ⟨k - 1, by omega⟩
    rw [medlarref02_Same.l0, if_neg (by omega), List.drop_of_length_le (by omega), List.drop_of_length_le (by omega)]; simp
  | succ q ih =>
    intro i k hi hk
    obtain ⟨k, rfl⟩ : ∃ m, k = m + 1 := ⟨k - 1, by omega⟩
    rw [medlarref02_Same.l0, if_pos (by omega), if_pos (by omega), if_pos (by rw [ints_len]; omega), if_pos (by rw [ints_len]; omega), ints_rd (show i < l.length by omega), ints_rd (show i < m.length by omega)]
    have d1 : l.drop i = l[i] :: l.drop (i + 1) := List.drop_eq_getElem_cons (by omega)
    have d2 : m.drop i = m[i] :: m.drop (i + 1) := List.drop_eq_getElem_cons (by omega)
    rw [d1, d2]
    by_cases c : l[i] = m[i]
    · rw [if_pos (by omega), w64 (by omega) (by omega), show (i : Int) + 1 = ((i + 1 : Nat) : Int) by omega, ih (i + 1) k (by omega) (by omega)]
      congr 1; rw [decide_eq_decide, c]; simp only [List.cons.injEq, true_and]
    · rw [if_neg (by omega)]; congr 1; symm; rw [decide_eq_false_iff_not]; intro z; exact c (List.cons.inj z).1
theorem Same2_eq (l m : List Nat) (hn : l.length < 4611686018427387904) (hm : m.length < 4611686018427387904) {k : Nat} (hk : l.length < k) : medlarref02_Same.f k (ints l) (ints m) = some (decide (l = m)) := by
  unfold medlarref02_Same.f
  rw [ints_len, ints_len]
  by_cases c : l.length = m.length
  · rw [if_pos (by omega)]
    have := Same2_l l m c hn l.length 0 k (by omega) hk
    simpa using this
  · rw [if_neg (by omega)]; congr 1; symm; rw [decide_eq_false_iff_not]; intro e; exact c (by rw [e])
theorem live9' : medlarlaw09_live.f 30 = some true := by decide +kernel
theorem live9 {k : Nat} (hk : 30 ≤ k) : medlarlaw09_live.f k = some true := at_rounds (g := fun k => medlarlaw09_live.f k) medlarlaw09_live.mono hk live9'
end Go.Proofs.Ytoikjfcdpiikbaa.Med
