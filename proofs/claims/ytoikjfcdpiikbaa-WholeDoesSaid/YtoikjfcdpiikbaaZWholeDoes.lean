/- Plain facts that the proof of WholeDoes needs. -/
import Derived.Test.YtoikjfcdpiikbaaK0
import Derived.Laws.Bits64b
import Derived.Test.YtoikjfcdpiikbaaMPx0
import Derived.Test.YtoikjfcdpiikbaaMPx13
import Derived.Test.YtoikjfcdpiikbaaMPx15
import Derived.Test.YtoikjfcdpiikbaaMPx16
import Derived.Test.YtoikjfcdpiikbaaMPx17
import Derived.Test.YtoikjfcdpiikbaaMPx18
import Derived.Test.YtoikjfcdpiikbaaMPx2
import Derived.Test.YtoikjfcdpiikbaaMPx9
set_option linter.unusedVariables false
set_option linter.unusedSimpArgs false
set_option linter.unusedSectionVars false
namespace Go.Proofs.Ytoikjfcdpiikbaa.Med
open Go.RowKit Go.Proofs.YtoikjfcdpiikbaaW.PrintWords Go.Proofs.YtoikjfcdpiikbaaW.PrintMore Go.Proofs.Ytoikjfcdpiikbaa.MP
/-- As Option.bind_some, but no rfl lemma: the kernel then unfolds nothing. -/
theorem bnd {α β : Type} (a : α) (f : α → Option β) : (some a).bind f = f a := by
  have h := Option.bind_some a f
  exact h
theorem w64 {x : Int} (h0 : -9223372036854775808 ≤ x) (h1 : x ≤ 9223372036854775807) : wrap64 x = x := by unfold wrap64; omega
theorem wu64 {x : Int} (h0 : 0 ≤ x) (h1 : x < 18446744073709551616) : IntKind.u64.wrap x = x := by
  have : IntKind.u64.wrap x = x % 18446744073709551616 := by rfl
  omega
theorem wf_u64 {x : Int} (h : (Lit.int .u64 x).wf = true) : ∃ n : Nat, x = (n : Int) ∧ n < 18446744073709551616 := by
  have h0 : IntKind.u64.min = 0 := by decide
  have h1 : IntKind.u64.max = 18446744073709551615 := by decide
  simp [Lit.wf, h0, h1] at h
  exact ⟨x.toNat, by omega, by omega⟩
theorem wf_i64 {x : Int} (h : (Lit.int .i64 x).wf = true) : -9223372036854775808 ≤ x ∧ x ≤ 9223372036854775807 := by
  have h0 : IntKind.i64.min = -9223372036854775808 := by decide
  have h1 : IntKind.i64.max = 9223372036854775807 := by decide
  simp [Lit.wf, h0, h1] at h
  omega
theorem log2_iff {n d : Nat} (hn : n ≠ 0) : n.log2 = d ↔ 2 ^ d ≤ n ∧ n < 2 ^ (d + 1) := Nat.log2_eq_iff hn
theorem log2_lo {n : Nat} (hn : n ≠ 0) : 2 ^ n.log2 ≤ n := Nat.log2_self_le hn
theorem log2_hi (n : Nat) : n < 2 ^ (n.log2 + 1) := Nat.lt_log2_self
theorem log2_one : Nat.log2 1 = 0 := by decide
theorem pow_pos2 (k : Nat) : 0 < 2 ^ k := Nat.two_pow_pos k
theorem pow_split {a b : Nat} (h : a ≤ b) : 2 ^ b = 2 ^ a * 2 ^ (b - a) := by rw [← Nat.pow_add]; congr 1; omega
theorem pow_mono {a b : Nat} (h : a ≤ b) : 2 ^ a ≤ 2 ^ b := Nat.pow_le_pow_right (by omega) h
theorem pow_lt {a b : Nat} (h : a < b) : 2 ^ a < 2 ^ b := Nat.pow_lt_pow_right (by omega) h
theorem pow_le_32 {d : Nat} (h : d ≤ 33) : 2 ^ d ≤ 8589934592 := pow_mono (b := 33) h
theorem log2_div {n k : Nat} (hn : n ≠ 0) (hk : k ≤ n.log2) : (n / 2 ^ k).log2 = n.log2 - k ∧ n / 2 ^ k ≠ 0 := by
  have h1 := log2_lo hn
  have h2 := log2_hi n
  have hp := pow_pos2 k
  rw [pow_split hk] at h1
  have e : n.log2 + 1 = k + (n.log2 - k + 1) := by omega
  rw [e, Nat.pow_add] at h2
  have g1 : 2 ^ (n.log2 - k) ≤ n / 2 ^ k := (Nat.le_div_iff_mul_le hp).2 (by rw [Nat.mul_comm]; exact h1)
  have g2 : n / 2 ^ k < 2 ^ (n.log2 - k + 1) := Nat.div_lt_of_lt_mul h2
  have g3 : n / 2 ^ k ≠ 0 := by have := pow_pos2 (n.log2 - k); omega
  exact ⟨(log2_iff g3).2 ⟨g1, g2⟩, g3⟩
/-- The node above n, of depth d. -/
def anc (n d : Nat) : Nat := n / 2 ^ (n.log2 - d)
theorem anc_log2 {n d : Nat} (hn : n ≠ 0) (hd : d ≤ n.log2) : (anc n d).log2 = d := by
  have := (log2_div hn (k := n.log2 - d) (by omega)).1
  unfold anc; omega
theorem anc_ne {n d : Nat} (hn : n ≠ 0) : anc n d ≠ 0 := (log2_div hn (k := n.log2 - d) (by omega)).2
theorem anc_self (n : Nat) : anc n n.log2 = n := by unfold anc; simp
theorem anc_zero {n : Nat} (hn : n ≠ 0) : anc n 0 = 1 := by
  have h := anc_log2 hn (Nat.zero_le _)
  have h0 := anc_ne (d := 0) hn
  have := (log2_iff h0).1 h
  omega
theorem anc_anc {n d e : Nat} (hn : n ≠ 0) (hd : d ≤ n.log2) (he : e ≤ d) : anc (anc n d) e = anc n e := by
  unfold anc
  rw [show (n / 2 ^ (n.log2 - d)).log2 = d from anc_log2 hn hd, Nat.div_div_eq_div_mul, ← Nat.pow_add]
  congr 2; omega
/-- a is above b. -/
def Abv (a b : Nat) : Prop := a.log2 ≤ b.log2 ∧ anc b a.log2 = a
instance (a b : Nat) : Decidable (Abv a b) := inferInstanceAs (Decidable (_ ∧ _))
theorem Abv.refl (a : Nat) : Abv a a := ⟨Nat.le_refl _, anc_self a⟩
theorem Abv.trans {a b c : Nat} (hc : c ≠ 0) (h : Abv a b) (k : Abv b c) : Abv a c := by
  refine ⟨Nat.le_trans h.1 k.1, ?_⟩
  rw [← anc_anc hc k.1 h.1, k.2]; exact h.2
theorem abv_anc {n d : Nat} (hn : n ≠ 0) (hd : d ≤ n.log2) : Abv (anc n d) n := by
  unfold Abv; rw [anc_log2 hn hd]; exact ⟨hd, rfl⟩
theorem abv_root {n : Nat} (hn : n ≠ 0) : Abv 1 n := ⟨by rw [log2_one]; omega, by rw [log2_one]; exact anc_zero hn⟩
theorem abv_div {a b k : Nat} (hb : b ≠ 0) (hk : k ≤ b.log2) (h : b / 2 ^ k = a) : Abv a b := by
  subst h
  have := (log2_div hb hk).1
  refine ⟨by omega, ?_⟩
  unfold anc; congr 2; omega
theorem Abv.eq_of_log2 {a b : Nat} (h : Abv a b) (e : a.log2 = b.log2) : a = b := by
  have := h.2; rw [e, anc_self] at this; exact this.symm
theorem Abv.total {a b c : Nat} (hc : c ≠ 0) (h : Abv a c) (k : Abv b c) (hab : a.log2 ≤ b.log2) : Abv a b := by
  refine ⟨hab, ?_⟩
  have := anc_anc hc k.1 hab
  rw [k.2] at this; rw [this]; exact h.2
/-- The leaves below n, of a tree of height h, as nodes: from lf up to (not with) rt. -/
def lf (h n : Nat) : Nat := n * 2 ^ (h - n.log2)
def rt (h n : Nat) : Nat := (n + 1) * 2 ^ (h - n.log2)
theorem rt_eq (h n : Nat) : rt h n = lf h n + 2 ^ (h - n.log2) := by unfold rt lf; rw [Nat.add_mul, Nat.one_mul]
theorem lf_lt_rt (h n : Nat) : lf h n < rt h n := by have := pow_pos2 (h - n.log2); rw [rt_eq]; omega
theorem lf_ge {h n : Nat} (hn : n ≠ 0) (hd : n.log2 ≤ h) : 2 ^ h ≤ lf h n := by
  unfold lf; rw [pow_split hd]; exact Nat.mul_le_mul_right _ (log2_lo hn)
theorem rt_le {h n : Nat} (hd : n.log2 ≤ h) : rt h n ≤ 2 ^ (h + 1) := by
  have e : h + 1 = (n.log2 + 1) + (h - n.log2) := by omega
  unfold rt; rw [e, Nat.pow_add]; exact Nat.mul_le_mul_right _ (log2_hi n)
theorem leaf_log2 {h x : Nat} (h0 : 2 ^ h ≤ x) (h1 : x < 2 ^ (h + 1)) : x.log2 = h := by
  have : x ≠ 0 := by have := pow_pos2 h; omega
  exact (log2_iff this).2 ⟨h0, h1⟩
/-- All nodes above n, from 1 on. -/
def chn (n : Nat) : List Nat := (List.range (n.log2 + 1)).map (anc n)
theorem chn_len (n : Nat) : (chn n).length = n.log2 + 1 := by simp [chn]
theorem chn_get {n d : Nat} (hd : d < (chn n).length) : (chn n)[d] = anc n d := by simp [chn]
theorem chn_one : chn 1 = [1] := by decide
theorem log2_half {n : Nat} (h : 2 ≤ n) : (n / 2).log2 + 1 = n.log2 := by
  have h1 : 1 ≤ n.log2 := (Nat.le_log2 (by omega)).2 (by simpa using h)
  have := (log2_div (n := n) (k := 1) (by omega) h1).1
  rw [Nat.pow_one] at this; omega
theorem chn_snoc {n : Nat} (h : 2 ≤ n) : chn n = chn (n / 2) ++ [n] := by
  have hl := log2_half h
  unfold chn
  rw [← hl, List.range_succ, List.map_append]
  congr 1
  · apply List.map_congr_left
    intro d hd
    rw [List.mem_range] at hd
    have := anc_anc (n := n) (d := n.log2 - 1) (e := d) (by omega) (by omega) (by omega)
    rw [← this]
    congr 1
    unfold anc; congr 1
    rw [show n.log2 - (n.log2 - 1) = 1 by omega, Nat.pow_one]
  · simp only [List.map_cons, List.map_nil]; rw [hl, anc_self]
/-- How many binary digits. -/
def sz (n : Nat) : Nat := if n = 0 then 0 else n.log2 + 1
theorem sz_div {n k : Nat} (h : 2 ^ k ≤ n) : sz n = sz (n / 2 ^ k) + k := by
  have hp := pow_pos2 k
  have hn : n ≠ 0 := by omega
  have hk : k ≤ n.log2 := (Nat.le_log2 hn).2 h
  obtain ⟨a, b⟩ := log2_div hn hk
  unfold sz; rw [if_neg hn, if_neg b, a]; omega
theorem sz_le {n k : Nat} (h : n < 2 ^ k) : sz n ≤ k := by
  unfold sz; split
  · omega
  · rename_i hn; have := (Nat.log2_lt hn).2 h; omega
theorem log2_64 {n : Nat} (hn : n < 18446744073709551616) : n.log2 < 64 := by
  by_cases h : n = 0
  · subst h; decide
  · exact (Nat.log2_lt h).2 hn
/-- There is such a node. -/
def Nd (h n : Nat) : Prop := 1 ≤ h ∧ h ≤ 32 ∧ n ≠ 0 ∧ n.log2 ≤ h
instance (h n : Nat) : Decidable (Nd h n) := inferInstanceAs (Decidable (_ ∧ _))
theorem Nd.lt {h n : Nat} (d : Nd h n) : n < 2 ^ (h + 1) := Nat.lt_of_lt_of_le (log2_hi n) (pow_mono (by have := d.2.2.2; omega))
theorem Nd.lt33 {h n : Nat} (d : Nd h n) : n < 8589934592 := Nat.lt_of_lt_of_le d.lt (pow_le_32 (by have := d.2.1; omega))
theorem nd_root {h : Nat} : Nd h 1 ↔ 1 ≤ h ∧ h ≤ 32 := by unfold Nd; rw [log2_one]; omega
/-- There is such a height. -/
def Hi (h : Int) : Prop := 1 ≤ h ∧ h ≤ 32
instance (h : Int) : Decidable (Hi h) := inferInstanceAs (Decidable (_ ∧ _))
theorem hi_iff (h : Int) : Hi h ↔ 1 ≤ h ∧ h ≤ 32 := Iff.rfl
theorem nd_iff (h n : Nat) : Nd h n ↔ 1 ≤ h ∧ h ≤ 32 ∧ n ≠ 0 ∧ n.log2 ≤ h := Iff.rfl
theorem root_lt : (1 : Nat) < 18446744073709551616 := by omega
theorem nd_root' (h : Int) : Nd h.toNat 1 ↔ Hi h := by rw [nd_root, hi_iff]; omega
/-- The first leaf below n, and the last one, as leaves' numbers; how many there are. -/
def lo (h n : Nat) : Nat := lf h n - 2 ^ h
def hi (h n : Nat) : Nat := rt h n - 1 - 2 ^ h
def wd (h n : Nat) : Nat := 2 ^ (h - n.log2)
theorem wd_pos (h n : Nat) : 0 < wd h n := pow_pos2 _
theorem hi_eq {h n : Nat} (d : Nd h n) : hi h n + 1 = lo h n + wd h n := by
  have := rt_eq h n
  have h1 := lf_ge d.2.2.1 d.2.2.2
  have h2 := wd_pos h n
  unfold hi lo; unfold wd at *; omega
theorem pow_le_h {h : Nat} (hh : h ≤ 32) : 2 ^ h ≤ 4294967296 := pow_mono (b := 32) hh
/-- Spans stand in order, apart from each other, each of leaves. -/
def Rise (m : Nat) : Nat → List (Nat × Nat) → Prop
  | _, [] => True
  | from_, x :: l => from_ ≤ x.1 ∧ x.1 ≤ x.2 ∧ x.2 < m ∧ Rise m (x.2 + 1) l
theorem Rise.mono {m : Nat} {l : List (Nat × Nat)} {a b : Nat} (h : Rise m a l) (hb : b ≤ a) : Rise m b l := by
  cases l with
  | nil => trivial
  | cons x l => exact ⟨Nat.le_trans hb h.1, h.2⟩
/-- There is such a leaf. -/
def Lfi (h : Int) (p : Nat) : Prop := Hi h ∧ p < 2 ^ h.toNat
instance (h : Int) (p : Nat) : Decidable (Lfi h p) := inferInstanceAs (Decidable (_ ∧ _))
def ints (l : List Nat) : List Int := l.map Int.ofNat
theorem ints_len (l : List Nat) : (ints l).length = l.length := by simp [ints]
theorem ints_rd {l : List Nat} {i : Nat} (h : i < l.length) : rd (ints l) (i : Int) = ((l[i] : Nat) : Int) := by
  unfold rd ints
  simp [List.getD_eq_getElem?_getD, h]
set_option maxRecDepth 100000 in
theorem len8_all : ∀ i : Fin 256, bt (⟨#[0, 1, 2, 2, 3, 3, 3, 3, 4, 4, 4, 4, 4, 4, 4, 4, 5, 5, 5, 5, 5, 5, 5, 5, 5, 5, 5, 5, 5, 5, 5, 5, 6, 6, 6, 6, 6, 6, 6, 6, 6, 6, 6, 6, 6, 6, 6, 6, 6, 6, 6, 6, 6, 6, 6, 6, 6, 6, 6, 6, 6, 6, 6, 6, 7, 7, 7, 7, 7, 7, 7, 7, 7, 7, 7, 7, 7, 7, 7, 7, 7, 7, 7, 7, 7, 7, 7, 7, 7, 7, 7, 7, 7, 7, 7, 7, 7, 7, 7, 7, 7, 7, 7, 7, 7, 7, 7, 7, 7, 7, 7, 7, 7, 7, 7, 7, 7, 7, 7, 7, 7, 7, 7, 7, 7, 7, 7, 7, 8, 8, 8, 8, 8, 8, 8, 8, 8, 8, 8, 8, 8, 8, 8, 8, 8, 8, 8, 8, 8, 8, 8, 8, 8, 8, 8, 8, 8, 8, 8, 8, 8, 8, 8, 8, 8, 8, 8, 8, 8, 8, 8, 8, 8, 8, 8, 8, 8, 8, 8, 8, 8, 8, 8, 8, 8, 8, 8, 8, 8, 8, 8, 8, 8, 8, 8, 8, 8, 8, 8, 8, 8, 8, 8, 8, 8, 8, 8, 8, 8, 8, 8, 8, 8, 8, 8, 8, 8, 8, 8, 8, 8, 8, 8, 8, 8, 8, 8, 8, 8, 8, 8, 8, 8, 8, 8, 8, 8, 8, 8, 8, 8, 8, 8, 8, 8, 8, 8, 8, 8, 8, 8, 8, 8, 8, 8, 8]⟩ : ByteArray) (i.val : Int) = (sz i.val : Int) := by decide +kernel
set_option maxRecDepth 100000 in
theorem len8 {i : Nat} (h : i < 256) : bt (⟨#[0, 1, 2, 2, 3, 3, 3, 3, 4, 4, 4, 4, 4, 4, 4, 4, 5, 5, 5, 5, 5, 5, 5, 5, 5, 5, 5, 5, 5, 5, 5, 5, 6, 6, 6, 6, 6, 6, 6, 6, 6, 6, 6, 6, 6, 6, 6, 6, 6, 6, 6, 6, 6, 6, 6, 6, 6, 6, 6, 6, 6, 6, 6, 6, 7, 7, 7, 7, 7, 7, 7, 7, 7, 7, 7, 7, 7, 7, 7, 7, 7, 7, 7, 7, 7, 7, 7, 7, 7, 7, 7, 7, 7, 7, 7, 7, 7, 7, 7, 7, 7, 7, 7, 7, 7, 7, 7, 7, 7, 7, 7, 7, 7, 7, 7, 7, 7, 7, 7, 7, 7, 7, 7, 7, 7, 7, 7, 7, 8, 8, 8, 8, 8, 8, 8, 8, 8, 8, 8, 8, 8, 8, 8, 8, 8, 8, 8, 8, 8, 8, 8, 8, 8, 8, 8, 8, 8, 8, 8, 8, 8, 8, 8, 8, 8, 8, 8, 8, 8, 8, 8, 8, 8, 8, 8, 8, 8, 8, 8, 8, 8, 8, 8, 8, 8, 8, 8, 8, 8, 8, 8, 8, 8, 8, 8, 8, 8, 8, 8, 8, 8, 8, 8, 8, 8, 8, 8, 8, 8, 8, 8, 8, 8, 8, 8, 8, 8, 8, 8, 8, 8, 8, 8, 8, 8, 8, 8, 8, 8, 8, 8, 8, 8, 8, 8, 8, 8, 8, 8, 8, 8, 8, 8, 8, 8, 8, 8, 8, 8, 8, 8, 8, 8, 8, 8, 8]⟩ : ByteArray) (i : Int) = (sz i : Int) := len8_all ⟨i, h⟩
set_option maxRecDepth 100000 in
theorem len64_j (k n c : Nat) (hn : n < 4294967296) (hc : c ≤ 32) : bits_Len64.j0 (k + 1) (n : Int) (c : Int) = some ((c + sz n : Nat) : Int) := by
  have h32 : sz n ≤ 32 := sz_le hn
  simp only [bits_Len64.j0]
  by_cases h1 : 65536 ≤ n
  · have e1 := sz_div (n := n) (k := 16) h1
    rw [if_pos (by omega)]
    by_cases h2 : 256 ≤ n / 65536
    · have e2 := sz_div (n := n / 65536) (k := 8) h2
      have i1 : n / 65536 / 256 < 256 := by omega
      have e3 : ((n : Int) / 65536 / 256) % 256 = ((n / 65536 / 256 : Nat) : Int) := by omega
      rw [if_pos (by omega), e3, if_pos (by omega), if_pos (by omega), len8 i1]
      have e1' : sz n = sz (n / 65536) + 16 := e1
      have e2' : sz (n / 65536) = sz (n / 65536 / 256) + 8 := e2
      rw [w64 (x := (c : Int) + 16) (by omega) (by omega), w64 (x := (c : Int) + 16 + 8) (by omega) (by omega), w64 (x := (sz (n / 65536 / 256) : Int)) (by omega) (by omega), w64 (by omega) (by omega)]
      congr 1; omega
    · have i1 : n / 65536 < 256 := by omega
      have e3 : ((n : Int) / 65536) % 256 = ((n / 65536 : Nat) : Int) := by omega
      have e1' : sz n = sz (n / 65536) + 16 := e1
      rw [if_neg (by omega), e3, if_pos (by omega), if_pos (by omega), len8 i1]
      rw [w64 (x := (c : Int) + 16) (by omega) (by omega), w64 (x := (sz (n / 65536) : Int)) (by omega) (by omega), w64 (by omega) (by omega)]
      congr 1; omega
  · rw [if_neg (by omega)]
    by_cases h2 : 256 ≤ n
    · have e2 : sz n = sz (n / 256) + 8 := sz_div (n := n) (k := 8) h2
      have i1 : n / 256 < 256 := by omega
      have e3 : ((n : Int) / 256) % 256 = ((n / 256 : Nat) : Int) := by omega
      rw [if_pos (by omega), e3, if_pos (by omega), if_pos (by omega), len8 i1]
      rw [w64 (x := (c : Int) + 8) (by omega) (by omega), w64 (x := (sz (n / 256) : Int)) (by omega) (by omega), w64 (by omega) (by omega)]
      congr 1; omega
    · have e3 : (n : Int) % 256 = (n : Int) := by omega
      rw [if_neg (by omega), e3, if_pos (by omega), if_pos (by omega), len8 (by omega)]
      rw [w64 (x := (sz n : Int)) (by omega) (by omega), w64 (by omega) (by omega)]
      congr 1
theorem len64 {n : Nat} (hn : n < 18446744073709551616) (k : Nat) : bits_Len64.f (k + 1) (n : Int) = some (sz n : Int) := by
  unfold bits_Len64.f
  by_cases h : 4294967296 ≤ n
  · have e : sz n = sz (n / 4294967296) + 32 := sz_div (n := n) (k := 32) h
    have := len64_j k (n / 4294967296) 32 (by omega) (by omega)
    rw [if_pos (by omega), show (n : Int) / 4294967296 = ((n / 4294967296 : Nat) : Int) by omega, show (32 : Int) = ((32 : Nat) : Int) by rfl, this]
    congr 2; omega
  · have := len64_j k n 0 (by omega) (by omega)
    rw [if_neg (by omega), show (0 : Int) = ((0 : Nat) : Int) by rfl, this]
    simp
theorem depth_eq {n : Nat} (h0 : n ≠ 0) (hn : n < 18446744073709551616) (k : Nat) : node_depth.f (k + 1) (n : Int) = some (n.log2 : Int) := by
  have := sz_le (k := 64) hn
  unfold node_depth.f
  rw [len64 hn]; simp only [Option.bind_some]
  rw [w64 (by omega) (by omega)]
  unfold sz; rw [if_neg h0]; congr 1; omega
theorem high_eq (h : Int) : node_high.f h = some (decide (Hi h)) := by
  unfold node_high.f
  by_cases h1 : h ≥ 1
  · rw [if_pos h1]; congr 1; rw [decide_eq_decide, hi_iff]; omega
  · rw [if_neg h1]; congr 1; symm; rw [decide_eq_false_iff_not, hi_iff]; omega
theorem check_eq (h : Int) {n : Nat} (hn : n < 18446744073709551616) (k : Nat) : node_Check.f (k + 1) h (n : Int) = some (if Nd h.toNat n then 0 else 1) := by
  unfold node_Check.f
  rw [high_eq]; simp only [Option.bind_some]
  by_cases h1 : Hi h
  · rw [decide_eq_true h1, if_pos rfl]
    rw [hi_iff] at h1
    by_cases h2 : n = 0
    · rw [if_pos (by omega), if_neg (by rw [nd_iff]; omega)]
    · rw [if_neg (by omega), depth_eq h2 hn]; simp only [Option.bind_some]
      by_cases h3 : (n.log2 : Int) > h
      · rw [if_pos h3, if_neg (by rw [nd_iff]; omega)]
      · rw [if_neg h3, if_pos (by rw [nd_iff]; omega)]
  · rw [decide_eq_false h1, if_neg (by simp), if_neg (by rw [nd_iff]; rw [hi_iff] at h1; omega)]
theorem shr_eq (n : Nat) {k : Nat} (hk : k ≤ 64) : shr .u64 (n : Int) (k : Int) = ((n / 2 ^ k : Nat) : Int) := by
  unfold shr
  have : min ((k : Int)).toNat (IntKind.bits .u64) = k := by
    show min ((k : Int)).toNat 64 = k
    omega
  rw [this]; push_cast; rfl
theorem checkRoot_eq (h : Int) (k : Nat) : node_Check.f (k + 1) h 1 = some (if Hi h then 0 else 1) := by
  have := check_eq h root_lt k
  rw [show ((1 : Nat) : Int) = 1 by rfl] at this
  rw [this]
  by_cases h1 : Hi h
  · rw [if_pos h1, if_pos ((nd_root' h).2 h1)]
  · rw [if_neg h1, if_neg (fun z => h1 ((nd_root' h).1 z))]
def sbs (l : List (Nat × Nat)) : List S43 := l.map fun p => ⟨(p.1 : Int), (p.2 : Int)⟩
theorem shl_eq {n k : Nat} (hk : k ≤ 64) (hb : n * 2 ^ k < 18446744073709551616) : shl .u64 (n : Int) (k : Int) = ((n * 2 ^ k : Nat) : Int) := by
  unfold shl
  have : min ((k : Int)).toNat (IntKind.bits .u64) = k := by
    show min ((k : Int)).toNat 64 = k
    omega
  have e : (n : Int) * 2 ^ k = ((n * 2 ^ k : Nat) : Int) := by push_cast; rfl
  rw [this, e, wu64 (by omega) (by omega)]
theorem nLeaves_eq (h : Int) {n : Nat} (hn : n < 18446744073709551616) (k : Nat) :
    node_Leaves.f (k + 1) h (n : Int) = some (if Nd h.toNat n then ((lo h.toNat n : Int), (hi h.toNat n : Int), 0) else (0, 0, 1)) := by
  unfold node_Leaves.f
  rw [check_eq h hn]; simp only [Option.bind_some]
  by_cases h1 : Nd h.toNat n
  · have hh := h1
    rw [nd_iff] at hh
    have e : ((h.toNat : Nat) : Int) = h := by omega
    rw [if_pos h1, if_pos rfl, if_pos h1, depth_eq h1.2.2.1 hn]; simp only [Option.bind_some]
    generalize hH : h.toNat = H at *
    subst e
    have hlf := lf_ge h1.2.2.1 h1.2.2.2
    have hrt := rt_le (h := H) (n := n) h1.2.2.2
    have hlr := lf_lt_rt H n
    have hp33 : 2 ^ (H + 1) ≤ 8589934592 := pow_le_32 (by omega)
    have hpH : 2 ^ H ≤ 4294967296 := pow_le_h (by omega)
    have hpw : 2 ^ (H - n.log2) ≤ 4294967296 := pow_le_h (by omega)
    have hre := rt_eq H n
    rw [w64 (x := (H : Int) - n.log2) (by omega) (by omega), show (H : Int) - n.log2 = ((H - n.log2 : Nat) : Int) by omega, if_pos (by omega), if_pos (by omega)]
    have e1 : shl .u64 (n : Int) ((H - n.log2 : Nat) : Int) = (lf H n : Int) := shl_eq (by omega) (show lf H n < _ by omega)
    have e2 : shl .u64 1 (H : Int) = ((2 ^ H : Nat) : Int) := by
      have := shl_eq (n := 1) (k := H) (by omega) (by omega)
      rw [Nat.one_mul] at this; exact this
    have e3 : shl .u64 1 ((H - n.log2 : Nat) : Int) = ((2 ^ (H - n.log2) : Nat) : Int) := by
      have := shl_eq (n := 1) (k := H - n.log2) (by omega) (by omega)
      rw [Nat.one_mul] at this; exact this
    rw [e1, e2, e3]
    have f1 : (lf H n : Int) - ((2 ^ H : Nat) : Int) = (lo H n : Int) := by unfold lo; omega
    rw [f1]
    have g1 : lo H n < 8589934592 := by unfold lo; omega
    have g2 := hi_eq h1
    unfold wd at g2
    rw [wu64 (x := (lo H n : Int)) (by omega) (by omega), wu64 (x := (lo H n : Int) + _) (by omega) (by omega), wu64 (by omega) (by omega)]
    congr 3; omega
  · rw [if_neg h1, if_neg (by omega), if_neg h1]
theorem nLeaf_eq (h : Int) {p : Nat} (hp : p < 18446744073709551616) : node_Leaf.f h (p : Int) = some (if Hi h then (if p < 2 ^ h.toNat then ((2 ^ h.toNat + p : Nat) : Int) else 0, if p < 2 ^ h.toNat then 0 else 4) else (0, 1)) := by
  unfold node_Leaf.f
  rw [high_eq]; simp only [Option.bind_some]
  by_cases h1 : Hi h
  · have hh := h1
    rw [hi_iff] at hh
    rw [decide_eq_true h1, if_pos rfl, if_pos (by omega), if_pos h1]
    have e : ((h.toNat : Nat) : Int) = h := by omega
    generalize hH : h.toNat = H at *
    subst e
    rw [shr_eq p (by omega)]
    have hz : 0 < 2 ^ H := pow_pos2 H
    by_cases c : p < 2 ^ H
    · have e1 : shl .u64 1 (H : Int) = ((2 ^ H : Nat) : Int) := by
        have hpH : 2 ^ H ≤ 4294967296 := pow_le_h (by omega)
        have := shl_eq (n := 1) (k := H) (by omega) (by omega)
        rw [Nat.one_mul] at this; exact this
      rw [Nat.div_eq_of_lt c, if_neg (by omega), e1, if_pos c, if_pos c]
      have hpH : 2 ^ H ≤ 4294967296 := pow_le_h (by omega)
      congr 2
      rw [Go.bits_or_u64_nat _ _ (by omega) (by omega)]
      have : 2 ^ H ||| p = 2 ^ H + p := by
        have := Nat.two_pow_add_eq_or_of_lt c 1
        rw [Nat.mul_one] at this; exact this.symm
      rw [this]
    · have : 1 ≤ p / 2 ^ H := (Nat.le_div_iff_mul_le hz).2 (by omega)
      rw [if_pos (by omega), if_neg c, if_neg c]
  · rw [decide_eq_false h1, if_neg (by simp), if_neg h1]
theorem lis_eq (h : Int) {p : Nat} (hp : p < 18446744073709551616) : leaf_is.f h (p : Int) = some (decide (Lfi h p)) := by
  unfold leaf_is.f
  rw [nLeaf_eq h hp]; simp only [Option.bind_some]
  by_cases h1 : Hi h
  · rw [if_pos h1]
    by_cases h2 : p < 2 ^ h.toNat
    · rw [if_pos h2, decide_eq_true ⟨h1, h2⟩]; simp [h2]
    · rw [if_neg h2, decide_eq_false (fun z => h2 z.2)]; simp [h2]
  · rw [if_neg h1, decide_eq_false (fun z => h1 z.1)]; rfl
def Up (l : List Nat) : Prop := l.Pairwise (· < ·)
theorem Up.tail {a : Nat} {l : List Nat} (h : Up (a :: l)) : Up l := (List.pairwise_cons.1 h).2
theorem Up.lt {a : Nat} {l : List Nat} (h : Up (a :: l)) {x : Nat} (hx : x ∈ l) : a < x := (List.pairwise_cons.1 h).1 x hx
theorem up_ext : ∀ {a b : List Nat}, Up a → Up b → (∀ x, x ∈ a ↔ x ∈ b) → a = b
  | [], [], _, _, _ => rfl
  | [], y :: b, _, _, h => absurd ((h y).2 (by simp)) (by simp)
  | x :: a, [], _, _, h => absurd ((h x).1 (by simp)) (by simp)
  | x :: a, y :: b, ha, hb, h => by
    have e : x = y := by
      have h1 := (h x).1 (by simp)
      have h2 := (h y).2 (by simp)
      rcases List.mem_cons.1 h1 with z | z
      · exact z
      · rcases List.mem_cons.1 h2 with w | w
        · exact w.symm
        · have := hb.lt z; have := ha.lt w; omega
    subst e
    have : a = b := up_ext ha.tail hb.tail (fun z => by
      have := h z
      simp only [List.mem_cons] at this
      constructor
      · intro q
        rcases this.1 (.inr q) with c | c
        · have := ha.lt q; omega
        · exact c
      · intro q
        rcases this.2 (.inr q) with c | c
        · have := hb.lt q; omega
        · exact c)
    rw [this]
theorem Up.filter {l : List Nat} (h : Up l) (p : Nat → Bool) : Up (l.filter p) := List.Pairwise.filter p h
theorem up_range' (a n : Nat) : Up (List.range' a n) := List.pairwise_lt_range'
theorem Up.append {a b : List Nat} (ha : Up a) (hb : Up b) (h : ∀ x ∈ a, ∀ y ∈ b, x < y) : Up (a ++ b) := List.pairwise_append.2 ⟨ha, hb, h⟩
/-- A leaf is below n. -/
def inT (h : Nat) (l : List Nat) (n : Nat) : Bool := l.any fun i => decide (Abv n (2 ^ h + i))
theorem inT_iff {h : Nat} {l : List Nat} {n : Nat} : inT h l n = true ↔ ∃ i ∈ l, Abv n (2 ^ h + i) := by simp [inT]
theorem leaf_ne (h i : Nat) : 2 ^ h + i ≠ 0 := by have := pow_pos2 h; omega
theorem leaf_log {h i : Nat} (hi : i < 2 ^ h) : (2 ^ h + i).log2 = h := leaf_log2 (by omega) (by rw [Nat.pow_succ]; omega)
theorem inT_up {h : Nat} {l : List Nat} {a n : Nat} (hab : Abv a n) (hn : inT h l n = true) : inT h l a = true := by
  rw [inT_iff] at *
  obtain ⟨i, hi, h1⟩ := hn
  exact ⟨i, hi, hab.trans (leaf_ne h i) h1⟩
theorem inT_root {h : Nat} {l : List Nat} : inT h l 1 = true ↔ l ≠ [] := by
  rw [inT_iff]
  constructor
  · rintro ⟨i, hi, _⟩ rfl; simp at hi
  · intro hl
    obtain ⟨i, hi⟩ := List.exists_mem_of_ne_nil l hl
    exact ⟨i, hi, abv_root (leaf_ne h i)⟩
theorem inT_leaf {h : Nat} {l : List Nat} (hl : ∀ i ∈ l, i < 2 ^ h) {i : Nat} (hi : i < 2 ^ h) : inT h l (2 ^ h + i) = true ↔ i ∈ l := by
  rw [inT_iff]
  constructor
  · rintro ⟨j, hj, h1⟩
    have := h1.eq_of_log2 (by rw [leaf_log hi, leaf_log (hl j hj)])
    have : i = j := by omega
    rw [this]; exact hj
  · intro hm; exact ⟨i, hm, Abv.refl _⟩
theorem log2_dbl {n : Nat} (hn : n ≠ 0) : (2 * n).log2 = n.log2 + 1 ∧ (2 * n + 1).log2 = n.log2 + 1 := by
  have a := log2_half (n := 2 * n) (by omega)
  have b := log2_half (n := 2 * n + 1) (by omega)
  rw [show 2 * n / 2 = n by omega] at a
  rw [show (2 * n + 1) / 2 = n by omega] at b
  omega
theorem abv_half {n : Nat} (hn : 2 ≤ n) : Abv (n / 2) n := abv_div (k := 1) (by omega) (by have := log2_half hn; omega) (by rw [Nat.pow_one])
theorem abv_dbl {n : Nat} (hn : n ≠ 0) : Abv n (2 * n) ∧ Abv n (2 * n + 1) := by
  have a := abv_half (n := 2 * n) (by omega)
  have b := abv_half (n := 2 * n + 1) (by omega)
  rw [show 2 * n / 2 = n by omega] at a
  rw [show (2 * n + 1) / 2 = n by omega] at b
  exact ⟨a, b⟩
/-- What lies below n, and is not n, lies below one of its children. -/
theorem abv_child {n x : Nat} (hx : x ≠ 0) (hn : Abv n x) (hd : n.log2 < x.log2) : Abv (2 * n) x ∨ Abv (2 * n + 1) x := by
  have l1 := anc_log2 hx (show n.log2 + 1 ≤ x.log2 by omega)
  have n1 := anc_ne (d := n.log2 + 1) hx
  have a1 := abv_anc hx (show n.log2 + 1 ≤ x.log2 by omega)
  have e : anc x (n.log2 + 1) / 2 = n := by
    have two := pow_mono (show 1 ≤ (anc x (n.log2 + 1)).log2 by omega)
    have lo := log2_lo n1
    have hh := abv_half (n := anc x (n.log2 + 1)) (by omega)
    have ll := log2_half (n := anc x (n.log2 + 1)) (by omega)
    have := (hh.trans hx a1).total hx hn (by omega)
    exact this.eq_of_log2 (by omega)
  rcases Nat.mod_two_eq_zero_or_one (anc x (n.log2 + 1)) with z | z
  · left; rw [show 2 * n = anc x (n.log2 + 1) by omega]; exact a1
  · right; rw [show 2 * n + 1 = anc x (n.log2 + 1) by omega]; exact a1
theorem inT_child {h : Nat} {l : List Nat} (hl : ∀ i ∈ l, i < 2 ^ h) {n : Nat} (hn : n ≠ 0) (hd : n.log2 < h) : inT h l n = true ↔ inT h l (2 * n) = true ∨ inT h l (2 * n + 1) = true := by
  constructor
  · intro z
    obtain ⟨i, hi, h1⟩ := inT_iff.1 z
    rcases abv_child (leaf_ne h i) h1 (by rw [leaf_log (hl i hi)]; exact hd) with w | w
    · exact .inl (inT_iff.2 ⟨i, hi, w⟩)
    · exact .inr (inT_iff.2 ⟨i, hi, w⟩)
  · obtain ⟨a, b⟩ := abv_dbl hn
    rintro (z | z)
    · exact inT_up a z
    · exact inT_up b z
/-- The nodes of a depth, and those of the tree. -/
def lvl (h : Nat) (l : List Nat) (d : Nat) : List Nat := (List.range' (2 ^ d) (2 ^ d)).filter (inT h l)
theorem mem_lvl {h : Nat} {l : List Nat} {d n : Nat} : n ∈ lvl h l d ↔ n ≠ 0 ∧ n.log2 = d ∧ inT h l n = true := by
  unfold lvl
  rw [List.mem_filter, List.mem_range'_1]
  constructor
  · rintro ⟨⟨a, b⟩, c⟩
    have : n ≠ 0 := by have := pow_pos2 d; omega
    exact ⟨this, (log2_iff this).2 ⟨a, by rw [Nat.pow_succ]; omega⟩, c⟩
  · rintro ⟨a, b, c⟩
    have := (log2_iff a).1 b
    rw [Nat.pow_succ] at this
    exact ⟨⟨this.1, by omega⟩, c⟩
theorem lvl_up (h : Nat) (l : List Nat) (d : Nat) : Up (lvl h l d) := (up_range' _ _).filter _
def trs (h : Nat) (l : List Nat) : Nat → List Nat
  | 0 => []
  | d + 1 => trs h l d ++ lvl h l d
theorem mem_trs {h : Nat} {l : List Nat} {n : Nat} : ∀ {D : Nat}, n ∈ trs h l D ↔ n ≠ 0 ∧ n.log2 < D ∧ inT h l n = true
  | 0 => by simp [trs]
  | D + 1 => by
    rw [trs, List.mem_append, mem_trs (D := D), mem_lvl]
    constructor
    · rintro (⟨a, b, c⟩ | ⟨a, b, c⟩)
      · exact ⟨a, by omega, c⟩
      · exact ⟨a, by omega, c⟩
    · rintro ⟨a, b, c⟩
      by_cases e : n.log2 = D
      · exact .inr ⟨a, e, c⟩
      · exact .inl ⟨a, by omega, c⟩
theorem lt_of_log2 {a b : Nat} (hb : b ≠ 0) (h : a.log2 < b.log2) : a < b := by
  have h1 := log2_hi a
  have h2 := log2_lo hb
  have := pow_mono (show a.log2 + 1 ≤ b.log2 by omega)
  omega
theorem trs_up (h : Nat) (l : List Nat) : ∀ D, Up (trs h l D)
  | 0 => List.Pairwise.nil
  | D + 1 => (trs_up h l D).append (lvl_up h l D) (fun x hx y hy => by
      rw [mem_trs] at hx; rw [mem_lvl] at hy
      exact lt_of_log2 hy.1 (by omega))
/-- What is not, and hangs on it; the forks. -/
def ch (n : Nat) : List Nat := [2 * n, 2 * n + 1]
def hgs (h : Nat) (l : List Nat) (t : List Nat) : List Nat := t.flatMap fun n => if n.log2 < h then (ch n).filter fun c => !inT h l c else []
def fks (h : Nat) (l : List Nat) (t : List Nat) : List Nat := t.filter fun n => decide (n.log2 < h) && (inT h l (2 * n) && inT h l (2 * n + 1))
theorem mem_hgs {h : Nat} {l t : List Nat} {c : Nat} : c ∈ hgs h l t ↔ ∃ n ∈ t, n.log2 < h ∧ (c = 2 * n ∨ c = 2 * n + 1) ∧ inT h l c = false := by
  unfold hgs
  rw [List.mem_flatMap]
  constructor
  · rintro ⟨n, hn, hc⟩
    split at hc
    · rename_i hd
      rw [List.mem_filter] at hc
      simp [ch] at hc
      exact ⟨n, hn, hd, hc.1, by simpa using hc.2⟩
    · simp at hc
  · rintro ⟨n, hn, hd, hc, hi⟩
    refine ⟨n, hn, ?_⟩
    rw [if_pos hd, List.mem_filter]
    exact ⟨by simpa [ch] using hc, by simp [hi]⟩
theorem hgs_app (h : Nat) (l s t : List Nat) : hgs h l (s ++ t) = hgs h l s ++ hgs h l t := by simp [hgs]
theorem fks_app (h : Nat) (l s t : List Nat) : fks h l (s ++ t) = fks h l s ++ fks h l t := by simp [fks]
/-- As many as are, and as hang, on a depth. -/
theorem lvl_next {h : Nat} {l : List Nat} (hl : ∀ i ∈ l, i < 2 ^ h) {d : Nat} (hd : d < h) : lvl h l (d + 1) = (lvl h l d).flatMap fun n => (ch n).filter (inT h l) := by
  have key : ∀ t : List Nat, Up t → Up (t.flatMap fun n => (ch n).filter (inT h l)) := by
    intro t
    induction t with
    | nil => intro _; exact List.Pairwise.nil
    | cons n t ih =>
      intro ht
      rw [List.flatMap_cons]
      refine Up.append (Up.filter (by unfold ch Up; simp) _) (ih ht.tail) ?_
      intro x hx y hy
      rw [List.mem_filter] at hx
      obtain ⟨b, hb, hy⟩ := List.mem_flatMap.1 hy
      rw [List.mem_filter] at hy
      have := ht.lt hb
      simp [ch] at hx hy
      omega
  refine up_ext (lvl_up _ _ _) (key _ (lvl_up _ _ _)) ?_
  intro x
  rw [mem_lvl, List.mem_flatMap]
  constructor
  · rintro ⟨a, b, c⟩
    have two : 2 ≤ x := by
      have := log2_lo a; rw [b] at this
      have := pow_mono (show 1 ≤ d + 1 by omega); omega
    have hh := log2_half two
    refine ⟨x / 2, mem_lvl.2 ⟨by omega, by omega, inT_up (abv_half two) c⟩, ?_⟩
    rw [List.mem_filter]
    refine ⟨?_, c⟩
    simp [ch]; omega
  · rintro ⟨n, hn, hx⟩
    rw [mem_lvl] at hn
    rw [List.mem_filter] at hx
    have := log2_dbl hn.1
    refine ⟨?_, ?_, hx.2⟩
    · have := hx.1; simp [ch] at this; have := hn.1; omega
    · have h1 := hx.1; simp [ch] at h1
      rcases h1 with rfl | rfl <;> omega
theorem len_two (p : Nat → Bool) (n : Nat) : ((ch n).filter p).length + ((ch n).filter fun c => !p c).length = 2 := by
  unfold ch
  cases h1 : p (2 * n) <;> cases h2 : p (2 * n + 1) <;> simp [h1, h2]
theorem len_lvl_hgs {h : Nat} {l : List Nat} (hl : ∀ i ∈ l, i < 2 ^ h) {d : Nat} (hd : d < h) : (lvl h l (d + 1)).length + (hgs h l (lvl h l d)).length = 2 * (lvl h l d).length := by
  rw [lvl_next hl hd]
  have : ∀ t : List Nat, (∀ n ∈ t, n.log2 < h) → (t.flatMap fun n => (ch n).filter (inT h l)).length + (hgs h l t).length = 2 * t.length := by
    intro t
    induction t with
    | nil => intro _; rfl
    | cons n t ih =>
      intro ht
      have e : hgs h l (n :: t) = hgs h l [n] ++ hgs h l t := hgs_app h l [n] t
      have e2 : hgs h l [n] = (ch n).filter fun c => !inT h l c := by
        unfold hgs; simp only [List.flatMap_cons, List.flatMap_nil, List.append_nil]; rw [if_pos (ht n (by simp))]
      have := ih (fun m hm => ht m (by simp [hm]))
      have := len_two (inT h l) n
      rw [List.flatMap_cons, e, e2, List.length_append, List.length_append, List.length_cons]
      omega
  exact this _ (fun n hn => by rw [mem_lvl] at hn; omega)
theorem len_lvl_fks {h : Nat} {l : List Nat} (hl : ∀ i ∈ l, i < 2 ^ h) {d : Nat} (hd : d < h) : (lvl h l (d + 1)).length = (lvl h l d).length + (fks h l (lvl h l d)).length := by
  rw [lvl_next hl hd]
  have : ∀ t : List Nat, (∀ n ∈ t, n ≠ 0 ∧ n.log2 < h ∧ inT h l n = true) → (t.flatMap fun n => (ch n).filter (inT h l)).length = t.length + (fks h l t).length := by
    intro t
    induction t with
    | nil => intro _; rfl
    | cons n t ih =>
      intro ht
      obtain ⟨h0, h1, h2⟩ := ht n (by simp)
      have e : fks h l (n :: t) = fks h l [n] ++ fks h l t := fks_app h l [n] t
      have := ih (fun m hm => ht m (by simp [hm]))
      rw [List.flatMap_cons, e, List.length_append, List.length_append, List.length_cons]
      have c := (inT_child hl h0 h1).1 h2
      have : ((ch n).filter (inT h l)).length = 1 + (fks h l [n]).length := by
        unfold ch fks
        cases a1 : inT h l (2 * n) <;> cases a2 : inT h l (2 * n + 1) <;> simp [a1, a2, h1]
        rw [a1, a2] at c; simp at c
      omega
  exact this _ (fun n hn => by rw [mem_lvl] at hn; exact ⟨hn.1, by omega, hn.2.2⟩)
theorem lvl_zero {h : Nat} {l : List Nat} (h0 : l ≠ []) : lvl h l 0 = [1] := by
  unfold lvl
  simp [inT_root.2 h0]
theorem lvl_h_len {h : Nat} {l : List Nat} (hl : ∀ i ∈ l, i < 2 ^ h) (hu : Up l) : lvl h l h = l.map (2 ^ h + ·) := by
  refine up_ext (lvl_up _ _ _) ?_ ?_
  · unfold Up; rw [List.pairwise_map]; exact hu.imp (fun h => by omega)
  · intro x
    rw [mem_lvl, List.mem_map]
    constructor
    · rintro ⟨a, b, c⟩
      have := (log2_iff a).1 b
      rw [Nat.pow_succ] at this
      refine ⟨x - 2 ^ h, ?_, by omega⟩
      exact (inT_leaf hl (by omega)).1 (by rw [show 2 ^ h + (x - 2 ^ h) = x by omega]; exact c)
    · rintro ⟨i, hi, rfl⟩
      exact ⟨leaf_ne h i, leaf_log (hl i hi), (inT_leaf hl (hl i hi)).2 hi⟩
/-- Forks: one less than leaves; hanging: .. -/
theorem fks_len {h : Nat} {l : List Nat} (hl : ∀ i ∈ l, i < 2 ^ h) (h0 : l ≠ []) : ∀ {d : Nat}, d ≤ h → (fks h l (trs h l d)).length + 1 = (lvl h l d).length
  | 0, _ => by rw [lvl_zero h0]; rfl
  | d + 1, hd => by
    have := fks_len hl h0 (d := d) (by omega)
    rw [trs, fks_app, List.length_append, len_lvl_fks hl (by omega)]; omega
theorem hgs_len {h : Nat} {l : List Nat} (hl : ∀ i ∈ l, i < 2 ^ h) (h0 : l ≠ []) : ∀ {d : Nat}, d ≤ h → (hgs h l (trs h l d)).length + (lvl h l d).length = (trs h l d).length + 1
  | 0, _ => by rw [lvl_zero h0]; rfl
  | d + 1, hd => by
    have := hgs_len hl h0 (d := d) (by omega)
    have := len_lvl_hgs hl (d := d) (by omega)
    rw [trs, hgs_app, List.length_append, List.length_append]; omega
theorem hgs_last (h : Nat) (l : List Nat) : hgs h l (trs h l (h + 1)) = hgs h l (trs h l h) := by
  rw [trs, hgs_app]
  have : hgs h l (lvl h l h) = [] := by
    rw [List.eq_nil_iff_forall_not_mem]
    intro c hc
    obtain ⟨n, hn, hd, _⟩ := mem_hgs.1 hc
    rw [mem_lvl] at hn; omega
  rw [this, List.append_nil]
/-- All that hangs, of a set: of none the root. -/
def hng (h : Nat) (l : List Nat) : List Nat := if l = [] then [1] else hgs h l (trs h l h)
def frk (h : Nat) (l : List Nat) : List Nat := fks h l (trs h l h)
theorem tree_len {h : Nat} {l : List Nat} (hl : ∀ i ∈ l, i < 2 ^ h) (hu : Up l) (h0 : l ≠ []) : (trs h l (h + 1)).length = (hng h l).length + (frk h l).length + l.length ∧ (frk h l).length + 1 = l.length := by
  have a := fks_len hl h0 (d := h) (Nat.le_refl _)
  have b := hgs_len hl h0 (d := h) (Nat.le_refl _)
  have c := lvl_h_len hl hu
  rw [c] at a b
  have e : (trs h l (h + 1)).length = (trs h l h).length + l.length := by rw [trs, c]; simp
  simp only [List.length_map] at a b
  unfold hng frk; rw [if_neg h0]; omega
theorem lvl_le {h : Nat} {l : List Nat} (hl : ∀ i ∈ l, i < 2 ^ h) (hu : Up l) (d : Nat) (hd : d ≤ h) : (lvl h l d).length ≤ l.length ∧ (lvl h l d).length ≤ 2 ^ d := by
  constructor
  · have key : ∀ m d, d + m = h → (lvl h l d).length ≤ l.length := by
      intro m
      induction m with
      | zero => intro d e; simp at e; subst e; rw [lvl_h_len hl hu]; simp
      | succ m ih =>
        intro d e
        have := ih (d + 1) (by omega)
        have := len_lvl_fks hl (d := d) (by omega)
        omega
    exact key (h - d) d (by omega)
  · unfold lvl
    have := List.length_filter_le (inT h l) (List.range' (2 ^ d) (2 ^ d))
    simpa using this
/-- Whole subtrees. -/
def whl (c : List Nat) : List (Nat × Nat) := c.map fun n => (n, 0)
theorem ints_of (l : List Int) (h : ∀ x ∈ l, (Lit.int .u64 x).wf = true) : ∃ m : List Nat, l = ints m ∧ ∀ x ∈ m, x < 18446744073709551616 := by
  refine ⟨l.map Int.toNat, ?_, ?_⟩
  · unfold ints
    rw [List.map_map]
    symm
    rw [List.map_congr_left (g := id)]
    · simp
    · intro x hx
      obtain ⟨n, rfl, _⟩ := wf_u64 (h x hx)
      simp
  · intro x hx
    obtain ⟨y, hy, rfl⟩ := List.mem_map.1 hx
    obtain ⟨n, rfl, hn⟩ := wf_u64 (h y hy)
    simpa using hn
theorem ints_app (a b : List Nat) : ints a ++ ints b = ints (a ++ b) := by simp [ints]
theorem ints_one (n : Nat) : [(n : Int)] = ints [n] := rfl
/-- A set may be. -/
def Lst (h : Int) (l : List Nat) : Prop := Hi h ∧ l.length ≤ 1024 ∧ (∀ i ∈ l, i < 2 ^ h.toNat) ∧ Up l
instance (l : List Nat) : Decidable (Up l) := inferInstanceAs (Decidable (l.Pairwise (· < ·)))
instance (h : Int) (l : List Nat) : Decidable (Lst h l) := inferInstanceAs (Decidable (_ ∧ _))
/-- From a place on: each a leaf, above the one ahead of it. -/
def okf (H : Nat) : Option Nat → List Nat → Bool
  | _, [] => true
  | p, i :: l => decide (i < 2 ^ H) && (match p with | none => true | some q => decide (q < i)) && okf H (some i) l
theorem okf_some (H : Nat) : ∀ (l : List Nat) (q : Nat), okf H (some q) l = true ↔ (∀ i ∈ l, i < 2 ^ H) ∧ Up l ∧ ∀ i ∈ l, q < i
  | [], q => by simp [okf, Up]
  | i :: l, q => by
    simp only [okf, Bool.and_eq_true, decide_eq_true_iff, okf_some H l i]
    constructor
    · rintro ⟨⟨a, b⟩, c, d, e⟩
      refine ⟨?_, List.pairwise_cons.2 ⟨e, d⟩, ?_⟩
      · intro x hx; rcases List.mem_cons.1 hx with rfl | hx
        · exact a
        · exact c x hx
      · intro x hx; rcases List.mem_cons.1 hx with rfl | hx
        · exact b
        · have := e x hx; omega
    · rintro ⟨a, b, c⟩
      exact ⟨⟨a i (by simp), c i (by simp)⟩, fun x hx => a x (by simp [hx]), b.tail, fun x hx => b.lt hx⟩
theorem okf_none (H : Nat) (l : List Nat) : okf H none l = true ↔ (∀ i ∈ l, i < 2 ^ H) ∧ Up l := by
  cases l with
  | nil => simp [okf, Up]
  | cons i l =>
    simp only [okf, Bool.and_eq_true, decide_eq_true_iff, okf_some H l i, and_true]
    constructor
    · rintro ⟨a, c, d, e⟩
      refine ⟨?_, List.pairwise_cons.2 ⟨e, d⟩⟩
      intro x hx; rcases List.mem_cons.1 hx with rfl | hx
      · exact a
      · exact c x hx
    · rintro ⟨a, b⟩
      exact ⟨a i (by simp), fun x hx => a x (by simp [hx]), b.tail, fun x hx => b.lt hx⟩
def bef (l : List Nat) (i : Nat) : Option Nat := if i = 0 then none else l[i - 1]?
theorem bef_succ {l : List Nat} {i : Nat} (hi : i < l.length) : bef l (i + 1) = some l[i] := by unfold bef; rw [if_neg (by omega)]; simp [hi]
theorem lCheck_l (h : Int) (hh : Hi h) (l : List Nat) (hb : ∀ x ∈ l, x < 18446744073709551616) (hn : l.length < 4611686018427387904) : ∀ (q i k : Nat), i + q = l.length → q < k →
    leaf_Check.l0 k h (ints l) (ints l) (l.length : Int) (i : Int) = some (if okf h.toNat (bef l i) (l.drop i) = true then 0 else 1) := by
  intro q
  induction q with
  | zero =>
    intro i k hi hk
    obtain ⟨k, rfl⟩ : ∃ m, k = m + 1 := ⟨k - 1, by omega⟩
    simp only [leaf_Check.l0]
    rw [if_neg (by omega), List.drop_of_length_le (by omega)]; simp [okf]
  | succ q ih =>
    intro i k hi hk
    obtain ⟨k, rfl⟩ : ∃ m, k = m + 1 := ⟨k - 1, by omega⟩
    have d1 : l.drop i = l[i] :: l.drop (i + 1) := List.drop_eq_getElem_cons (by omega)
    have lb := hb l[i] (List.getElem_mem (by omega))
    have r := ih (i + 1) k (by omega) (by omega)
    rw [bef_succ (by omega)] at r
    simp only [leaf_Check.l0]
    rw [if_pos (by omega), if_pos (by omega), if_pos (by rw [ints_len]; omega), ints_rd (show i < l.length by omega), lis_eq h lb]; simp only [bnd]
    rw [w64 (x := (i : Int) + 1) (by omega) (by omega), show (i : Int) + 1 = ((i + 1 : Nat) : Int) by omega, r, d1]
    by_cases c : l[i] < 2 ^ h.toNat
    · rw [decide_eq_true (show Lfi h l[i] from ⟨hh, c⟩), if_pos rfl]
      by_cases i0 : i = 0
      · subst i0
        rw [if_neg (by omega)]
        simp only [okf, bef, if_true, decide_eq_true c, Bool.true_and, Bool.and_true]
      · have ei : (i : Int) - 1 = ((i - 1 : Nat) : Int) := by omega
        rw [if_pos (by omega), w64 (x := (i : Int) - 1) (by omega) (by omega), ei, if_pos (by omega), if_pos (by rw [ints_len]; omega), ints_rd (show i - 1 < l.length by omega)]
        have eb : bef l i = some l[i - 1] := by unfold bef; rw [if_neg i0]; simp [show i - 1 < l.length by omega]
        rw [eb]
        by_cases g : l[i - 1] < l[i]
        · rw [if_neg (by omega)]
          simp only [okf, decide_eq_true c, decide_eq_true g, Bool.true_and, Bool.and_true]
        · rw [if_pos (by omega)]
          simp [okf, g]
    · rw [decide_eq_false (show ¬ Lfi h l[i] from fun z => c z.2), if_neg (by simp)]
      simp [okf, c]
theorem lCheck_eq (h : Int) {l : List Nat} (hb : ∀ x ∈ l, x < 18446744073709551616) (hn : l.length < 4611686018427387904) {k : Nat} (hk : l.length + 2 ≤ k) :
    leaf_Check.f k h (ints l) = some (if Lst h l then 0 else 1) := by
  obtain ⟨k, rfl⟩ : ∃ m, k = m + 1 := ⟨k - 1, by omega⟩
  unfold leaf_Check.f
  rw [checkRoot_eq]; simp only [bnd]
  by_cases hh : Hi h
  · rw [if_pos hh, if_pos rfl, ints_len]
    simp only [leaf_Check.j0]
    by_cases c : l.length ≤ 1024
    · rw [decide_eq_false (by omega), if_neg (by simp), ints_len]
      have := lCheck_l h hh l hb hn l.length 0 k (by omega) (by omega)
      rw [show ((0 : Nat) : Int) = 0 from rfl, List.drop_zero, show bef l 0 = none from rfl] at this
      rw [this]
      by_cases o : okf h.toNat none l = true
      · have o' := (okf_none _ _).1 o
        rw [if_pos o, if_pos (show Lst h l from ⟨hh, c, o'.1, o'.2⟩)]
      · rw [if_neg o, if_neg (show ¬ Lst h l from fun z => o ((okf_none _ _).2 ⟨z.2.2.1, z.2.2.2⟩))]
    · rw [decide_eq_true (by omega), if_pos rfl, if_neg (show ¬ Lst h l from fun z => c z.2.1)]
  · rw [if_neg hh, if_neg (by omega)]
    simp only [leaf_Check.j0, if_true]
    rw [if_neg (show ¬ Lst h l from fun z => hh z.1)]
/-- How many are less. -/
def pos (l : List Nat) (x : Nat) : Nat := (l.filter fun y => decide (y < x)).length
theorem pos_le (l : List Nat) (x : Nat) : pos l x ≤ l.length := List.length_filter_le _ _
theorem pos_iff : ∀ {l : List Nat}, Up l → ∀ (x p : Nat) (hp : p < l.length), l[p] < x ↔ p < pos l x
  | [], _, x, p, hp => by simp at hp
  | a :: l, hu, x, p, hp => by
    unfold pos
    rw [List.filter_cons]
    by_cases c : a < x
    · rw [if_pos (decide_eq_true c), List.length_cons]
      cases p with
      | zero => simp [c]
      | succ p =>
        rw [List.getElem_cons_succ]
        have := pos_iff hu.tail x p (by simpa using hp)
        unfold pos at this
        rw [this]; omega
    · rw [if_neg (by simpa using c)]
      have : l.filter (fun y => decide (y < x)) = [] := by
        rw [List.filter_eq_nil_iff]; intro y hy; have := hu.lt hy; simp; omega
      rw [this]
      cases p with
      | zero => simp [c]
      | succ p =>
        rw [List.getElem_cons_succ]
        have := hu.lt (List.getElem_mem (l := l) (show p < l.length by simpa using hp))
        simp; omega
theorem cmpLess_eq (a b : Nat) : cmp_Less_uint64.f (a : Int) (b : Int) = some (decide (a < b)) := by
  unfold cmp_Less_uint64.f cmp_isNaN_uint64.f
  simp
theorem isNaN_eq (a : Nat) : slices_isNaN_uint64.f (a : Int) = some false := by unfold slices_isNaN_uint64.f; simp
theorem half_eq {a b : Nat} (h : a + b < 9223372036854775808) : wrap64 ((IntKind.u64.wrap (wrap64 ((a : Int) + (b : Int)))) / 2) = (((a + b) / 2 : Nat) : Int) := by
  rw [w64 (x := (a : Int) + b) (by omega) (by omega), wu64 (by omega) (by omega), w64 (by omega) (by omega)]; omega
theorem search_l {l : List Nat} (hu : Up l) (x : Nat) (hn : l.length < 4611686018427387904) : ∀ (q i j k : Nat), j - i ≤ q → q < k → i ≤ pos l x → pos l x ≤ j → j ≤ l.length →
    slices_BinarySearch_uint64_uint64.l0 k (ints l) (x : Int) (l.length : Int) (i : Int) (j : Int) = some ((pos l x : Int), decide (x ∈ l)) := by
  intro q
  induction q with
  | zero =>
    intro i j k hq hk h1 h2 h3
    obtain ⟨k, rfl⟩ : ∃ m, k = m + 1 := ⟨k - 1, by omega⟩
    have e : i = pos l x := by omega
    have e2 : j = i := by omega
    subst e2
    rw [e]
    simp only [slices_BinarySearch_uint64_uint64.l0]
    rw [if_neg (by omega)]
    by_cases c : pos l x < l.length
    · rw [if_pos (by omega), if_pos (by omega), if_pos (by rw [ints_len]; omega), ints_rd c]
      have hp := pos_iff hu x (pos l x) c
      by_cases d : l[pos l x] = x
      · rw [if_pos (by omega), decide_eq_true (by rw [← d]; exact List.getElem_mem c)]
      · rw [if_neg (by omega), isNaN_eq]; simp only [bnd]
        rw [if_neg (by simp)]
        congr 2; symm; rw [decide_eq_false_iff_not]
        intro hx
        obtain ⟨p, hp', rfl⟩ := List.getElem_of_mem hx
        have a := pos_iff hu l[p] p hp'
        rcases Nat.lt_trichotomy p (pos l l[p]) with z | z | z
        · have := a.2 z; omega
        · exact d (by simp [← z])
        · have := List.pairwise_iff_getElem.1 hu (pos l l[p]) p c hp' z
          have := hp.1 this; omega
    · rw [if_neg (by omega)]
      congr 2; symm; rw [decide_eq_false_iff_not]
      intro hx
      obtain ⟨p, hp', rfl⟩ := List.getElem_of_mem hx
      have a := pos_iff hu l[p] p hp'
      have := a.2 (by have := pos_le l l[p]; omega); omega
  | succ q ih =>
    intro i j k hq hk h1 h2 h3
    obtain ⟨k, rfl⟩ : ∃ m, k = m + 1 := ⟨k - 1, by omega⟩
    by_cases c : i < j
    · simp only [slices_BinarySearch_uint64_uint64.l0]
      have hm : (i + j) / 2 < l.length := by omega
      rw [if_pos (by omega), half_eq (by omega), if_pos (by omega), if_pos (by rw [ints_len]; omega), ints_rd hm, cmpLess_eq]; simp only [bnd]
      have hp := pos_iff hu x ((i + j) / 2) hm
      by_cases d : l[(i + j) / 2] < x
      · rw [decide_eq_true d, if_pos rfl, w64 (by omega) (by omega), show (((i + j) / 2 : Nat) : Int) + 1 = (((i + j) / 2 + 1 : Nat) : Int) by omega]
        exact ih _ _ k (by omega) (by omega) (by have := hp.1 d; omega) h2 h3
      · rw [decide_eq_false d, if_neg (by simp)]
        exact ih _ _ k (by omega) (by omega) h1 (by have : ¬ _ := fun z => d (hp.2 z); omega) (by omega)
    · exact ih i j (k + 1) (by omega) (by omega) h1 h2 h3
theorem search_eq {l : List Nat} (hu : Up l) (x : Nat) (hn : l.length < 4611686018427387904) {k : Nat} (hk : l.length < k) :
    slices_BinarySearch_uint64_uint64.f k (ints l) (x : Int) = some ((pos l x : Int), decide (x ∈ l)) := by
  unfold slices_BinarySearch_uint64_uint64.f
  rw [ints_len]
  have := search_l hu x hn l.length 0 l.length k (by omega) hk (by omega) (pos_le l x) (Nat.le_refl _)
  exact this
theorem power_l (d : Nat) (hd : d ≤ 63) : ∀ (m i k : Nat), i + m = d → m < k → medlarref01_power.l0 k ((2 ^ i : Nat) : Int) (d : Int) (i : Int) = some ((2 ^ d : Nat) : Int) := by
  intro m
  induction m with
  | zero =>
    intro i k hi hk
    obtain ⟨k, rfl⟩ : ∃ m, k = m + 1 := ⟨k - 1, by omega⟩
    simp only [medlarref01_power.l0]
    rw [if_neg (by omega)]
    rw [show i = d by omega]
  | succ m ih =>
    intro i k hi hk
    obtain ⟨k, rfl⟩ : ∃ m, k = m + 1 := ⟨k - 1, by omega⟩
    have hp : 2 ^ (i + 1) ≤ 2 ^ 63 := pow_mono (by omega)
    have hs : 2 ^ (i + 1) = 2 * 2 ^ i := by rw [Nat.pow_succ, Nat.mul_comm]
    simp only [medlarref01_power.l0]
    rw [if_pos (by omega), w64 (by omega) (by omega), wu64 (by omega) (by omega), show 2 * ((2 ^ i : Nat) : Int) = ((2 ^ (i + 1) : Nat) : Int) by omega, show (i : Int) + 1 = ((i + 1 : Nat) : Int) by omega]
    exact ih (i + 1) k (by omega) (by omega)
theorem power_eq {d k : Nat} (hd : d ≤ 63) (hk : 64 ≤ k) : medlarref01_power.f k (d : Int) = some ((2 ^ d : Nat) : Int) := by
  unfold medlarref01_power.f
  have := power_l d hd d 0 k (by omega) (by omega)
  simpa using this
theorem nd_lt {h n : Nat} : Nd h n ↔ 1 ≤ h ∧ h ≤ 32 ∧ 1 ≤ n ∧ n < 2 ^ (h + 1) := by
  rw [nd_iff]
  constructor
  · rintro ⟨a, b, c, d⟩; exact ⟨a, b, by omega, (Nat.log2_lt c).1 (by omega)⟩
  · rintro ⟨a, b, c, d⟩; exact ⟨a, b, by omega, by have := (Nat.log2_lt (n := n) (by omega)).2 d; omega⟩
theorem may_eq (h : Int) (n : Nat) {k : Nat} (hk : 64 ≤ k) : medlarref01_May.f k h (n : Int) = some (decide (Nd h.toNat n)) := by
  unfold medlarref01_May.f
  by_cases h1 : h ≥ 1
  · rw [if_pos h1]
    by_cases h2 : h ≤ 32
    · rw [if_pos h2]
      by_cases h3 : (n : Int) ≥ 1
      · rw [if_pos h3, w64 (by omega) (by omega), show h + 1 = ((h.toNat + 1 : Nat) : Int) by omega, power_eq (by omega) hk]
        simp only [Option.bind_some]
        congr 1
        rw [decide_eq_decide, nd_lt]
        have : ((n : Int) < ((2 ^ (h.toNat + 1) : Nat) : Int)) ↔ n < 2 ^ (h.toNat + 1) := Int.ofNat_lt
        rw [this]; omega
      · rw [if_neg h3]; congr 1; symm; rw [decide_eq_false_iff_not, nd_iff]; omega
    · rw [if_neg h2]; congr 1; symm; rw [decide_eq_false_iff_not, nd_iff]; omega
  · rw [if_neg h1]; congr 1; symm; rw [decide_eq_false_iff_not, nd_iff]; omega
theorem tdiv2 (n : Nat) : IntKind.u64.wrap (Int.tdiv (n : Int) 2) = ((n / 2 % 18446744073709551616 : Nat) : Int) := by
  have : IntKind.u64.wrap (Int.tdiv (n : Int) 2) = (Int.tdiv (n : Int) 2) % 18446744073709551616 := rfl
  rw [this, Int.tdiv_eq_ediv_of_nonneg (by omega)]; omega
theorem chain_eq : ∀ (k n : Nat), n ≠ 0 → n < 18446744073709551616 → n.log2 < k → medlarref01_Chain.f k (n : Int) = some (ints (chn n)) := by
  intro k
  induction k with
  | zero => intro n _ _ h; omega
  | succ k ih =>
    intro n h0 hn hk
    simp only [medlarref01_Chain.f]
    by_cases h1 : n = 1
    · subst h1; rw [if_pos (by rfl), chn_one]; rfl
    · have hl := log2_half (n := n) (by omega)
      have := log2_64 hn
      rw [if_neg (by omega), tdiv2, show n / 2 % 18446744073709551616 = n / 2 by omega, ih (n / 2) (by omega) (by omega) (by omega)]
      simp only [Option.bind_some]
      rw [ints_len, chn_len, if_pos (by omega), chn_snoc (n := n) (by omega)]
      simp [ints]
instance decS : DecidableEq S43 := fun a b =>
  if h : a.f0 = b.f0 ∧ a.f1 = b.f1 then .isTrue (by obtain ⟨a0, a1⟩ := a; obtain ⟨b0, b1⟩ := b; obtain ⟨rfl, rfl⟩ := h; rfl) else .isFalse (fun e => h (by rw [e]; exact ⟨rfl, rfl⟩))
/-- Are two lists of subsets the same? -/
theorem same8_l (l m : List S43) (hl : l.length = m.length) (hb : l.length < 4611686018427387904) : ∀ (q i k : Nat), i + q = l.length → q < k →
    medlarref08_Same.l0 k l m (l.length : Int) (i : Int) = some (decide (l.drop i = m.drop i)) := by
  intro q
  induction q with
  | zero =>
    intro i k hi hk
    obtain ⟨k, rfl⟩ : ∃ m, k = m + 1 := ⟨k - 1, by omega⟩
    simp only [medlarref08_Same.l0]
    rw [if_neg (by omega), List.drop_of_length_le (by omega), List.drop_of_length_le (by omega)]; simp
  | succ q ih =>
    intro i k hi hk
    obtain ⟨k, rfl⟩ : ∃ m, k = m + 1 := ⟨k - 1, by omega⟩
    have r1 : rd_T43 l (i : Int) = l[i] := by unfold rd_T43; simp [List.getD_eq_getElem?_getD, show i < l.length by omega]
    have r2 : rd_T43 m (i : Int) = m[i] := by unfold rd_T43; simp [List.getD_eq_getElem?_getD, show i < m.length by omega]
    have d1 : l.drop i = l[i] :: l.drop (i + 1) := List.drop_eq_getElem_cons (by omega)
    have d2 : m.drop i = m[i] :: m.drop (i + 1) := List.drop_eq_getElem_cons (by omega)
    simp only [medlarref08_Same.l0]
    rw [if_pos (by omega), if_pos (by omega), if_pos (by omega), if_pos (by omega), r1, r2, w64 (by omega) (by omega), show (i : Int) + 1 = ((i + 1 : Nat) : Int) by omega, ih (i + 1) k (by omega) (by omega), d1, d2]
    generalize l[i] = x, m[i] = y
    obtain ⟨x0, x1⟩ := x
    obtain ⟨y0, y1⟩ := y
    by_cases e0 : x0 = y0 <;> by_cases e1 : x1 = y1 <;> simp [e0, e1]
theorem same8_eq (l m : List S43) (hb : l.length < 4611686018427387904) {k : Nat} (hk : l.length < k) : medlarref08_Same.f k l m = some (decide (l = m)) := by
  unfold medlarref08_Same.f
  by_cases h : l.length = m.length
  · rw [if_pos (by omega)]
    have := same8_l l m h hb l.length 0 k (by omega) hk
    simpa using this
  · rw [if_neg (by omega)]; congr 1; symm; rw [decide_eq_false_iff_not]; intro e; exact h (by rw [e])
theorem rLeaf_eq (h : Int) {p : Nat} (hp : p < 18446744073709551616) {k : Nat} (hk : 70 ≤ k) : medlarref01_Leaf.f k h (p : Int) = some (if Hi h then (if p < 2 ^ h.toNat then ((2 ^ h.toNat + p : Nat) : Int) else 0, if p < 2 ^ h.toNat then 0 else 4) else (0, 1)) := by
  obtain ⟨k, rfl⟩ : ∃ m, k = m + 1 := ⟨k - 1, by omega⟩
  unfold medlarref01_Leaf.f
  by_cases h1 : Hi h
  · have hh := h1
    rw [hi_iff] at hh
    have e : ((h.toNat : Nat) : Int) = h := by omega
    have pw := power_eq (d := h.toNat) (k := k) (by omega) (by omega)
    rw [e] at pw
    have hp2 : 2 ^ h.toNat ≤ 4294967296 := pow_mono (b := 32) (by omega)
    rw [if_neg (by omega)]; simp only [medlarref01_Leaf.j0]
    rw [decide_eq_false (by omega), if_neg (by simp), pw]; simp only [bnd]
    rw [if_pos h1]
    by_cases c : p < 2 ^ h.toNat
    · rw [if_neg (by omega), if_pos c, if_pos c, wu64 (by omega) (by omega)]; congr 2
    · rw [if_pos (by omega), if_neg c, if_neg c]
  · rw [if_neg h1]
    rw [hi_iff] at h1
    by_cases h2 : h < 1
    · rw [if_pos h2]; simp [medlarref01_Leaf.j0]
    · rw [if_neg h2]; simp only [medlarref01_Leaf.j0]; rw [decide_eq_true (by omega), if_pos rfl]
theorem rLeaves_l {H n : Nat} (d : Nd H n) : ∀ (m t k : Nat), n.log2 + t + m = H → m + 70 ≤ k →
    medlarref01_Leaves.l0 k (H : Int) ((n * 2 ^ t : Nat) : Int) (((n + 1) * 2 ^ t - 1 : Nat) : Int) = some ((lo H n : Int), (hi H n : Int), 0) := by
  have d32 := d.2.1
  have p33 : 2 ^ (H + 1) ≤ 8589934592 := pow_le_32 (by omega)
  have pH : 2 ^ H ≤ 4294967296 := pow_le_h d32
  have hlo := log2_lo d.2.2.1
  have hhi := log2_hi n
  intro m
  induction m with
  | zero =>
    intro t k ht hk
    obtain ⟨k, rfl⟩ : ∃ m, k = m + 1 := ⟨k - 1, by omega⟩
    have e : t = H - n.log2 := by omega
    have e1 : n * 2 ^ t = lf H n := by subst e; rfl
    have e2 : (n + 1) * 2 ^ t = rt H n := by subst e; rfl
    have g1 := lf_ge d.2.2.1 d.2.2.2
    have g2 := rt_le d.2.2.2
    have g3 := lf_lt_rt H n
    simp only [medlarref01_Leaves.l0]
    rw [power_eq (by omega) (by omega)]; simp only [bnd]
    rw [e1, e2, if_neg (by omega)]
    unfold lo hi
    rw [wu64 (by omega) (by omega), wu64 (by omega) (by omega)]
    rw [show (lf H n : Int) - ((2 ^ H : Nat) : Int) = ((lf H n - 2 ^ H : Nat) : Int) by omega, show ((rt H n - 1 : Nat) : Int) - ((2 ^ H : Nat) : Int) = ((rt H n - 1 - 2 ^ H : Nat) : Int) by omega]
  | succ m ih =>
    intro t k ht hk
    obtain ⟨k, rfl⟩ : ∃ m, k = m + 1 := ⟨k - 1, by omega⟩
    have hp := pow_pos2 t
    have b1 : (n + 1) * 2 ^ t ≤ 2 ^ (n.log2 + 1) * 2 ^ t := Nat.mul_le_mul_right _ hhi
    rw [← Nat.pow_add] at b1
    have b2 : 2 ^ (n.log2 + 1 + t) ≤ 2 ^ H := pow_mono (by omega)
    have c1 : n * 2 ^ t < 2 ^ H := by
      have : n * 2 ^ t < (n + 1) * 2 ^ t := by rw [Nat.add_mul]; omega
      omega
    have c2 : 0 < (n + 1) * 2 ^ t := Nat.mul_pos (by omega) hp
    have s1 : n * 2 ^ (t + 1) = 2 * (n * 2 ^ t) := by rw [Nat.pow_succ, ← Nat.mul_assoc, Nat.mul_comm]
    have s2 : (n + 1) * 2 ^ (t + 1) = 2 * ((n + 1) * 2 ^ t) := by rw [Nat.pow_succ, ← Nat.mul_assoc, Nat.mul_comm]
    have r := ih (t + 1) k (by omega) (by omega)
    rw [s1, s2] at r
    generalize n * 2 ^ t = A at *
    generalize (n + 1) * 2 ^ t = B at *
    simp only [medlarref01_Leaves.l0]
    rw [power_eq (by omega) (by omega)]; simp only [bnd]
    rw [if_pos (by omega), wu64 (x := 2 * (A : Int)) (by omega) (by omega), wu64 (x := 2 * ((B - 1 : Nat) : Int)) (by omega) (by omega), wu64 (by omega) (by omega)]
    rw [show 2 * (A : Int) = ((2 * A : Nat) : Int) by omega, show 2 * ((B - 1 : Nat) : Int) + 1 = ((2 * B - 1 : Nat) : Int) by omega]
    exact r
theorem rNLeaves_eq (h : Int) {n : Nat} (hn : n < 18446744073709551616) {k : Nat} (hk : 110 ≤ k) :
    medlarref01_Leaves.f k h (n : Int) = some (if Nd h.toNat n then ((lo h.toNat n : Int), (hi h.toNat n : Int), 0) else (0, 0, 1)) := by
  unfold medlarref01_Leaves.f
  rw [may_eq h n (by omega)]; simp only [bnd]
  by_cases h1 : Nd h.toNat n
  · have e : ((h.toNat : Nat) : Int) = h := by have := h1.1; omega
    have r := rLeaves_l h1 (h.toNat - n.log2) 0 k (by have := h1.2.2.2; omega) (by have := h1.2.1; omega)
    rw [e] at r
    simp only [Nat.pow_zero, Nat.mul_one, Nat.add_sub_cancel] at r
    rw [decide_eq_true h1, if_pos rfl, if_pos h1, r]
  · rw [decide_eq_false h1, if_neg (by simp), if_neg h1]
instance decSp : DecidableEq S34 := fun a b =>
  if h : a.f0 = b.f0 ∧ a.f1 = b.f1 then .isTrue (by obtain ⟨a0, a1⟩ := a; obtain ⟨b0, b1⟩ := b; obtain ⟨rfl, rfl⟩ := h; rfl) else .isFalse (fun e => h (by rw [e]; exact ⟨rfl, rfl⟩))
theorem In_l (l : List Nat) (x : Nat) (hn : l.length < 4611686018427387904) : ∀ (q i k : Nat), i + q = l.length → q < k → medlarref02_In.l0 k (x : Int) (ints l) (l.length : Int) (i : Int) = some (decide (x ∈ l.drop i)) := by
  intro q
  induction q with
  | zero =>
    intro i k hi hk
    obtain ⟨k, rfl⟩ : ∃ m, k = m + 1 := ⟨k - 1, by omega⟩
    rw [medlarref02_In.l0, if_neg (by omega), List.drop_of_length_le (by omega)]; simp
  | succ q ih =>
    intro i k hi hk
    obtain ⟨k, rfl⟩ : ∃ m, k = m + 1 := ⟨k - 1, by omega⟩
    rw [medlarref02_In.l0, if_pos (by omega), if_pos (by omega), if_pos (by rw [ints_len]; omega), ints_rd (show i < l.length by omega), List.drop_eq_getElem_cons (show i < l.length by omega)]
    by_cases c : l[i] = x
    · rw [if_pos (by omega)]; simp [c]
    · rw [if_neg (by omega), w64 (by omega) (by omega), show (i : Int) + 1 = ((i + 1 : Nat) : Int) by omega, ih (i + 1) k (by omega) (by omega)]
      congr 1; rw [decide_eq_decide, List.mem_cons]
      constructor
      · intro z; exact .inr z
      · rintro (z | z)
        · exact absurd z.symm c
        · exact z
theorem In_eq (l : List Nat) (x : Nat) (hn : l.length < 4611686018427387904) {k : Nat} (hk : l.length < k) : medlarref02_In.f k (ints l) (x : Int) = some (decide (x ∈ l)) := by
  unfold medlarref02_In.f
  rw [ints_len]
  exact In_l l x hn l.length 0 k (by omega) hk
theorem rIs2_eq (h : Int) {p : Nat} (hp : p < 18446744073709551616) {k : Nat} (hk : 70 ≤ k) : medlarref02_Is.f k h (p : Int) = some (decide (Lfi h p)) := by
  unfold medlarref02_Is.f
  rw [rLeaf_eq h hp hk]; simp only [bnd]
  by_cases c1 : Hi h
  · rw [if_pos c1]
    by_cases c2 : p < 2 ^ h.toNat
    · rw [decide_eq_true (show Lfi h p from ⟨c1, c2⟩)]; simp [c2]
    · rw [decide_eq_false (show ¬ Lfi h p from fun z => c2 z.2)]; simp [c2]
  · rw [if_neg c1, decide_eq_false (show ¬ Lfi h p from fun z => c1 z.1)]; rfl
theorem rCheck1_eq (h : Int) (n : Nat) {k : Nat} (hk : 64 ≤ k) : medlarref01_Check.f k h (n : Int) = some (if Nd h.toNat n then 0 else 1) := by
  unfold medlarref01_Check.f
  rw [may_eq h n hk]; simp only [bnd]
  by_cases c : Nd h.toNat n <;> simp [c]
theorem rCheck2_l (h : Int) (hh : Hi h) (l : List Nat) (hb : ∀ x ∈ l, x < 18446744073709551616) (hn : l.length < 4611686018427387904) : ∀ (q i k : Nat), i + q = l.length → q + 71 ≤ k →
    medlarref02_Check.l0 k h (ints l) (ints l) (l.length : Int) (i : Int) = some (if okf h.toNat (bef l i) (l.drop i) = true then 0 else 1) := by
  intro q
  induction q with
  | zero =>
    intro i k hi hk
    obtain ⟨k, rfl⟩ : ∃ m, k = m + 1 := ⟨k - 1, by omega⟩
    rw [medlarref02_Check.l0, if_neg (by omega), List.drop_of_length_le (by omega)]; simp [okf]
  | succ q ih =>
    intro i k hi hk
    obtain ⟨k, rfl⟩ : ∃ m, k = m + 1 := ⟨k - 1, by omega⟩
    have d1 : l.drop i = l[i] :: l.drop (i + 1) := List.drop_eq_getElem_cons (by omega)
    have lb := hb l[i] (List.getElem_mem (by omega))
    have r := ih (i + 1) k (by omega) (by omega)
    rw [bef_succ (by omega)] at r
    rw [medlarref02_Check.l0, if_pos (by omega), if_pos (by omega), if_pos (by rw [ints_len]; omega), ints_rd (show i < l.length by omega), rIs2_eq h lb (by omega)]; simp only [bnd]
    rw [w64 (x := (i : Int) + 1) (by omega) (by omega), show (i : Int) + 1 = ((i + 1 : Nat) : Int) by omega, r, d1]
    by_cases c : l[i] < 2 ^ h.toNat
    · rw [decide_eq_true (show Lfi h l[i] from ⟨hh, c⟩), if_pos rfl]
      by_cases i0 : i = 0
      · subst i0
        rw [if_neg (by omega)]
        simp only [okf, bef, if_true, decide_eq_true c, Bool.true_and, Bool.and_true]
      · have ei : (i : Int) - 1 = ((i - 1 : Nat) : Int) := by omega
        rw [if_pos (by omega), w64 (x := (i : Int) - 1) (by omega) (by omega), ei, if_pos (by omega), if_pos (by rw [ints_len]; omega), ints_rd (show i - 1 < l.length by omega)]
        have eb : bef l i = some l[i - 1] := by unfold bef; rw [if_neg i0]; simp [show i - 1 < l.length by omega]
        rw [eb]
        by_cases g : l[i - 1] < l[i]
        · rw [if_neg (by omega)]
          simp only [okf, decide_eq_true c, decide_eq_true g, Bool.true_and, Bool.and_true]
        · rw [if_pos (by omega)]
          simp [okf, g]
    · rw [decide_eq_false (show ¬ Lfi h l[i] from fun z => c z.2), if_neg (by simp)]
      simp [okf, c]
theorem rCheck2_eq (h : Int) {l : List Nat} (hb : ∀ x ∈ l, x < 18446744073709551616) (hn : l.length < 4611686018427387904) {k : Nat} (hk : l.length + 80 ≤ k) :
    medlarref02_Check.f k h (ints l) = some (if Lst h l then 0 else 1) := by
  obtain ⟨k, rfl⟩ : ∃ m, k = m + 1 := ⟨k - 1, by omega⟩
  unfold medlarref02_Check.f
  have c1 := rCheck1_eq h 1 (k := k + 1) (by omega)
  rw [show ((1 : Nat) : Int) = 1 from rfl] at c1
  rw [c1]; simp only [bnd]
  by_cases hh : Hi h
  · rw [if_pos ((nd_root' h).2 hh), if_pos rfl, ints_len]
    simp only [medlarref02_Check.j0]
    by_cases c : l.length ≤ 1024
    · rw [decide_eq_false (by omega), if_neg (by simp), ints_len]
      have := rCheck2_l h hh l hb hn l.length 0 k (by omega) (by omega)
      rw [show ((0 : Nat) : Int) = 0 from rfl, List.drop_zero, show bef l 0 = none from rfl] at this
      rw [this]
      by_cases o : okf h.toNat none l = true
      · have o' := (okf_none _ _).1 o
        rw [if_pos o, if_pos (show Lst h l from ⟨hh, c, o'.1, o'.2⟩)]
      · rw [if_neg o, if_neg (show ¬ Lst h l from fun z => o ((okf_none _ _).2 ⟨z.2.2.1, z.2.2.2⟩))]
    · rw [decide_eq_true (by omega), if_pos rfl, if_neg (show ¬ Lst h l from fun z => c z.2.1)]
  · rw [if_neg (fun z => hh ((nd_root' h).1 z)), if_neg (by omega)]
    simp only [medlarref02_Check.j0, if_true]
    rw [if_neg (show ¬ Lst h l from fun z => hh z.1)]
theorem keeps_iff (d : Array Int) (n : Nat) : Go.Lib.keeps d n = true ↔ n = 0 ∨ d[n]! ≠ d[n - 1]! := by
  show decide (n = 0 ∨ d[n]! ≠ d[n - 1]!) = true ↔ _
  rw [decide_eq_true_iff]
theorem compact_at (d : Array Int) : ∀ m, Go.Lib.compactUpTo d (m + 1) = Go.Lib.compactUpTo d m ++ (if Go.Lib.keeps d m = true then [d[m]!] else []) := by
  intro m
  unfold Go.Lib.compactUpTo
  rw [List.range_succ, List.filter_append, List.map_append]
  congr 1
  simp only [List.filter_cons, List.filter_nil]
  split <;> simp
theorem compact_up {l : List Nat} (hr : l.Pairwise (· ≤ ·)) : ∃ m : List Nat, Go.Lib.compactUpTo (ints l).toArray l.length = ints m ∧ Up m ∧ (∀ x, x ∈ m ↔ x ∈ l) := by
  have key : ∀ n, n ≤ l.length → ∃ m : List Nat, Go.Lib.compactUpTo (ints l).toArray n = ints m ∧ Up m ∧ (∀ x, x ∈ m ↔ x ∈ l.take n) := by
    intro n
    induction n with
    | zero => intro _; exact ⟨[], rfl, List.Pairwise.nil, by simp⟩
    | succ n ih =>
      intro hn
      obtain ⟨m, e, u, hm⟩ := ih (by omega)
      have at_ : ∀ i (hi : i < l.length), (ints l).toArray[i]! = (l[i] : Int) := by
        intro i hi
        have : i < (ints l).toArray.size := by simpa [ints] using hi
        rw [getElem!_pos _ i this]; simp [ints]
      have tk : l.take (n + 1) = l.take n ++ [l[n]] := by rw [List.take_succ_eq_append_getElem (by omega)]
      rw [compact_at, e, tk]
      by_cases c : Go.Lib.keeps (ints l).toArray n = true
      · rw [if_pos c, at_ n (by omega)]
        refine ⟨m ++ [l[n]], by simp [ints], u.append (by unfold Up; simp) ?_, ?_⟩
        · intro x hx y hy
          rw [List.mem_singleton] at hy; subst hy
          have hx' := (hm x).1 hx
          obtain ⟨i, hi, rfl⟩ := List.getElem_of_mem hx'
          rw [List.length_take] at hi
          rw [List.getElem_take]
          have le : l[i] ≤ l[n] := List.pairwise_iff_getElem.1 hr i n (by omega) (by omega) (by omega)
          have n0 : n ≠ 0 := by omega
          have kk : (ints l).toArray[n]! ≠ (ints l).toArray[n - 1]! := ((keeps_iff _ _).1 c).resolve_left n0
          rw [at_ _ (by omega), at_ _ (by omega)] at kk
          have le1 : l[i] ≤ l[n - 1] := by
            by_cases q : i = n - 1
            · subst q; exact Nat.le_refl _
            · exact List.pairwise_iff_getElem.1 hr i (n - 1) (by omega) (by omega) (by omega)
          have le2 : l[n - 1] ≤ l[n] := List.pairwise_iff_getElem.1 hr (n - 1) n (by omega) (by omega) (by omega)
          omega
        · intro x; rw [List.mem_append, List.mem_append, hm]
      · rw [if_neg c]
        refine ⟨m, by simp, u, ?_⟩
        intro x
        rw [List.mem_append, hm, List.mem_singleton]
        constructor
        · intro z; exact .inl z
        · rintro (z | rfl)
          · exact z
          · have n0 : n ≠ 0 := fun z => c ((keeps_iff _ _).2 (.inl z))
            have kk : (ints l).toArray[n]! = (ints l).toArray[n - 1]! := Decidable.byContradiction (fun z => c ((keeps_iff _ _).2 (.inr z)))
            rw [at_ _ (by omega), at_ _ (by omega)] at kk
            have : l[n] = l[n - 1] := by omega
            rw [this]
            rw [List.mem_take_iff_getElem]
            exact ⟨n - 1, by omega, rfl⟩
  obtain ⟨m, e, u, hm⟩ := key l.length (Nat.le_refl _)
  exact ⟨m, e, u, by simpa using hm⟩
theorem set_mid (A : List Nat) (b c : Nat) (B : List Nat) : (ints (A ++ b :: B)).set A.length (c : Int) = ints (A ++ c :: B) := by
  unfold ints
  rw [List.map_append, List.map_append, List.set_append_right _ _ (by simp)]
  simp
theorem rd_mid (A : List Nat) (b : Nat) (B : List Nat) : rd (ints (A ++ b :: B)) (A.length : Int) = (b : Int) := by
  rw [ints_rd (by simp)]; simp
theorem tree_l0 (h : Int) (hh : Hi h) (out : List Int) : ∀ (B A : List Nat) (k : Nat), (∀ x ∈ B, x < 2 ^ h.toNat) → (A ++ B).length ≤ 1024 →
    steiner_tree.l0 (B.length + 1 + k) h (ints (A.map (2 ^ h.toNat + ·) ++ List.replicate B.length 0)) (ints (A ++ B)) ((A ++ B).length : Int) (A.length : Int) = steiner_tree.l1 k (ints ((A ++ B).map (2 ^ h.toNat + ·))) ([] : List Int) (wrap64 (h + 1)) 0 := by
  intro B
  induction B with
  | nil =>
    intro A k _ _
    rw [show ([] : List Nat).length + 1 + k = k + 1 by simp; omega]
    simp only [steiner_tree.l0]
    rw [if_neg (by simp)]; simp
  | cons b B ih =>
    intro A k hB hl
    have hb := hB b (by simp)
    have hp := pow_le_h (show h.toNat ≤ 32 by rw [hi_iff] at hh; omega)
    rw [show (b :: B).length + 1 + k = (B.length + 1 + k) + 1 by simp; omega]
    simp only [steiner_tree.l0]
    simp only [List.length_append, List.length_cons] at hl
    have e1 : (A ++ b :: B) = (A ++ [b]) ++ B := by simp
    have r := ih (A ++ [b]) k (fun x hx => hB x (by simp [hx])) (by simp; omega)
    rw [if_pos (by simp; omega), if_pos (by omega), if_pos (by rw [ints_len]; simp; omega), rd_mid, nLeaf_eq h (by omega)]; simp only [bnd]
    rw [if_pos hh, if_pos hb, if_pos hb]; dsimp only
    rw [if_pos rfl, if_pos (by rw [ints_len]; simp; omega), Int.toNat_natCast]
    have e2 : (ints (A.map (2 ^ h.toNat + ·) ++ List.replicate (b :: B).length 0)).set A.length ((2 ^ h.toNat + b : Nat) : Int) = ints ((A ++ [b]).map (2 ^ h.toNat + ·) ++ List.replicate B.length 0) := by
      have := set_mid (A.map (2 ^ h.toNat + ·)) 0 (2 ^ h.toNat + b) (List.replicate B.length 0)
      rw [List.length_map] at this
      rw [List.length_cons, List.replicate_succ, this]; simp
    rw [e2, w64 (by omega) (by omega), show (A.length : Int) + 1 = ((A ++ [b]).length : Int) by simp, e1]
    exact r
theorem tree_l2 (out : List Int) (x45 x46 : Int) (n : Nat) (hn : n ≤ 1024) : ∀ (B A : List Nat) (k : Nat), A.length + B.length = n →
    steiner_tree.l2 (B.length + 1 + k) (ints (A ++ B)) out x45 x46 (n : Int) (A.length : Int) = steiner_tree.l1 k (Go.Lib.compactUpTo (ints (A ++ B.map (· / 2))).toArray n) out x45 (wrap64 (x46 + 1)) := by
  intro B
  induction B with
  | nil =>
    intro A k hA
    rw [show ([] : List Nat).length + 1 + k = k + 1 by simp; omega]
    simp only [steiner_tree.l2]
    rw [if_neg (by simp at hA; omega)]
    unfold slices_Compact_uint64_uint64.f
    simp only [bnd, ints_len, List.map_nil, List.append_nil]
    simp at hA; rw [hA]
  | cons b B ih =>
    intro A k hA
    rw [show (b :: B).length + 1 + k = (B.length + 1 + k) + 1 by simp; omega]
    simp only [steiner_tree.l2]
    simp only [List.length_cons] at hA
    have r := ih (A ++ [b / 2]) k (by simp; omega)
    rw [if_pos (by omega), if_pos (by omega), if_pos (by rw [ints_len]; simp; omega), rd_mid, Int.toNat_natCast, show (b : Int) / 2 = ((b / 2 : Nat) : Int) by omega, set_mid, w64 (by omega) (by omega), show (A.length : Int) + 1 = ((A ++ [b / 2]).length : Int) by simp]
    have e : A ++ b / 2 :: B = (A ++ [b / 2]) ++ B := by simp
    rw [e, r]; simp
/-- The levels from a depth on, the deepest ones last. -/
def tl (h : Nat) (l : List Nat) : Nat → List Nat
  | 0 => []
  | r + 1 => lvl h l (h - r) ++ tl h l r
theorem tl_trs (h : Nat) (l : List Nat) : ∀ {r : Nat}, r ≤ h + 1 → trs h l (h + 1 - r) ++ tl h l r = trs h l (h + 1)
  | 0, _ => by simp [tl]
  | r + 1, hr => by
    have := tl_trs h l (r := r) (by omega)
    rw [← this, show h + 1 - r = (h + 1 - (r + 1)) + 1 by omega, trs, tl, List.append_assoc, show h - r = h + 1 - (r + 1) by omega]
theorem tl_all (h : Nat) (l : List Nat) : tl h l (h + 1) = trs h l (h + 1) := by
  have := tl_trs h l (Nat.le_refl (h + 1))
  simpa [trs] using this
theorem lvl_half {h : Nat} {l : List Nat} (hl : ∀ i ∈ l, i < 2 ^ h) {d : Nat} (hd : d < h) (x : Nat) : x ∈ lvl h l d ↔ x ∈ (lvl h l (d + 1)).map (· / 2) := by
  rw [List.mem_map]
  constructor
  · intro z
    obtain ⟨a, b, c⟩ := mem_lvl.1 z
    have lg := log2_dbl a
    rcases (inT_child hl a (by omega)).1 c with q | q
    · exact ⟨2 * x, mem_lvl.2 ⟨by omega, by omega, q⟩, by omega⟩
    · exact ⟨2 * x + 1, mem_lvl.2 ⟨by omega, by omega, q⟩, by omega⟩
  · rintro ⟨y, hy, rfl⟩
    obtain ⟨a, b, c⟩ := mem_lvl.1 hy
    have two : 2 ≤ y := by
      have := log2_lo a; rw [b] at this
      have := pow_mono (show 1 ≤ d + 1 by omega); omega
    have := log2_half two
    exact mem_lvl.2 ⟨by omega, by omega, inT_up (abv_half two) c⟩
theorem lvl_compact {h : Nat} {l : List Nat} (hl : ∀ i ∈ l, i < 2 ^ h) {d : Nat} (hd : d < h) : Go.Lib.compactUpTo (ints ((lvl h l (d + 1)).map (· / 2))).toArray (lvl h l (d + 1)).length = ints (lvl h l d) := by
  have hr : ((lvl h l (d + 1)).map (· / 2)).Pairwise (· ≤ ·) := by
    rw [List.pairwise_map]; exact (lvl_up h l (d + 1)).imp (fun z => by omega)
  obtain ⟨m, e, u, hm⟩ := compact_up hr
  rw [List.length_map] at e
  rw [e]
  congr 1
  exact up_ext u (lvl_up _ _ _) (fun x => by rw [hm, lvl_half hl hd])
theorem tree_l1 {H : Nat} (hH : H ≤ 32) {l : List Nat} (hl : ∀ i ∈ l, i < 2 ^ H) (hu : Up l) (hn : l.length ≤ 1024) (C : Nat) (hC : 1030 ≤ C) : ∀ (q r k : Nat), r + q = H → (q + 1) * C + 1 ≤ k →
    steiner_tree.l1 k (ints (lvl H l (H - r))) (ints (tl H l r)) ((H + 1 : Nat) : Int) (r : Int) = some (ints (trs H l (H + 1)), 0) := by
  have len : ∀ r, r ≤ H + 1 → (tl H l r).length ≤ r * 1024 := by
    intro r
    induction r with
    | zero => intro _; simp [tl]
    | succ r ih =>
      intro hr
      have := ih (by omega)
      have := (lvl_le hl hu (H - r) (by omega)).1
      rw [tl, List.length_append, Nat.add_mul]; omega
  have step : ∀ (r k : Nat), r ≤ H → (lvl H l (H - r)).length + 2 ≤ k →
      steiner_tree.l1 k (ints (lvl H l (H - r))) (ints (tl H l r)) ((H + 1 : Nat) : Int) (r : Int) = steiner_tree.l1 (k - ((lvl H l (H - r)).length + 2)) (Go.Lib.compactUpTo (ints ((lvl H l (H - r)).map (· / 2))).toArray (lvl H l (H - r)).length) (ints (tl H l (r + 1))) ((H + 1 : Nat) : Int) ((r + 1 : Nat) : Int) := by
    intro r k hr hk
    have l1 := (lvl_le hl hu (H - r) (by omega)).1
    have l2 := len r (by omega)
    have l3 : r * 1024 ≤ 32 * 1024 := Nat.mul_le_mul_right _ (by omega)
    obtain ⟨j, rfl⟩ : ∃ j, k = ((lvl H l (H - r)).length + 1 + j) + 1 := ⟨k - ((lvl H l (H - r)).length + 2), by omega⟩
    simp only [steiner_tree.l1]
    rw [if_pos (by omega), List.nil_append, if_pos (by simp only [List.length_nil, ints_len]; omega)]
    simp only [bnd]
    rw [if_pos (by rw [ints_len, ints_len]; omega), ints_len, ints_app]
    have e := tree_l2 (ints (lvl H l (H - r) ++ tl H l r)) ((H + 1 : Nat) : Int) (r : Int) (lvl H l (H - r)).length (by omega) (lvl H l (H - r)) [] j (by simp)
    rw [List.nil_append, List.nil_append, show (([] : List Nat).length : Int) = 0 from rfl] at e
    rw [e, w64 (by omega) (by omega), show (r : Int) + 1 = ((r + 1 : Nat) : Int) by omega]
    have ej : (lvl H l (H - r)).length + 1 + j + 1 - ((lvl H l (H - r)).length + 2) = j := by omega
    rw [ej]; rfl
  intro q
  induction q with
  | zero =>
    intro r k hr hk
    have l1 := (lvl_le hl hu (H - r) (by omega)).1
    rw [step r k (by omega) (by omega)]
    obtain ⟨j, hj⟩ : ∃ j, k - ((lvl H l (H - r)).length + 2) = j + 1 := ⟨k - ((lvl H l (H - r)).length + 2) - 1, by omega⟩
    rw [hj]
    simp only [steiner_tree.l1]
    rw [if_neg (by omega), show r + 1 = H + 1 by omega, tl_all]
  | succ q ih =>
    intro r k hr hk
    have l1 := (lvl_le hl hu (H - r) (by omega)).1
    have this : (q + 1 + 1) * C = (q + 1) * C + C := by rw [Nat.add_mul, Nat.one_mul]
    rw [step r k (by omega) (by omega)]
    have e := lvl_compact hl (d := H - (r + 1)) (by omega)
    rw [show H - (r + 1) + 1 = H - r by omega] at e
    rw [e]
    refine ih (r + 1) _ (by omega) ?_
    omega
theorem tree_eq (h : Int) {l : List Nat} (hb : ∀ x ∈ l, x < 18446744073709551616) (hn : l.length < 4611686018427387904) {k : Nat} (hk : 40000 ≤ k) (hk2 : l.length + 2 ≤ k) :
    steiner_tree.f k h (ints l) = some (if Lst h l then (ints (trs h.toNat l (h.toNat + 1)), 0) else ([], 1)) := by
  unfold steiner_tree.f
  rw [lCheck_eq h hb hn hk2]; simp only [bnd]
  by_cases c : Lst h l
  · obtain ⟨hh, n1, hl, hu⟩ := c
    have c : Lst h l := ⟨hh, n1, hl, hu⟩
    have hH := hh
    rw [hi_iff] at hH
    rw [if_pos c, if_pos rfl, if_pos c, if_pos (by omega), ints_len, if_pos (by omega), Int.toNat_natCast]
    obtain ⟨j, rfl⟩ : ∃ j, k = l.length + 1 + j := ⟨k - (l.length + 1), by omega⟩
    have e := tree_l0 h hh [] l [] j (by simpa using hl) (by simpa using n1)
    rw [List.nil_append, List.map_nil, List.nil_append, show (([] : List Nat).length : Int) = 0 from rfl] at e
    have e0 : ints (List.replicate l.length 0) = List.replicate l.length 0 := by simp [ints]
    rw [e0] at e
    rw [e, ← lvl_h_len hl hu, w64 (by omega) (by omega), show h + 1 = ((h.toNat + 1 : Nat) : Int) by omega]
    obtain ⟨C, hC⟩ : ∃ C : Nat, C = 1030 := ⟨_, rfl⟩
    have hm : (h.toNat + 1) * C ≤ 33 * C := Nat.mul_le_mul_right _ (by omega)
    have r := tree_l1 (H := h.toNat) (by omega) hl hu n1 C (by omega) h.toNat 0 j (by omega) (by omega)
    rw [Nat.sub_zero, show tl h.toNat l 0 = [] from rfl] at r
    exact r
  · rw [if_neg c, if_neg (by omega), if_neg c]
theorem u64or {n b : Nat} (hn : n < 9223372036854775808) (hb : b < 2) : Go.bits .or .u64 (IntKind.u64.wrap ((n : Int) * 2)) (IntKind.u64.wrap (b : Int)) = ((2 * n + b : Nat) : Int) := by
  rw [wu64 (by omega) (by omega), wu64 (by omega) (by omega), show (n : Int) * 2 = ((2 * n : Nat) : Int) by omega]
  have e := Go.bits_or_u64_nat (2 * n) b (by omega) (by omega)
  rw [e]
  congr 1
  have := Nat.two_pow_add_eq_or_of_lt (i := 1) (b := b) (by omega) n
  simpa using this.symm
theorem andNot1 {b : Nat} (hb : b < 2) : Go.bits .andNot .i64 (b : Int) 1 = 0 := by
  rcases (show b = 0 ∨ b = 1 by omega) with rfl | rfl <;> decide
theorem Child_eq {h n b : Nat} (d : Nd h n) (hb : b < 2) {k : Nat} (hk : 3 ≤ k) : node_Child.f k (h : Int) (n : Int) (b : Int) = some (if n.log2 < h then (((2 * n + b : Nat) : Int), 0) else (0, 4)) := by
  obtain ⟨k, rfl⟩ : ∃ m, k = m + 2 := ⟨k - 2, by omega⟩
  have lt := d.lt33
  unfold node_Child.f
  rw [check_eq _ (by omega), Int.toNat_natCast, if_pos d]; simp only [bnd]
  rw [if_pos trivial, andNot1 hb]
  have e : ((0 : Int) != 0) = false := by decide
  rw [e]
  simp only [node_Child.j0]
  rw [if_neg (by simp), depth_eq d.2.2.1 (by omega)]; simp only [bnd]
  have := d.2.2.2
  by_cases c : n.log2 < h
  · rw [if_neg (by omega), if_pos c, u64or (by omega) hb]
  · rw [if_pos (by omega), if_neg c]
/-- What of a node's children is not in the tree. -/
def outs (h : Nat) (l : List Nat) (n : Nat) : List Nat := if n.log2 < h then (ch n).filter fun c => !inT h l c else []
theorem hgs_outs (h : Nat) (l t : List Nat) : hgs h l t = t.flatMap (outs h l) := rfl
theorem nd_trs {H : Nat} (hH : 1 ≤ H ∧ H ≤ 32) {l : List Nat} {n : Nat} (hn : n ∈ trs H l (H + 1)) : Nd H n ∧ inT H l n = true := by
  obtain ⟨a, b, c⟩ := mem_trs.1 hn
  exact ⟨⟨hH.1, hH.2, a, by omega⟩, c⟩
theorem child_l0 {H : Nat} (hH : 1 ≤ H ∧ H ≤ 32) {l : List Nat} (step : Nat → List Int → Int → List Int → Option (List Int)) (F : List Nat → Nat → List Nat) (T : List Nat) (hT : T = trs H l (H + 1)) (hlen : T.length < 1000000)
    (hs : ∀ j acc n, n ∈ T → acc.length ≤ 4000000 → 3 ≤ j → step j (ints acc) (n : Int) (ints (outs H l n)) = some (ints (F acc n)) ∧ (F acc n).length ≤ acc.length + 2) :
    ∀ (q i k : Nat) (acc : List Nat), i + q = T.length → 4 * q + T.length + 12 ≤ k → acc.length ≤ 2 * i → steiner_children.l0 step k (H : Int) (ints T) (i : Int) (ints acc) = some (ints ((T.drop i).foldl F acc), 0) := by
  have hu : Up T := by rw [hT]; exact trs_up _ _ _
  intro q
  induction q with
  | zero =>
    intro i k acc hi hk ha
    obtain ⟨k, rfl⟩ : ∃ m, k = m + 1 := ⟨k - 1, by omega⟩
    simp only [steiner_children.l0]
    rw [if_neg (by rw [ints_len]; omega), List.drop_of_length_le (by omega)]; rfl
  | succ q ih =>
    intro i k acc hi hk ha
    have hiT : i < T.length := by omega
    have d1 : T.drop i = T[i] :: T.drop (i + 1) := List.drop_eq_getElem_cons hiT
    have hnT : T[i] ∈ T := List.getElem_mem hiT
    rw [d1, List.foldl_cons]
    rw [show k = (k - 1) + 1 by omega]
    simp only [steiner_children.l0]
    rw [if_pos (by rw [ints_len]; omega), if_pos (by omega), ints_rd hiT]
    generalize T[i] = n at *
    have nd := nd_trs hH (by rw [← hT]; exact hnT)
    have lt := nd.1.lt33
    have hn0 := nd.1.2.2.1
    have fin : ∀ j, k - 4 ≤ j → (step j (ints acc) (n : Int) (ints (outs H l n))).bind (fun y => steiner_children.l0 step j (H : Int) (ints T) (wrap64 ((i : Int) + 1)) y) = some (ints ((T.drop (i + 1)).foldl F (F acc n)), 0) := by
      intro j hj
      obtain ⟨s1, s2⟩ := hs j acc n hnT (by omega) (by omega)
      rw [s1]; simp only [bnd]
      rw [w64 (by omega) (by omega), show (i : Int) + 1 = ((i + 1 : Nat) : Int) by omega]
      exact ih (i + 1) j _ (by omega) (by omega) (by omega)
    have mem : n.log2 < H → ∀ b, b < 2 → (decide (2 * n + b ∈ T) = inT H l (2 * n + b)) := by
      intro hd b hb
      have lg := log2_dbl hn0
      have lb : (2 * n + b).log2 = n.log2 + 1 := by
        rcases (show b = 0 ∨ b = 1 by omega) with rfl | rfl
        · rw [Nat.add_zero]; omega
        · omega
      rw [Bool.eq_iff_iff, decide_eq_true_iff, hT, mem_trs]
      constructor
      · intro z; exact z.2.2
      · intro z; exact ⟨by omega, by omega, z⟩
    have l1 : ∀ (b : Nat) (y : List Nat) (j : Nat), b < 2 → k - 4 ≤ j → y.length ≤ 4 → steiner_children.l1 step (j + 1) (H : Int) (ints T) (n : Int) (ints y) (i : Int) (b : Int) (ints acc) =
        if n.log2 < H then (if inT H l (2 * n + b) = true then steiner_children.l1 step j (H : Int) (ints T) (n : Int) (ints y) (i : Int) ((b + 1 : Nat) : Int) (ints acc) else steiner_children.l1 step j (H : Int) (ints T) (n : Int) (ints (y ++ [2 * n + b])) (i : Int) ((b + 1 : Nat) : Int) (ints acc))
        else (step j (ints acc) (n : Int) (ints y)).bind (fun y => steiner_children.l0 step j (H : Int) (ints T) (wrap64 ((i : Int) + 1)) y) := by
      intro b y j hb hj hy
      simp only [steiner_children.l1]
      rw [if_pos (by omega), Child_eq nd.1 hb (by omega)]; simp only [bnd]
      by_cases c : n.log2 < H
      · rw [if_pos c]; dsimp only
        rw [if_pos rfl, search_eq hu (2 * n + b) (by omega) (by omega)]; simp only [bnd]
        rw [mem c b hb, w64 (x := (b : Int) + 1) (by omega) (by omega), show (b : Int) + 1 = ((b + 1 : Nat) : Int) by omega, if_pos c, if_pos (show (ints y).length < 17592186044416 by rw [ints_len]; omega), ints_one, ints_app]
      · rw [if_neg c]; dsimp only
        rw [if_neg (by omega), if_neg c]
    have l1e : ∀ (y : List Nat) (j : Nat), steiner_children.l1 step (j + 1) (H : Int) (ints T) (n : Int) (ints y) (i : Int) ((2 : Nat) : Int) (ints acc) = (step j (ints acc) (n : Int) (ints y)).bind (fun y => steiner_children.l0 step j (H : Int) (ints T) (wrap64 ((i : Int) + 1)) y) := by
      intro y j
      simp only [steiner_children.l1]
      rw [if_neg (by omega)]
    have e0 : steiner_children.l1 step (k - 1) (H : Int) (ints T) (n : Int) ([] : List Int) (i : Int) 0 (ints acc) = steiner_children.l1 step ((k - 2) + 1) (H : Int) (ints T) (n : Int) (ints []) (i : Int) ((0 : Nat) : Int) (ints acc) := by
      rw [show k - 2 + 1 = k - 1 by omega]; rfl
    rw [e0, l1 0 [] (k - 2) (by omega) (by omega) (by simp)]
    by_cases c : n.log2 < H
    · have eo : outs H l n = (if inT H l (2 * n) = true then [] else [2 * n]) ++ (if inT H l (2 * n + 1) = true then [] else [2 * n + 1]) := by
        unfold outs ch
        rw [if_pos c]
        cases h1 : inT H l (2 * n) <;> cases h2 : inT H l (2 * n + 1) <;> simp [h1, h2]
      rw [eo] at fin
      rw [if_pos c, show k - 2 = (k - 3) + 1 by omega]
      simp only [Nat.add_zero, Nat.zero_add]
      cases h1 : inT H l (2 * n)
      · rw [if_neg (by simp), l1 1 _ (k - 3) (by omega) (by omega) (by simp), if_pos c, show k - 3 = (k - 4) + 1 by omega]
        cases h2 : inT H l (2 * n + 1)
        · rw [if_neg (by simp), l1e]
          have := fin (k - 4) (Nat.le_refl _)
          simpa [h1, h2] using this
        · rw [if_pos rfl, l1e]
          have := fin (k - 4) (Nat.le_refl _)
          simpa [h1, h2] using this
      · rw [if_pos rfl, l1 1 _ (k - 3) (by omega) (by omega) (by simp), if_pos c, show k - 3 = (k - 4) + 1 by omega]
        cases h2 : inT H l (2 * n + 1)
        · rw [if_neg (by simp), l1e]
          have := fin (k - 4) (Nat.le_refl _)
          simpa [h1, h2] using this
        · rw [if_pos rfl, l1e]
          have := fin (k - 4) (Nat.le_refl _)
          simpa [h1, h2, ints] using this
    · rw [if_neg c]
      have := fin (k - 2) (by omega)
      unfold outs at this
      rw [if_neg c] at this
      exact this
theorem trs_len {H : Nat} {l : List Nat} (hl : ∀ i ∈ l, i < 2 ^ H) (hu : Up l) : ∀ d, d ≤ H + 1 → (trs H l d).length ≤ d * l.length
  | 0, _ => by simp [trs]
  | d + 1, hd => by
    have := trs_len hl hu d (by omega)
    have := (lvl_le hl hu d (by omega)).1
    rw [trs, List.length_append, Nat.add_mul]; omega
theorem children_eq {h : Int} {l : List Nat} (c : Lst h l) (step : Nat → List Int → Int → List Int → Option (List Int)) (F : List Nat → Nat → List Nat)
    (hs : ∀ j acc n, n ∈ trs h.toNat l (h.toNat + 1) → acc.length ≤ 4000000 → 3 ≤ j → step j (ints acc) (n : Int) (ints (outs h.toNat l n)) = some (ints (F acc n)) ∧ (F acc n).length ≤ acc.length + 2) {k : Nat} (hk : 200000 ≤ k) :
    steiner_children.f step k h (ints l) = some (ints ((trs h.toNat l (h.toNat + 1)).foldl F []), 0) := by
  obtain ⟨hh, n1, hl, hu⟩ := c
  have c : Lst h l := ⟨hh, n1, hl, hu⟩
  have hH := hh
  rw [hi_iff] at hH
  have tl := trs_len hl hu (h.toNat + 1) (Nat.le_refl _)
  have tm : (h.toNat + 1) * l.length ≤ 33 * 1024 := Nat.mul_le_mul (by omega) n1
  have hb : ∀ x ∈ l, x < 18446744073709551616 := fun x hx => by
    have := hl x hx
    have := pow_le_h (h := h.toNat) (by omega)
    omega
  unfold steiner_children.f
  rw [tree_eq h hb (by omega) (by omega) (by omega), if_pos c]; simp only [bnd]
  have e : ((h.toNat : Nat) : Int) = h := by omega
  have := child_l0 (H := h.toNat) (l := l) (by omega) step F _ rfl (by omega) hs (trs h.toNat l (h.toNat + 1)).length 0 k [] (by omega) (by omega) (by simp)
  rw [e] at this
  exact this
theorem children_bad {h : Int} {l : List Nat} (hb : ∀ x ∈ l, x < 18446744073709551616) (hn : l.length < 4611686018427387904) (c : ¬ Lst h l) (step : Nat → List Int → Int → List Int → Option (List Int)) {k : Nat} (hk : 40000 ≤ k) (hk2 : l.length + 2 ≤ k) :
    steiner_children.f step k h (ints l) = some ([], 1) := by
  unfold steiner_children.f
  rw [tree_eq h hb hn hk hk2, if_neg c]; rfl
theorem Hang_eq (h : Int) {l : List Nat} (hb : ∀ x ∈ l, x < 18446744073709551616) (hn : l.length < 4611686018427387904) {k : Nat} (hk : 200000 ≤ k) (hk2 : l.length + 2 ≤ k) :
    steiner_Hang.f k h (ints l) = some (if Lst h l then (ints (hng h.toNat l), 0) else ([], 1)) := by
  unfold steiner_Hang.f
  rw [lCheck_eq h hb hn hk2]; simp only [bnd]
  by_cases c : Lst h l
  · rw [if_pos c, if_pos rfl, if_pos c, ints_len]
    by_cases l0 : l = []
    · subst l0; rw [if_pos (by rfl)]; simp [hng, ints]
    · have : l.length ≠ 0 := fun z => l0 (List.length_eq_zero_iff.1 z)
      rw [if_neg (by omega)]
      have e := children_eq c steiner_Hang1.f (fun acc n => acc ++ outs h.toNat l n) (fun j acc n hn ha hj => by
        have lo : (outs h.toNat l n).length ≤ 2 := by
          unfold outs; split
          · refine Nat.le_trans (List.length_filter_le _ _) (by simp [ch])
          · simp
        refine ⟨?_, by rw [List.length_append]; omega⟩
        unfold steiner_Hang1.f
        rw [if_pos (by rw [ints_len, ints_len]; omega), ints_app]) hk
      rw [e]
      have fl : ∀ (t acc : List Nat), t.foldl (fun acc n => acc ++ outs h.toNat l n) acc = acc ++ t.flatMap (outs h.toNat l) := by
        intro t
        induction t with
        | nil => intro acc; simp
        | cons a t ih => intro acc; rw [List.foldl_cons, ih, List.flatMap_cons, List.append_assoc]
      rw [fl, List.nil_append, ← hgs_outs, hgs_last]
      unfold hng; rw [if_neg l0]
  · rw [if_neg c, if_neg (by omega), children_bad hb hn c _ (by omega) hk2, if_neg c]
theorem rmay_eq (h : Int) {l : List Nat} (hb : ∀ x ∈ l, x < 18446744073709551616) (hn : l.length < 4611686018427387904) (n : Nat) {k : Nat} (hk : l.length + 80 ≤ k) :
    medlarref09_may.f k h (ints l) (n : Int) = some (decide (Lst h l ∧ Nd h.toNat n)) := by
  unfold medlarref09_may.f
  rw [may_eq h n (by omega)]; simp only [bnd]
  by_cases c1 : Nd h.toNat n
  · rw [decide_eq_true c1, if_pos rfl, rCheck2_eq h hb hn hk]; simp only [bnd]
    by_cases c2 : Lst h l
    · rw [if_pos c2, decide_eq_true (show Lst h l ∧ Nd h.toNat n from ⟨c2, c1⟩)]; rfl
    · rw [if_neg c2, decide_eq_false (fun z : Lst h l ∧ Nd h.toNat n => c2 z.1)]; rfl
  · rw [decide_eq_false c1, if_neg (by simp), decide_eq_false (fun z : Lst h l ∧ Nd h.toNat n => c1 z.2)]
theorem last_iff : ∀ {l : List Nat}, Up l → ∀ {n : Nat}, (∀ x ∈ l, x ≤ n) → (l.getLast? = some n ↔ n ∈ l)
  | [], _, n, _ => by simp
  | [a], _, n, _ => by simp [eq_comm]
  | a :: b :: l, hu, n, hn => by
    have := last_iff (l := b :: l) hu.tail (n := n) (fun x hx => hn x (by simp [List.mem_cons.1 hx]))
    rw [List.getLast?_cons_cons, this]
    constructor
    · intro z; simp [List.mem_cons.1 z]
    · intro z
      rcases List.mem_cons.1 z with rfl | z
      · have h1 := hu.lt (show b ∈ b :: l by simp)
        have h2 := hn b (by simp)
        omega
      · exact z
theorem rd_last {l : List Nat} (h : l ≠ []) (hn : l.length < 4611686018427387904) (n : Nat) : (rd (ints l) (wrap64 ((l.length : Int) - 1)) = (n : Int)) ↔ l.getLast? = some n := by
  have : 0 < l.length := List.length_pos_iff.2 h
  rw [w64 (by omega) (by omega), show (l.length : Int) - 1 = ((l.length - 1 : Nat) : Int) by omega, ints_rd (by omega), List.getLast?_eq_getElem?, List.getElem?_eq_getElem (show l.length - 1 < l.length by omega), Option.some.injEq]
  omega
/-- A depth's nodes, leaf by leaf. -/
theorem lvl_take {H : Nat} {l : List Nat} (hl : ∀ i ∈ l, i < 2 ^ H) (hu : Up l) {d t : Nat} (hd : d ≤ H) (ht : t < l.length) :
    (anc (2 ^ H + l[t]) d ∈ lvl H (l.take t) d → lvl H (l.take (t + 1)) d = lvl H (l.take t) d) ∧
    (anc (2 ^ H + l[t]) d ∉ lvl H (l.take t) d → lvl H (l.take (t + 1)) d = lvl H (l.take t) d ++ [anc (2 ^ H + l[t]) d]) ∧
    (∀ x ∈ lvl H (l.take t) d, x ≤ anc (2 ^ H + l[t]) d) := by
  have hlt := hl l[t] (List.getElem_mem ht)
  have lg := leaf_log hlt
  have x0 := leaf_ne H l[t]
  have tk : l.take (t + 1) = l.take t ++ [l[t]] := by rw [List.take_succ_eq_append_getElem ht]
  have mem : ∀ x, x ∈ lvl H (l.take (t + 1)) d ↔ x ∈ lvl H (l.take t) d ∨ x = anc (2 ^ H + l[t]) d := by
    intro x
    rw [mem_lvl, mem_lvl, inT_iff, inT_iff, tk]
    constructor
    · rintro ⟨a, b, i, hi, c⟩
      rcases List.mem_append.1 hi with z | z
      · exact .inl ⟨a, b, i, z, c⟩
      · rw [List.mem_singleton] at z
        right; rw [← b, ← z]; exact c.2.symm
    · rintro (⟨a, b, i, hi, c⟩ | rfl)
      · exact ⟨a, b, i, List.mem_append.2 (.inl hi), c⟩
      · exact ⟨anc_ne x0, anc_log2 x0 (by omega), l[t], List.mem_append.2 (.inr (by simp)), abv_anc x0 (by omega)⟩
  have le : ∀ x ∈ lvl H (l.take t) d, x ≤ anc (2 ^ H + l[t]) d := by
    intro x hx
    obtain ⟨a, b, c⟩ := mem_lvl.1 hx
    obtain ⟨i, hi, z⟩ := inT_iff.1 c
    have il : i < l[t] := by
      obtain ⟨j, hj, rfl⟩ := List.getElem_of_mem hi
      rw [List.length_take] at hj
      rw [List.getElem_take]
      exact List.pairwise_iff_getElem.1 hu j t (by omega) ht (by omega)
    have lgi := leaf_log (show i < 2 ^ H by omega)
    have e := z.2
    unfold anc at e ⊢
    rw [b, lgi] at e
    rw [lg, ← e]
    exact Nat.div_le_div_right (by omega)
  refine ⟨?_, ?_, le⟩
  · intro z
    refine up_ext (lvl_up _ _ _) (lvl_up _ _ _) (fun x => ?_)
    rw [mem]
    constructor
    · rintro (y | rfl)
      · exact y
      · exact z
    · intro y; exact .inl y
  · intro z
    refine up_ext (lvl_up _ _ _) ((lvl_up _ _ _).append (by unfold Up; simp) ?_) (fun x => ?_)
    · intro x hx y hy
      rw [List.mem_singleton] at hy; subst hy
      have := le x hx
      have ne : x ≠ anc (2 ^ H + l[t]) d := fun w => z (w ▸ hx)
      omega
    · rw [mem, List.mem_append, List.mem_singleton]
theorem rTree_l {H : Nat} (hH : 1 ≤ H ∧ H ≤ 32) {l : List Nat} (hl : ∀ i ∈ l, i < 2 ^ H) (hu : Up l) (hn : l.length ≤ 1024) (C : Nat) (hC : l.length + 2 ≤ C) :
    ∀ (q d k : Nat), d + q = H + 1 → q * C + 72 ≤ k → medlarref09_Tree.l0 k (H : Int) (ints l) (ints (trs H l d)) ((H + 1 : Nat) : Int) (d : Int) = some (ints (trs H l (H + 1))) := by
  have hp := pow_le_h hH.2
  intro q
  induction q with
  | zero =>
    intro d k hd hk
    obtain ⟨k, rfl⟩ : ∃ m, k = m + 1 := ⟨k - 1, by omega⟩
    rw [medlarref09_Tree.l0, if_neg (by omega), show d = H + 1 by omega]
  | succ q ih =>
    intro d k hd hk
    have eC : (q + 1) * C = q * C + C := by rw [Nat.add_mul, Nat.one_mul]
    have tl := trs_len hl hu d (by omega)
    have tm : d * l.length ≤ 33 * 1024 := Nat.mul_le_mul (by omega) hn
    have inner : ∀ (r t j : Nat), t + r = l.length → q * C + 72 + r + 1 ≤ j →
        medlarref09_Tree.l1 j (H : Int) (ints l) (ints (trs H l d ++ lvl H (l.take t) d)) (d : Int) ((H + 1 : Nat) : Int) (d : Int) (ints l) (l.length : Int) (t : Int) = some (ints (trs H l (H + 1))) := by
      intro r
      induction r with
      | zero =>
        intro t j ht hj
        obtain ⟨j, rfl⟩ : ∃ m, j = m + 1 := ⟨j - 1, by omega⟩
        rw [medlarref09_Tree.l1, if_neg (by omega), List.take_of_length_le (by omega), w64 (by omega) (by omega), show (d : Int) + 1 = ((d + 1 : Nat) : Int) by omega]
        exact ih (d + 1) j (by omega) (by omega)
      | succ r ihr =>
        intro t j ht hj
        obtain ⟨j, rfl⟩ : ∃ m, j = m + 1 := ⟨j - 1, by omega⟩
        have htl : t < l.length := by omega
        have lt := hl l[t] (List.getElem_mem htl)
        have lg := leaf_log lt
        have x0 := leaf_ne H l[t]
        have hh : Hi (H : Int) := by rw [hi_iff]; omega
        have lf := rLeaf_eq (H : Int) (p := l[t]) (by omega) (k := j) (by omega)
        rw [if_pos hh, Int.toNat_natCast, if_pos lt, if_pos lt] at lf
        have ch := chain_eq j (2 ^ H + l[t]) x0 (by omega) (by omega)
        have hdl : d < (chn (2 ^ H + l[t])).length := by rw [chn_len, lg]; omega
        obtain ⟨k1, k2, k3⟩ := lvl_take hl hu (d := d) (by omega) htl
        have r := ihr (t + 1) j (by omega) (by omega)
        have nd : (anc (2 ^ H + l[t]) d).log2 = d := anc_log2 x0 (by omega)
        have uo : Up (trs H l d ++ lvl H (l.take t) d) := (trs_up _ _ _).append (lvl_up _ _ _) (fun x hx y hy => by
          rw [mem_trs] at hx; rw [mem_lvl] at hy
          exact lt_of_log2 hy.1 (by omega))
        have bo : ∀ x ∈ trs H l d ++ lvl H (l.take t) d, x ≤ anc (2 ^ H + l[t]) d := by
          intro x hx
          rcases List.mem_append.1 hx with z | z
          · rw [mem_trs] at z
            exact Nat.le_of_lt (lt_of_log2 (anc_ne x0) (by omega))
          · exact k3 x z
        have mo : anc (2 ^ H + l[t]) d ∈ trs H l d ++ lvl H (l.take t) d ↔ anc (2 ^ H + l[t]) d ∈ lvl H (l.take t) d := by
          rw [List.mem_append]
          constructor
          · rintro (z | z)
            · rw [mem_trs] at z; omega
            · exact z
          · intro z; exact .inr z
        have ll : (lvl H (l.take t) d).length ≤ 1024 := by
          have := (lvl_le (h := H) (l := l.take t) (fun i hi => hl i (List.mem_of_mem_take hi)) (List.Pairwise.sublist (List.take_sublist _ _) hu) d (by omega)).1
          rw [List.length_take] at this; omega
        have ol : (trs H l d ++ lvl H (l.take t) d).length ≤ 34 * 1024 := by rw [List.length_append]; omega
        rw [medlarref09_Tree.l1, if_pos (by omega), if_pos (by omega), if_pos (by rw [ints_len]; omega), ints_rd htl, lf]; simp only [bnd]
        rw [ch]; simp only [bnd]
        rw [if_pos (by omega), if_pos (by rw [ints_len]; omega), ints_rd hdl, chn_get, w64 (x := (t : Int) + 1) (by omega) (by omega), show (t : Int) + 1 = ((t + 1 : Nat) : Int) by omega]
        generalize hO : trs H l d ++ lvl H (l.take t) d = O at *
        by_cases c : anc (2 ^ H + l[t]) d ∈ lvl H (l.take t) d
        · have e := k1 c
          rw [e, hO] at r
          have hm := mo.2 c
          have On : O ≠ [] := fun z => by rw [z] at hm; simp at hm
          have ln : O.length ≠ 0 := fun z => On (List.length_eq_zero_iff.1 z)
          rw [if_neg (by rw [ints_len]; omega), if_pos (by rw [ints_len, w64 (by omega) (by omega)]; omega), if_pos (by rw [ints_len, w64 (by omega) (by omega)]; omega), ints_len, if_pos ((rd_last On (by omega) _).2 ((last_iff uo bo).2 hm))]
          exact r
        · have e := k2 c
          rw [e, ← List.append_assoc, hO] at r
          rw [ints_one, ints_app]
          by_cases On : O = []
          · subst On
            rw [if_pos (by rfl), if_pos (by simp [ints])]
            exact r
          · have ln : O.length ≠ 0 := fun z => On (List.length_eq_zero_iff.1 z)
            have nl : ¬ rd (ints O) (wrap64 ((O.length : Int) - 1)) = (anc (2 ^ H + l[t]) d : Int) := fun z => c (mo.1 ((last_iff uo bo).1 ((rd_last On (by omega) _).1 z)))
            rw [if_neg (by rw [ints_len]; omega), if_pos (by rw [ints_len, w64 (by omega) (by omega)]; omega), if_pos (by rw [ints_len, w64 (by omega) (by omega)]; omega), ints_len, if_neg nl, if_pos (by omega)]
            exact r
    obtain ⟨k, rfl⟩ : ∃ m, k = m + 1 := ⟨k - 1, by omega⟩
    have e0 : lvl H (l.take 0) d = [] := by
      unfold lvl; rw [List.filter_eq_nil_iff]; intro x _; simp [inT]
    have := inner l.length 0 k (by omega) (by omega)
    rw [e0, List.append_nil, show ((0 : Nat) : Int) = 0 from rfl] at this
    rw [medlarref09_Tree.l0, if_pos (by omega), ints_len]
    exact this
theorem rTree_eq {h : Int} {l : List Nat} (c : Lst h l) {k : Nat} (hk : 36000 ≤ k) : medlarref09_Tree.f k h (ints l) = some (ints (trs h.toNat l (h.toNat + 1))) := by
  obtain ⟨hh, n1, hl, hu⟩ := c
  rw [hi_iff] at hh
  obtain ⟨H, rfl⟩ := Int.eq_ofNat_of_zero_le (show 0 ≤ h by omega)
  rw [Int.toNat_natCast] at *
  obtain ⟨C, hC⟩ : ∃ C : Nat, C = 1026 := ⟨_, rfl⟩
  have hm : (H + 1) * C ≤ 33 * C := Nat.mul_le_mul_right _ (by omega)
  unfold medlarref09_Tree.f
  have := rTree_l (H := H) (by omega) hl hu n1 C (by omega) (H + 1) 0 k (by omega) (by omega)
  rw [w64 (by omega) (by omega), show (H : Int) + 1 = ((H + 1 : Nat) : Int) by omega]
  exact this
theorem rHang_l {H : Nat} (hH : 1 ≤ H ∧ H ≤ 32) {l : List Nat} (T : List Nat) (hT : T = trs H l (H + 1)) (hlen : T.length < 1000000) :
    ∀ (q i k : Nat) (acc : List Nat), i + q = T.length → 4 * q + T.length + 100 ≤ k → acc.length ≤ 2 * i → medlarref09_Hang.l0 k (H : Int) (ints T) (ints acc) (ints T) (T.length : Int) (i : Int) = some (ints (acc ++ hgs H l (T.drop i)), 0) := by
  intro q
  induction q with
  | zero =>
    intro i k acc hi hk ha
    obtain ⟨k, rfl⟩ : ∃ m, k = m + 1 := ⟨k - 1, by omega⟩
    rw [medlarref09_Hang.l0, if_neg (by omega), List.drop_of_length_le (by omega)]; simp [hgs]
  | succ q ih =>
    intro i k acc hi hk ha
    obtain ⟨k, rfl⟩ : ∃ m, k = m + 4 := ⟨k - 4, by omega⟩
    have hiT : i < T.length := by omega
    have d1 : T.drop i = T[i] :: T.drop (i + 1) := List.drop_eq_getElem_cons hiT
    have hnT : T[i] ∈ T := List.getElem_mem hiT
    have e2 : hgs H l (T[i] :: T.drop (i + 1)) = outs H l T[i] ++ hgs H l (T.drop (i + 1)) := rfl
    rw [medlarref09_Hang.l0, if_pos (by omega), if_pos (by omega), if_pos (by rw [ints_len]; omega), ints_rd hiT, d1, e2]
    generalize T[i] = n at *
    have nd := nd_trs hH (by rw [← hT]; exact hnT)
    have lt := nd.1.lt33
    have hn0 := nd.1.2.2.1
    have hlog := nd.1.2.2.2
    have lg := log2_dbl hn0
    have step : ∀ (b j : Nat) (y : List Nat), b < 2 → k ≤ j → y.length ≤ acc.length + 2 → medlarref09_Hang.l1 (j + 1) (H : Int) (ints T) (ints y) (n : Int) (ints T) (T.length : Int) (i : Int) (b : Int) =
        medlarref09_Hang.l1 j (H : Int) (ints T) (ints (y ++ (if n.log2 < H ∧ inT H l (2 * n + b) = false then [2 * n + b] else []))) (n : Int) (ints T) (T.length : Int) (i : Int) ((b + 1 : Nat) : Int) := by
      intro b j y hb2 hj hy
      have lb : (2 * n + b).log2 = n.log2 + 1 := by
        rcases (show b = 0 ∨ b = 1 by omega) with rfl | rfl
        · rw [Nat.add_zero]; omega
        · omega
      have ec : IntKind.u64.wrap (IntKind.u64.wrap (2 * (n : Int)) + (b : Int)) = ((2 * n + b : Nat) : Int) := by
        rw [wu64 (x := 2 * (n : Int)) (by omega) (by omega), wu64 (by omega) (by omega)]; omega
      rw [medlarref09_Hang.l1, if_pos (by omega), ec, may_eq _ _ (by omega)]; simp only [bnd]
      rw [wu64 (x := (b : Int) + 1) (by omega) (by omega), show (b : Int) + 1 = ((b + 1 : Nat) : Int) by omega, Int.toNat_natCast]
      by_cases c : n.log2 < H
      · have ndc : Nd H (2 * n + b) := ⟨hH.1, hH.2, by omega, by omega⟩
        rw [decide_eq_true ndc, if_pos rfl, In_eq _ _ (by omega) (by omega)]; simp only [bnd]
        by_cases t : inT H l (2 * n + b) = true
        · have : 2 * n + b ∈ T := by rw [hT, mem_trs]; exact ⟨by omega, by omega, t⟩
          rw [decide_eq_true this, if_pos rfl, if_neg (fun z => by rw [t] at z; simp at z), List.append_nil]
        · have : 2 * n + b ∉ T := by rw [hT, mem_trs]; exact fun z => t z.2.2
          have cc : n.log2 < H ∧ inT H l (2 * n + b) = false := ⟨c, by simpa using t⟩
          rw [decide_eq_false this, if_neg (by simp), if_pos (by rw [ints_len]; omega), if_pos cc, ints_one, ints_app]
      · have ndc : ¬ Nd H (2 * n + b) := fun z => by have := z.2.2.2; omega
        rw [decide_eq_false ndc, if_neg (by simp), if_neg (fun z => c z.1), List.append_nil]
    have s0 := step 0 (k + 2) acc (by omega) (by omega) (by omega)
    have l1 : (acc ++ (if n.log2 < H ∧ inT H l (2 * n + 0) = false then [2 * n + 0] else [])).length ≤ acc.length + 1 := by rw [List.length_append]; split <;> simp
    have s1 := step 1 (k + 1) _ (by omega) (by omega) (show (acc ++ (if n.log2 < H ∧ inT H l (2 * n + 0) = false then [2 * n + 0] else [])).length ≤ acc.length + 2 by omega)
    rw [show ((0 : Nat) : Int) = 0 from rfl] at s0
    rw [s0, show ((0 + 1 : Nat) : Int) = ((1 : Nat) : Int) from rfl, s1, medlarref09_Hang.l1, if_neg (by omega), w64 (by omega) (by omega), show (i : Int) + 1 = ((i + 1 : Nat) : Int) by omega]
    have eo : acc ++ outs H l n = acc ++ (if n.log2 < H ∧ inT H l (2 * n + 0) = false then [2 * n + 0] else []) ++ (if n.log2 < H ∧ inT H l (2 * n + 1) = false then [2 * n + 1] else []) := by
      unfold outs ch
      by_cases c : n.log2 < H
      · cases h1 : inT H l (2 * n) <;> cases h2 : inT H l (2 * n + 1) <;> simp [h1, h2, c]
      · simp [c]
    have lo : (outs H l n).length ≤ 2 := by
      unfold outs; split
      · exact Nat.le_trans (List.length_filter_le _ _) (by simp [ch])
      · simp
    rw [← eo, ih (i + 1) k _ (by omega) (by omega) (by rw [List.length_append]; omega), List.append_assoc]
theorem rHang_eq (h : Int) {l : List Nat} (hb : ∀ x ∈ l, x < 18446744073709551616) (hn : l.length < 4611686018427387904) {k : Nat} (hk : 200000 ≤ k) (hk2 : l.length + 80 ≤ k) :
    medlarref09_Hang.f k h (ints l) = some (if Lst h l then (ints (hng h.toNat l), 0) else ([], 1)) := by
  unfold medlarref09_Hang.f
  have m := rmay_eq h hb hn 1 hk2
  rw [show ((1 : Nat) : Int) = 1 from rfl] at m
  rw [m]; simp only [bnd]
  by_cases c : Lst h l
  · obtain ⟨hh, n1, hl, hu⟩ := c
    have c : Lst h l := ⟨hh, n1, hl, hu⟩
    have hH := hh
    rw [hi_iff] at hH
    rw [decide_eq_true (show Lst h l ∧ Nd h.toNat 1 from ⟨c, (nd_root' h).2 c.1⟩), if_pos rfl, if_pos c, ints_len]
    by_cases l0 : l = []
    · subst l0; rw [if_pos (by rfl)]; simp [hng, ints]
    · have ln : l.length ≠ 0 := fun z => l0 (List.length_eq_zero_iff.1 z)
      have tl := trs_len hl hu (h.toNat + 1) (Nat.le_refl _)
      have tm : (h.toNat + 1) * l.length ≤ 33 * 1024 := Nat.mul_le_mul (by omega) n1
      rw [if_neg (by omega), rTree_eq c (by omega)]; simp only [bnd]
      have e : ((h.toNat : Nat) : Int) = h := by omega
      have r := rHang_l (H := h.toNat) (by omega) (l := l) _ rfl (by omega) (trs h.toNat l (h.toNat + 1)).length 0 k [] (by omega) (by omega) (by simp)
      rw [e, show ints [] = ([] : List Int) from rfl, show ((0 : Nat) : Int) = 0 from rfl, List.drop_zero, List.nil_append] at r
      rw [ints_len, r, hgs_last]
      unfold hng; rw [if_neg l0]
  · rw [decide_eq_false (fun z : Lst h l ∧ Nd h.toNat 1 => c z.1), if_neg (by simp), if_neg c]
theorem whl_len (T : List Nat) : (whl T).length = T.length := by simp [whl]
theorem each_l (T : List Nat) : ∀ (B A : List Nat) (k : Nat), T = A ++ B → T.length ≤ 1000000 →
    api_Subset.l0 (B.length + 1 + k) (sbs (whl A) ++ List.replicate B.length z43) (ints T) (T.length : Int) (A.length : Int) = some (sbs (whl T)) := by
  intro B
  induction B with
  | nil =>
    intro A k hT hn
    rw [show ([] : List Nat).length + 1 + k = k + 1 by simp; omega]
    simp only [api_Subset.l0]
    rw [List.append_nil] at hT
    rw [if_neg (by rw [hT]; omega), hT]; simp
  | cons b B ih =>
    intro A k hT hn
    have hl : T.length = A.length + (B.length + 1) := by rw [hT]; simp
    rw [show (b :: B).length + 1 + k = (B.length + 1 + k) + 1 by simp; omega]
    simp only [api_Subset.l0]
    have e1 : T = (A ++ [b]) ++ B := by rw [hT]; simp
    have er : rd (ints T) (A.length : Int) = (b : Int) := by rw [hT]; exact rd_mid A b B
    have es : (sbs (whl A) ++ List.replicate (b :: B).length z43).set A.length (⟨(b : Int), 0⟩ : S43) = sbs (whl (A ++ [b])) ++ List.replicate B.length z43 := by
      rw [List.length_cons, List.replicate_succ, List.set_append_right _ _ (by simp [sbs, whl])]
      simp [sbs, whl]
    rw [if_pos (by omega), if_pos (by omega), if_pos (by rw [ints_len]; omega), if_pos (by simp [sbs, whl]; omega), er, Int.toNat_natCast, es, w64 (by omega) (by omega), show (A.length : Int) + 1 = ((A ++ [b]).length : Int) by simp]
    exact ih (A ++ [b]) k e1 hn
theorem each_eq (T : List Nat) (hn : T.length ≤ 1000000) {k : Nat} (hk : T.length < k) : api_Subset.f k (ints T) = some (sbs (whl T)) := by
  obtain ⟨j, rfl⟩ : ∃ j, k = T.length + 1 + j := ⟨k - (T.length + 1), by omega⟩
  unfold api_Subset.f
  rw [if_pos (by omega), ints_len, if_pos (by omega), Int.toNat_natCast]
  have := each_l T T [] j rfl hn
  rw [show (([] : List Nat).length : Int) = 0 from rfl, show sbs (whl []) = [] from rfl, List.nil_append] at this
  exact this
theorem hng_len_le {H : Nat} (hH : H ≤ 32) {l : List Nat} (hl : ∀ i ∈ l, i < 2 ^ H) (hu : Up l) (n1 : l.length ≤ 1024) : (hng H l).length ≤ 40000 := by
  by_cases l0 : l = []
  · subst l0; simp [hng]
  · have t1 := (tree_len hl hu l0).1
    have tl := trs_len hl hu (H + 1) (Nat.le_refl _)
    have tm : (H + 1) * l.length ≤ 33 * 1024 := Nat.mul_le_mul (by omega) (by omega)
    omega
theorem WCover_eq (h : Int) {l : List Nat} (hb : ∀ x ∈ l, x < 18446744073709551616) (hn : l.length < 4611686018427387904) {k : Nat} (hk : 200000 ≤ k) (hk2 : l.length + 2 ≤ k) :
    whole_Cover.f k h (ints l) = some (if Lst h l then (sbs (whl (hng h.toNat l)), 0) else ([], 1)) := by
  unfold whole_Cover.f
  rw [Hang_eq h hb hn hk hk2]; simp only [bnd]
  by_cases c : Lst h l
  · have hH := c.1
    rw [hi_iff] at hH
    have := hng_len_le (H := h.toNat) (by omega) c.2.2.1 c.2.2.2 c.2.1
    rw [if_pos c, if_pos c]; dsimp only
    rw [each_eq _ (by omega) (by omega)]; rfl
  · rw [if_neg c, if_neg c]; dsimp only
    have := each_eq [] (by simp) (k := k) (by simp; omega)
    rw [show ints [] = ([] : List Int) from rfl] at this
    rw [this]; rfl
/-- There may be a set of so many leaves; by how many subsets. -/
def Bd (h many : Int) : Prop := Hi h ∧ 0 ≤ many ∧ many ≤ 1024 ∧ many.toNat ≤ 2 ^ h.toNat
instance (h many : Int) : Decidable (Bd h many) := inferInstanceAs (Decidable (_ ∧ _))
def bdn (H m : Nat) : Nat := if m = 0 then 1 else m * (H - m.log2)
theorem log2_le_of {m H : Nat} (h : m ≤ 2 ^ H) : m.log2 ≤ H := by
  by_cases h0 : m = 0
  · subst h0; have : Nat.log2 0 = 0 := by decide
    omega
  · have := log2_lo h0
    apply Decidable.byContradiction
    intro z
    have := pow_lt (show H < m.log2 by omega)
    omega
theorem bdn_lt {H m : Nat} (hH : H ≤ 32) (hm : m ≤ 1024) : bdn H m ≤ 32768 := by
  unfold bdn; split
  · omega
  · have : m * (H - m.log2) ≤ 1024 * 32 := Nat.mul_le_mul hm (by omega)
    omega
theorem root_leaves (h : Int) (k : Nat) : node_Leaves.f (k + 1) h 1 = some (if Hi h then (0, ((2 ^ h.toNat - 1 : Nat) : Int), 0) else (0, 0, 1)) := by
  have nl := nLeaves_eq h root_lt k
  rw [show ((1 : Nat) : Int) = 1 from rfl] at nl
  rw [nl]
  by_cases c : Hi h
  · have nr : Nd h.toNat 1 := (nd_root' h).2 c
    have hi1 := hi_eq nr
    have lo1 : lo h.toNat 1 = 0 := by unfold lo lf; rw [log2_one]; simp
    have wd1 : wd h.toNat 1 = 2 ^ h.toNat := by unfold wd; rw [log2_one]; simp
    have hp := pow_pos2 h.toNat
    rw [if_pos nr, if_pos c, lo1]
    congr 3; omega
  · have nr : ¬ Nd h.toNat 1 := fun z => c ((nd_root' h).1 z)
    rw [if_neg nr, if_neg c]
theorem WBound_eq (h many : Int) {k : Nat} (hk : 5 ≤ k) : whole_Bound.f k h many = some (if Bd h many then ((bdn h.toNat many.toNat : Int), 0) else (0, 1)) := by
  obtain ⟨k, rfl⟩ : ∃ m, k = m + 3 := ⟨k - 3, by omega⟩
  unfold whole_Bound.f
  rw [root_leaves]; simp only [bnd]
  by_cases c : Hi h
  · have hH := c
    rw [hi_iff] at hH
    have hp := pow_pos2 h.toNat
    have hp32 := pow_le_h (h := h.toNat) (by omega)
    rw [if_pos c]; dsimp only
    rw [if_pos rfl]
    by_cases m0 : many < 0
    · have nb : ¬ Bd h many := fun z => by have := z.2.1; omega
      rw [if_pos m0, if_neg nb]; simp [whole_Bound.j0]
    · rw [if_neg m0]
      by_cases m1 : many > 1024
      · have nb : ¬ Bd h many := fun z => by have := z.2.2.1; omega
        rw [if_pos m1, if_neg nb]; simp [whole_Bound.j0]
      · obtain ⟨m, rfl⟩ := Int.eq_ofNat_of_zero_le (show 0 ≤ many by omega)
        rw [if_neg m1, wu64 (x := (m : Int)) (by omega) (by omega), wu64 (by omega) (by omega)]
        simp only [whole_Bound.j0, Int.toNat_natCast]
        by_cases m2 : m ≤ 2 ^ h.toNat
        · have yb : Bd h (m : Int) := ⟨c, by omega, by omega, by simpa using m2⟩
          have lg := log2_le_of m2
          rw [decide_eq_false (by omega), if_neg (by simp), if_pos yb]
          by_cases z : m = 0
          · rw [if_pos (by omega), z]; rfl
          · have b1 := bdn_lt (H := h.toNat) (m := m) (by omega) (by omega)
            unfold bdn at b1 ⊢
            rw [if_neg z] at b1 ⊢
            have e1 : (m : Int) * ((h + 1) - (sz m : Int)) = ((m * (h.toNat - m.log2) : Nat) : Int) := by
              have : (h + 1) - (sz m : Int) = ((h.toNat - m.log2 : Nat) : Int) := by unfold sz; rw [if_neg z]; omega
              rw [this]; push_cast; rfl
            have s1 : sz m = m.log2 + 1 := by unfold sz; rw [if_neg z]
            rw [if_neg (by omega)]
            unfold bits_Len.f
            rw [wu64 (by omega) (by omega), len64 (by omega)]; simp only [bnd]
            rw [w64 (x := h + 1) (by omega) (by omega), w64 (x := h + 1 - _) (by omega) (by omega), e1, w64 (by omega) (by omega), wu64 (by omega) (by omega)]
        · have nb : ¬ Bd h (m : Int) := fun z => m2 (by simpa using z.2.2.2)
          rw [decide_eq_true (by omega), if_pos rfl, if_neg nb]
  · have nb : ¬ Bd h many := fun z => c z.1
    rw [if_neg c, if_neg nb]; simp [whole_Bound.j0]
theorem rCover_l (T : List Nat) (hn : T.length ≤ 1000000) : ∀ (q i k : Nat) (acc : List Nat), i + q = T.length → q < k → acc.length ≤ i → medlarref10_Cover.l0 k (sbs (whl acc)) (ints T) (T.length : Int) (i : Int) = some (sbs (whl (acc ++ T.drop i)), 0) := by
  intro q
  induction q with
  | zero =>
    intro i k acc hi hk ha
    obtain ⟨k, rfl⟩ : ∃ m, k = m + 1 := ⟨k - 1, by omega⟩
    rw [medlarref10_Cover.l0, if_neg (by omega), List.drop_of_length_le (by omega)]; simp
  | succ q ih =>
    intro i k acc hi hk ha
    obtain ⟨k, rfl⟩ : ∃ m, k = m + 1 := ⟨k - 1, by omega⟩
    have hiT : i < T.length := by omega
    have e : sbs (whl acc) ++ [(⟨(T[i] : Int), 0⟩ : S43)] = sbs (whl (acc ++ [T[i]])) := by simp [sbs, whl]
    rw [medlarref10_Cover.l0, if_pos (by omega), if_pos (by omega), if_pos (by rw [ints_len]; omega), if_pos (by simp [sbs, whl]; omega), ints_rd hiT, e, w64 (by omega) (by omega), show (i : Int) + 1 = ((i + 1 : Nat) : Int) by omega, ih (i + 1) k _ (by omega) (by omega) (by simp; omega), List.append_assoc]
    have d1 : T.drop i = T[i] :: T.drop (i + 1) := List.drop_eq_getElem_cons hiT
    rw [d1]; rfl
theorem rCover_eq (h : Int) {l : List Nat} (hb : ∀ x ∈ l, x < 18446744073709551616) (hn : l.length < 4611686018427387904) {k : Nat} (hk : 200000 ≤ k) (hk2 : l.length + 80 ≤ k) :
    medlarref10_Cover.f k h (ints l) = some (if Lst h l then (sbs (whl (hng h.toNat l)), 0) else ([], 1)) := by
  unfold medlarref10_Cover.f
  rw [rHang_eq h hb hn hk hk2]; simp only [bnd]
  by_cases c : Lst h l
  · have hH := c.1
    rw [hi_iff] at hH
    have hlen := hng_len_le (H := h.toNat) (by omega) c.2.2.1 c.2.2.2 c.2.1
    have r := rCover_l (hng h.toNat l) (by omega) (hng h.toNat l).length 0 k [] (by omega) (by omega) (by simp)
    rw [show sbs (whl []) = ([] : List S43) from rfl, show ((0 : Nat) : Int) = 0 from rfl, List.drop_zero, List.nil_append] at r
    rw [if_pos c, if_pos c]; dsimp only
    rw [if_pos (by trivial), ints_len, r]
  · rw [if_neg c, if_neg c]; rfl
theorem rMay10_eq (h many : Int) (w : -9223372036854775808 ≤ many ∧ many ≤ 9223372036854775807) {k : Nat} (hk : 110 ≤ k) : medlarref10_May.f k h many = some (decide (Bd h many)) := by
  unfold medlarref10_May.f
  have nl := rNLeaves_eq h root_lt hk
  rw [show ((1 : Nat) : Int) = 1 from rfl] at nl
  rw [nl]; simp only [bnd]
  by_cases c : Hi h
  · have hH := c
    rw [hi_iff] at hH
    have nr : Nd h.toNat 1 := (nd_root' h).2 c
    have hi1 := hi_eq nr
    have lo1 : lo h.toNat 1 = 0 := by unfold lo lf; rw [log2_one]; simp
    have wd1 : wd h.toNat 1 = 2 ^ h.toNat := by unfold wd; rw [log2_one]; simp
    have hp32 := pow_le_h (h := h.toNat) (by omega)
    rw [if_pos nr]; dsimp only
    rw [if_pos (by trivial)]
    by_cases m0 : many ≥ 0
    · rw [if_pos m0]
      by_cases m1 : many ≤ 1024
      · rw [if_pos m1]; congr 1
        obtain ⟨m, rfl⟩ := Int.eq_ofNat_of_zero_le m0
        rw [decide_eq_decide, wu64 (by omega) (by omega), wu64 (by omega) (by omega)]
        constructor
        · intro z; exact ⟨c, by omega, by omega, by rw [Int.toNat_natCast]; omega⟩
        · intro z; have := z.2.2.2; rw [Int.toNat_natCast] at this; omega
      · rw [if_neg m1]; congr 1; symm; rw [decide_eq_false_iff_not]; exact fun z => m1 z.2.2.1
    · rw [if_neg m0]; congr 1; symm; rw [decide_eq_false_iff_not]; exact fun z => m0 z.2.1
  · have nr : ¬ Nd h.toNat 1 := fun z => c ((nd_root' h).1 z)
    rw [if_neg nr]; dsimp only
    rw [if_neg (by omega)]; congr 1; symm; rw [decide_eq_false_iff_not]; exact fun z => c z.1
theorem rBound_l {H m : Nat} (hH : H ≤ 32) (hm : m ≤ 1024) (h0 : m ≠ 0) (hl : m.log2 ≤ H) : ∀ (q d k : Nat), d + q = m.log2 → q < k → medlarref10_Bound.l0 k (H : Int) (m : Int) (d : Int) ((2 ^ (d + 1) : Nat) : Int) = some ((bdn H m : Int), 0) := by
  have lo := log2_lo h0
  have hi' := log2_hi m
  intro q
  induction q with
  | zero =>
    intro d k hd hk
    obtain ⟨k, rfl⟩ : ∃ m, k = m + 1 := ⟨k - 1, by omega⟩
    have e : d = m.log2 := by omega
    subst e
    have b1 := bdn_lt hH hm
    have e1 : (m : Int) * ((H : Int) - (m.log2 : Int)) = ((m * (H - m.log2) : Nat) : Int) := by
      rw [show (H : Int) - (m.log2 : Int) = ((H - m.log2 : Nat) : Int) by omega]; push_cast; rfl
    unfold bdn at b1 ⊢
    rw [if_neg h0] at b1 ⊢
    rw [medlarref10_Bound.l0, if_neg (by omega), w64 (x := (H : Int) - _) (by omega) (by omega), e1, w64 (by omega) (by omega), wu64 (by omega) (by omega)]
  | succ q ih =>
    intro d k hd hk
    obtain ⟨k, rfl⟩ : ∃ m, k = m + 1 := ⟨k - 1, by omega⟩
    have p1 := pow_mono (show d + 1 ≤ m.log2 by omega)
    have p2 : 2 ^ (d + 1 + 1) = 2 * 2 ^ (d + 1) := by rw [Nat.pow_succ 2 (d + 1)]; omega
    rw [medlarref10_Bound.l0, if_pos (by omega), w64 (x := (d : Int) + 1) (by omega) (by omega), w64 (by omega) (by omega), show (d : Int) + 1 = ((d + 1 : Nat) : Int) by omega, show 2 * ((2 ^ (d + 1) : Nat) : Int) = ((2 ^ (d + 1 + 1) : Nat) : Int) by omega]
    exact ih (d + 1) k (by omega) (by omega)
theorem rBound_eq (h many : Int) (w : -9223372036854775808 ≤ many ∧ many ≤ 9223372036854775807) {k : Nat} (hk : 110 ≤ k) : medlarref10_Bound.f k h many = some (if Bd h many then ((bdn h.toNat many.toNat : Int), 0) else (0, 1)) := by
  unfold medlarref10_Bound.f
  rw [rMay10_eq h many w hk]; simp only [bnd]
  by_cases c : Bd h many
  · rw [decide_eq_true c, if_pos rfl, if_pos c]
    obtain ⟨m, rfl⟩ := Int.eq_ofNat_of_zero_le c.2.1
    have hH := c.1
    rw [hi_iff] at hH
    have h1 := c.2.2.1
    have h2 := c.2.2.2
    rw [Int.toNat_natCast] at *
    by_cases z : m = 0
    · rw [if_pos (by omega), z]; rfl
    · have lg := log2_le_of h2
      have r := rBound_l (H := h.toNat) (m := m) (by omega) (by omega) z lg m.log2 0 k (by omega) (by omega)
      have e : ((h.toNat : Nat) : Int) = h := by omega
      rw [e, show ((2 ^ (0 + 1) : Nat) : Int) = 2 from rfl, show ((0 : Nat) : Int) = 0 from rfl] at r
      rw [if_neg (by omega), r]
  · rw [decide_eq_false c, if_neg (by simp), if_neg c]
theorem live10' : medlarlaw10_live.f 30 = some true := by decide +kernel
theorem live10 {k : Nat} (hk : 30 ≤ k) : medlarlaw10_live.f k = some true := at_rounds (g := fun k => medlarlaw10_live.f k) medlarlaw10_live.mono hk live10'
theorem sbs_len (l : List (Nat × Nat)) : (sbs l).length = l.length := by simp [sbs]
end Go.Proofs.Ytoikjfcdpiikbaa.Med
