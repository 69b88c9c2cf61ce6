/- Plain facts on numbers: depths of nodes, nodes above, the leaves below; and how rounds are put together. No Go in it. -/
import Derived.Test.YtmaaibcnfhbajaaK0
set_option linter.unusedVariables false
set_option linter.unusedSimpArgs false
namespace Go.Proofs.Ytmaaibcnfhbajaa.Med
open Go.RowKit Go.Proofs.YtmaaibcnfhbajaaW.PrintWords Go.Proofs.YtmaaibcnfhbajaaW.PrintMore

/-- As Option.bind_some, but no rfl lemma: the kernel then unfolds nothing. -/
theorem bnd {α β : Type} (a : α) (f : α → Option β) : (some a).bind f = f a := by
  have h := Option.bind_some a f
  exact h
theorem w64 {x : Int} (h0 : -9223372036854775808 ≤ x) (h1 : x ≤ 9223372036854775807) : wrap64 x = x := by unfold wrap64; omega
theorem wu64 {x : Int} (h0 : 0 ≤ x) (h1 : x < 18446744073709551616) : IntKind.u64.wrap x = x := by
  have : IntKind.u64.wrap x = x % 18446744073709551616 := by rfl
  omega

theorem wf_u64 {x : Int} (h : (Lit.int .u64 x).wf = true) : ∃ n : Nat, x = (n : Int) ∧ n < 18446744073709551616 := by
  have h0 : IntKind.u64.min = 0 := by decide
  have h1 : IntKind.u64.max = 18446744073709551615 := by decide
  simp [Lit.wf, h0, h1] at h
  exact ⟨x.toNat, by omega, by omega⟩
theorem wf_i64 {x : Int} (h : (Lit.int .i64 x).wf = true) : -9223372036854775808 ≤ x ∧ x ≤ 9223372036854775807 := by
  have h0 : IntKind.i64.min = -9223372036854775808 := by decide
  have h1 : IntKind.i64.max = 9223372036854775807 := by decide
  simp [Lit.wf, h0, h1] at h
  omega

theorem log2_iff {n d : Nat} (hn : n ≠ 0) : n.log2 = d ↔ 2 ^ d ≤ n ∧ n < 2 ^ (d + 1) := Nat.log2_eq_iff hn
theorem log2_lo {n : Nat} (hn : n ≠ 0) : 2 ^ n.log2 ≤ n := Nat.log2_self_le hn
theorem log2_hi (n : Nat) : n < 2 ^ (n.log2 + 1) := Nat.lt_log2_self
theorem log2_one : Nat.log2 1 = 0 := by decide
theorem pow_pos2 (k : Nat) : 0 < 2 ^ k := Nat.two_pow_pos k
theorem pow_split {a b : Nat} (h : a ≤ b) : 2 ^ b = 2 ^ a * 2 ^ (b - a) := by rw [← Nat.pow_add]; congr 1; omega
theorem pow_mono {a b : Nat} (h : a ≤ b) : 2 ^ a ≤ 2 ^ b := Nat.pow_le_pow_right (by omega) h
theorem pow_lt {a b : Nat} (h : a < b) : 2 ^ a < 2 ^ b := Nat.pow_lt_pow_right (by omega) h
theorem pow_le_32 {d : Nat} (h : d ≤ 33) : 2 ^ d ≤ 8589934592 := pow_mono (b := 33) h

theorem log2_div {n k : Nat} (hn : n ≠ 0) (hk : k ≤ n.log2) : (n / 2 ^ k).log2 = n.log2 - k ∧ n / 2 ^ k ≠ 0 := by
  have h1 := log2_lo hn
  have h2 := log2_hi n
  have hp := pow_pos2 k
  rw [pow_split hk] at h1
  have e : n.log2 + 1 = k + (n.log2 - k + 1) := by omega
  rw [e, Nat.pow_add] at h2
  have g1 : 2 ^ (n.log2 - k) ≤ n / 2 ^ k := (Nat.le_div_iff_mul_le hp).2 (by rw [Nat.mul_comm]; exact h1)
  have g2 : n / 2 ^ k < 2 ^ (n.log2 - k + 1) := Nat.div_lt_of_lt_mul h2
  have g3 : n / 2 ^ k ≠ 0 := by have := pow_pos2 (n.log2 - k); omega
  exact ⟨(log2_iff g3).2 ⟨g1, g2⟩, g3⟩

/-- The node above n, of depth d. -/
def anc (n d : Nat) : Nat := n / 2 ^ (n.log2 - d)
theorem anc_log2 {n d : Nat} (hn : n ≠ 0) (hd : d ≤ n.log2) : (anc n d).log2 = d := by
  have := (log2_div hn (k := n.log2 - d) (by omega)).1
  unfold anc; omega
theorem anc_ne {n d : Nat} (hn : n ≠ 0) : anc n d ≠ 0 := (log2_div hn (k := n.log2 - d) (by omega)).2
theorem anc_self (n : Nat) : anc n n.log2 = n := by unfold anc; simp
theorem anc_le (n d : Nat) : anc n d ≤ n := Nat.div_le_self _ _
theorem anc_zero {n : Nat} (hn : n ≠ 0) : anc n 0 = 1 := by
  have h := anc_log2 hn (Nat.zero_le _)
  have h0 := anc_ne (d := 0) hn
  have := (log2_iff h0).1 h
  omega
theorem anc_anc {n d e : Nat} (hn : n ≠ 0) (hd : d ≤ n.log2) (he : e ≤ d) : anc (anc n d) e = anc n e := by
  unfold anc
  rw [show (n / 2 ^ (n.log2 - d)).log2 = d from anc_log2 hn hd, Nat.div_div_eq_div_mul, ← Nat.pow_add]
  congr 2; omega

/-- a is above b. -/
def Abv (a b : Nat) : Prop := a.log2 ≤ b.log2 ∧ anc b a.log2 = a
instance (a b : Nat) : Decidable (Abv a b) := inferInstanceAs (Decidable (_ ∧ _))
theorem Abv.refl (a : Nat) : Abv a a := ⟨Nat.le_refl _, anc_self a⟩
theorem Abv.trans {a b c : Nat} (hc : c ≠ 0) (h : Abv a b) (k : Abv b c) : Abv a c := by
  refine ⟨Nat.le_trans h.1 k.1, ?_⟩
  rw [← anc_anc hc k.1 h.1, k.2]; exact h.2
theorem abv_anc {n d : Nat} (hn : n ≠ 0) (hd : d ≤ n.log2) : Abv (anc n d) n := by
  unfold Abv; rw [anc_log2 hn hd]; exact ⟨hd, rfl⟩
theorem abv_root {n : Nat} (hn : n ≠ 0) : Abv 1 n := ⟨by rw [log2_one]; omega, by rw [log2_one]; exact anc_zero hn⟩
theorem abv_div {a b k : Nat} (hb : b ≠ 0) (hk : k ≤ b.log2) (h : b / 2 ^ k = a) : Abv a b := by
  subst h
  have := (log2_div hb hk).1
  refine ⟨by omega, ?_⟩
  unfold anc; congr 2; omega
theorem Abv.eq_of_log2 {a b : Nat} (h : Abv a b) (e : a.log2 = b.log2) : a = b := by
  have := h.2; rw [e, anc_self] at this; exact this.symm
theorem Abv.total {a b c : Nat} (hc : c ≠ 0) (h : Abv a c) (k : Abv b c) (hab : a.log2 ≤ b.log2) : Abv a b := by
  refine ⟨hab, ?_⟩
  have := anc_anc hc k.1 hab
  rw [k.2] at this; rw [this]; exact h.2
theorem Abv.antisymm {a b : Nat} (h : Abv a b) (k : Abv b a) : a = b := h.eq_of_log2 (Nat.le_antisymm h.1 k.1)

/-- The leaves below n, of a tree of height h, as nodes: from lf up to (not with) rt. -/
def lf (h n : Nat) : Nat := n * 2 ^ (h - n.log2)
def rt (h n : Nat) : Nat := (n + 1) * 2 ^ (h - n.log2)
theorem rt_eq (h n : Nat) : rt h n = lf h n + 2 ^ (h - n.log2) := by unfold rt lf; rw [Nat.add_mul, Nat.one_mul]
theorem lf_lt_rt (h n : Nat) : lf h n < rt h n := by have := pow_pos2 (h - n.log2); rw [rt_eq]; omega
theorem lf_ge {h n : Nat} (hn : n ≠ 0) (hd : n.log2 ≤ h) : 2 ^ h ≤ lf h n := by
  unfold lf; rw [pow_split hd]; exact Nat.mul_le_mul_right _ (log2_lo hn)
theorem rt_le {h n : Nat} (hd : n.log2 ≤ h) : rt h n ≤ 2 ^ (h + 1) := by
  have e : h + 1 = (n.log2 + 1) + (h - n.log2) := by omega
  unfold rt; rw [e, Nat.pow_add]; exact Nat.mul_le_mul_right _ (log2_hi n)
theorem leaf_log2 {h x : Nat} (h0 : 2 ^ h ≤ x) (h1 : x < 2 ^ (h + 1)) : x.log2 = h := by
  have : x ≠ 0 := by have := pow_pos2 h; omega
  exact (log2_iff this).2 ⟨h0, h1⟩
/-- A leaf (as a node) is below n just if it lies between. -/
theorem abv_leaf {h n x : Nat} (hn : n ≠ 0) (hd : n.log2 ≤ h) (h0 : 2 ^ h ≤ x) (h1 : x < 2 ^ (h + 1)) : Abv n x ↔ lf h n ≤ x ∧ x < rt h n := by
  have hx := leaf_log2 h0 h1
  unfold Abv anc lf rt
  rw [hx]
  have hp := pow_pos2 (h - n.log2)
  constructor
  · rintro ⟨_, e⟩
    exact ⟨(Nat.le_div_iff_mul_le hp).1 (by omega), (Nat.div_lt_iff_lt_mul hp).1 (by omega)⟩
  · rintro ⟨a, b⟩
    refine ⟨hd, Nat.le_antisymm ?_ ((Nat.le_div_iff_mul_le hp).2 a)⟩
    have : x / 2 ^ (h - n.log2) < n + 1 := Nat.div_lt_of_lt_mul (by rw [Nat.mul_comm]; exact b)
    omega
/-- Above means: around. -/
theorem abv_span {h a b : Nat} (ha : a ≠ 0) (hb : b ≠ 0) (hd : b.log2 ≤ h) (hab : a.log2 ≤ b.log2) : Abv a b ↔ lf h a ≤ lf h b ∧ rt h b ≤ rt h a := by
  have e1 : h - a.log2 = (b.log2 - a.log2) + (h - b.log2) := by omega
  have hp := pow_pos2 (h - b.log2)
  have hq := pow_pos2 (b.log2 - a.log2)
  unfold lf rt
  rw [e1, Nat.pow_add, ← Nat.mul_assoc, ← Nat.mul_assoc, Nat.mul_le_mul_right_iff hp, Nat.mul_le_mul_right_iff hp]
  unfold Abv anc
  constructor
  · rintro ⟨_, e⟩
    refine ⟨(Nat.le_div_iff_mul_le hq).1 (by omega), ?_⟩
    exact (Nat.div_lt_iff_lt_mul hq).1 (show b / 2 ^ (b.log2 - a.log2) < a + 1 by omega)
  · rintro ⟨x, y⟩
    refine ⟨hab, Nat.le_antisymm ?_ ((Nat.le_div_iff_mul_le hq).2 x)⟩
    have : b / 2 ^ (b.log2 - a.log2) < a + 1 := Nat.div_lt_of_lt_mul (by rw [Nat.mul_comm]; exact y)
    omega

/-- All nodes above n, from 1 on. -/
def chn (n : Nat) : List Nat := (List.range (n.log2 + 1)).map (anc n)
theorem chn_len (n : Nat) : (chn n).length = n.log2 + 1 := by simp [chn]
theorem chn_get {n d : Nat} (hd : d < (chn n).length) : (chn n)[d] = anc n d := by simp [chn]
theorem mem_chn {a n : Nat} (hn : n ≠ 0) : a ∈ chn n ↔ Abv a n := by
  unfold chn
  simp only [List.mem_map, List.mem_range]
  constructor
  · rintro ⟨d, hd, rfl⟩; exact abv_anc hn (by omega)
  · rintro ⟨h, e⟩; exact ⟨a.log2, by omega, e⟩
theorem chn_one : chn 1 = [1] := by decide
theorem log2_half {n : Nat} (h : 2 ≤ n) : (n / 2).log2 + 1 = n.log2 := by
  have h1 : 1 ≤ n.log2 := (Nat.le_log2 (by omega)).2 (by simpa using h)
  have := (log2_div (n := n) (k := 1) (by omega) h1).1
  rw [Nat.pow_one] at this; omega
theorem chn_snoc {n : Nat} (h : 2 ≤ n) : chn n = chn (n / 2) ++ [n] := by
  have hl := log2_half h
  unfold chn
  rw [← hl, List.range_succ, List.map_append]
  congr 1
  · apply List.map_congr_left
    intro d hd
    rw [List.mem_range] at hd
    have := anc_anc (n := n) (d := n.log2 - 1) (e := d) (by omega) (by omega) (by omega)
    rw [← this]
    congr 1
    unfold anc; congr 1
    rw [show n.log2 - (n.log2 - 1) = 1 by omega, Nat.pow_one]
  · simp only [List.map_cons, List.map_nil]; rw [hl, anc_self]
end Go.Proofs.Ytmaaibcnfhbajaa.Med
