/- Plain facts that the proof of TraceCover needs. -/
import Derived.Test.YtnbiddloiiljjaaK0
import Derived.Laws.Bits64b
import Derived.Laws.Bits64
import Derived.Test.YtnbiddloiiljjaaMPx0
import Derived.Test.YtnbiddloiiljjaaMPx2
import Derived.Test.YtnbiddloiiljjaaMPx3
import Derived.Test.YtnbiddloiiljjaaMPx4
import Derived.Test.YtnbiddloiiljjaaMPx5
set_option linter.unusedVariables false
set_option linter.unusedSimpArgs false
set_option linter.unusedSectionVars false
namespace Go.Proofs.Ytnbiddloiiljjaa.Med
open Go.RowKit Go.Proofs.YtnbiddloiiljjaaW.PrintWords Go.Proofs.YtnbiddloiiljjaaW.PrintMore Go.Proofs.Ytnbiddloiiljjaa.MP
theorem bnd {α β : Type} (a : α) (f : α → Option β) : (some a).bind f = f a := by
  have h := Option.bind_some a f
  exact h
theorem w64 {x : Int} (h0 : -9223372036854775808 ≤ x) (h1 : x ≤ 9223372036854775807) : wrap64 x = x := by unfold wrap64; omega
theorem wu64 {x : Int} (h0 : 0 ≤ x) (h1 : x < 18446744073709551616) : IntKind.u64.wrap x = x := by
  have : IntKind.u64.wrap x = x % 18446744073709551616 := by rfl
  omega
theorem wf_u64 {x : Int} (h : (Lit.int .u64 x).wf = true) : ∃ n : Nat, x = (n : Int) ∧ n < 18446744073709551616 := by
  have h0 : IntKind.u64.min = 0 := by decide
  have h1 : IntKind.u64.max = 18446744073709551615 := by decide
  simp [Lit.wf, h0, h1] at h
  exact ⟨x.toNat, by omega, by omega⟩
theorem log2_iff {n d : Nat} (hn : n ≠ 0) : n.log2 = d ↔ 2 ^ d ≤ n ∧ n < 2 ^ (d + 1) := Nat.log2_eq_iff hn
theorem log2_lo {n : Nat} (hn : n ≠ 0) : 2 ^ n.log2 ≤ n := Nat.log2_self_le hn
theorem log2_hi (n : Nat) : n < 2 ^ (n.log2 + 1) := Nat.lt_log2_self
theorem log2_one : Nat.log2 1 = 0 := by decide
theorem pow_pos2 (k : Nat) : 0 < 2 ^ k := Nat.two_pow_pos k
theorem pow_split {a b : Nat} (h : a ≤ b) : 2 ^ b = 2 ^ a * 2 ^ (b - a) := by rw [← Nat.pow_add]; congr 1; omega
theorem pow_mono {a b : Nat} (h : a ≤ b) : 2 ^ a ≤ 2 ^ b := Nat.pow_le_pow_right (by omega) h
theorem pow_lt {a b : Nat} (h : a < b) : 2 ^ a < 2 ^ b := Nat.pow_lt_pow_right (by omega) h
theorem pow_le_32 {d : Nat} (h : d ≤ 33) : 2 ^ d ≤ 8589934592 := pow_mono (b := 33) h
theorem log2_div {n k : Nat} (hn : n ≠ 0) (hk : k ≤ n.log2) : (n / 2 ^ k).log2 = n.log2 - k ∧ n / 2 ^ k ≠ 0 := by
  have h1 := log2_lo hn
  have h2 := log2_hi n
  have hp := pow_pos2 k
  rw [pow_split hk] at h1
  have e : n.log2 + 1 = k + (n.log2 - k + 1) := by omega
  rw [e, Nat.pow_add] at h2
  have g1 : 2 ^ (n.log2 - k) ≤ n / 2 ^ k := (Nat.le_div_iff_mul_le hp).2 (by rw [Nat.mul_comm]; exact h1)
  have g2 : n / 2 ^ k < 2 ^ (n.log2 - k + 1) := Nat.div_lt_of_lt_mul h2
  have g3 : n / 2 ^ k ≠ 0 := by have := pow_pos2 (n.log2 - k); omega
  exact ⟨(log2_iff g3).2 ⟨g1, g2⟩, g3⟩
def anc (n d : Nat) : Nat := n / 2 ^ (n.log2 - d)
theorem anc_log2 {n d : Nat} (hn : n ≠ 0) (hd : d ≤ n.log2) : (anc n d).log2 = d := by
  have := (log2_div hn (k := n.log2 - d) (by omega)).1
  unfold anc; omega
theorem anc_ne {n d : Nat} (hn : n ≠ 0) : anc n d ≠ 0 := (log2_div hn (k := n.log2 - d) (by omega)).2
theorem anc_self (n : Nat) : anc n n.log2 = n := by unfold anc; simp
theorem anc_zero {n : Nat} (hn : n ≠ 0) : anc n 0 = 1 := by
  have h := anc_log2 hn (Nat.zero_le _)
  have h0 := anc_ne (d := 0) hn
  have := (log2_iff h0).1 h
  omega
theorem anc_anc {n d e : Nat} (hn : n ≠ 0) (hd : d ≤ n.log2) (he : e ≤ d) : anc (anc n d) e = anc n e := by
  unfold anc
  rw [show (n / 2 ^ (n.log2 - d)).log2 = d from anc_log2 hn hd, Nat.div_div_eq_div_mul, ← Nat.pow_add]
  congr 2; omega
def Abv (a b : Nat) : Prop := a.log2 ≤ b.log2 ∧ anc b a.log2 = a
instance (a b : Nat) : Decidable (Abv a b) := inferInstanceAs (Decidable (_ ∧ _))
theorem Abv.refl (a : Nat) : Abv a a := ⟨Nat.le_refl _, anc_self a⟩
theorem Abv.trans {a b c : Nat} (hc : c ≠ 0) (h : Abv a b) (k : Abv b c) : Abv a c := by
  refine ⟨Nat.le_trans h.1 k.1, ?_⟩
  rw [← anc_anc hc k.1 h.1, k.2]; exact h.2
theorem abv_anc {n d : Nat} (hn : n ≠ 0) (hd : d ≤ n.log2) : Abv (anc n d) n := by
  unfold Abv; rw [anc_log2 hn hd]; exact ⟨hd, rfl⟩
theorem abv_root {n : Nat} (hn : n ≠ 0) : Abv 1 n := ⟨by rw [log2_one]; omega, by rw [log2_one]; exact anc_zero hn⟩
theorem abv_div {a b k : Nat} (hb : b ≠ 0) (hk : k ≤ b.log2) (h : b / 2 ^ k = a) : Abv a b := by
  subst h
  have := (log2_div hb hk).1
  refine ⟨by omega, ?_⟩
  unfold anc; congr 2; omega
theorem Abv.eq_of_log2 {a b : Nat} (h : Abv a b) (e : a.log2 = b.log2) : a = b := by
  have := h.2; rw [e, anc_self] at this; exact this.symm
theorem Abv.total {a b c : Nat} (hc : c ≠ 0) (h : Abv a c) (k : Abv b c) (hab : a.log2 ≤ b.log2) : Abv a b := by
  refine ⟨hab, ?_⟩
  have := anc_anc hc k.1 hab
  rw [k.2] at this; rw [this]; exact h.2
theorem Abv.antisymm {a b : Nat} (h : Abv a b) (k : Abv b a) : a = b := h.eq_of_log2 (Nat.le_antisymm h.1 k.1)
def lf (h n : Nat) : Nat := n * 2 ^ (h - n.log2)
def rt (h n : Nat) : Nat := (n + 1) * 2 ^ (h - n.log2)
theorem rt_eq (h n : Nat) : rt h n = lf h n + 2 ^ (h - n.log2) := by unfold rt lf; rw [Nat.add_mul, Nat.one_mul]
theorem lf_lt_rt (h n : Nat) : lf h n < rt h n := by have := pow_pos2 (h - n.log2); rw [rt_eq]; omega
theorem lf_ge {h n : Nat} (hn : n ≠ 0) (hd : n.log2 ≤ h) : 2 ^ h ≤ lf h n := by
  unfold lf; rw [pow_split hd]; exact Nat.mul_le_mul_right _ (log2_lo hn)
theorem rt_le {h n : Nat} (hd : n.log2 ≤ h) : rt h n ≤ 2 ^ (h + 1) := by
  have e : h + 1 = (n.log2 + 1) + (h - n.log2) := by omega
  unfold rt; rw [e, Nat.pow_add]; exact Nat.mul_le_mul_right _ (log2_hi n)
theorem leaf_log2 {h x : Nat} (h0 : 2 ^ h ≤ x) (h1 : x < 2 ^ (h + 1)) : x.log2 = h := by
  have : x ≠ 0 := by have := pow_pos2 h; omega
  exact (log2_iff this).2 ⟨h0, h1⟩
theorem abv_leaf {h n x : Nat} (hn : n ≠ 0) (hd : n.log2 ≤ h) (h0 : 2 ^ h ≤ x) (h1 : x < 2 ^ (h + 1)) : Abv n x ↔ lf h n ≤ x ∧ x < rt h n := by
  have hx := leaf_log2 h0 h1
  unfold Abv anc lf rt
  rw [hx]
  have hp := pow_pos2 (h - n.log2)
  constructor
  · rintro ⟨_, e⟩
    exact ⟨(Nat.le_div_iff_mul_le hp).1 (by omega), (Nat.div_lt_iff_lt_mul hp).1 (by omega)⟩
  · rintro ⟨a, b⟩
    refine ⟨hd, Nat.le_antisymm ?_ ((Nat.le_div_iff_mul_le hp).2 a)⟩
    have : x / 2 ^ (h - n.log2) < n + 1 := Nat.div_lt_of_lt_mul (by rw [Nat.mul_comm]; exact b)
    omega
theorem abv_span {h a b : Nat} (ha : a ≠ 0) (hb : b ≠ 0) (hd : b.log2 ≤ h) (hab : a.log2 ≤ b.log2) : Abv a b ↔ lf h a ≤ lf h b ∧ rt h b ≤ rt h a := by
  have e1 : h - a.log2 = (b.log2 - a.log2) + (h - b.log2) := by omega
  have hp := pow_pos2 (h - b.log2)
  have hq := pow_pos2 (b.log2 - a.log2)
  unfold lf rt
  rw [e1, Nat.pow_add, ← Nat.mul_assoc, ← Nat.mul_assoc, Nat.mul_le_mul_right_iff hp, Nat.mul_le_mul_right_iff hp]
  unfold Abv anc
  constructor
  · rintro ⟨_, e⟩
    refine ⟨(Nat.le_div_iff_mul_le hq).1 (by omega), ?_⟩
    exact (Nat.div_lt_iff_lt_mul hq).1 (show b / 2 ^ (b.log2 - a.log2) < a + 1 by omega)
  · rintro ⟨x, y⟩
    refine ⟨hab, Nat.le_antisymm ?_ ((Nat.le_div_iff_mul_le hq).2 x)⟩
    have : b / 2 ^ (b.log2 - a.log2) < a + 1 := Nat.div_lt_of_lt_mul (by rw [Nat.mul_comm]; exact y)
    omega
theorem log2_half {n : Nat} (h : 2 ≤ n) : (n / 2).log2 + 1 = n.log2 := by
  have h1 : 1 ≤ n.log2 := (Nat.le_log2 (by omega)).2 (by simpa using h)
  have := (log2_div (n := n) (k := 1) (by omega) h1).1
  rw [Nat.pow_one] at this; omega
def sz (n : Nat) : Nat := if n = 0 then 0 else n.log2 + 1
theorem sz_div {n k : Nat} (h : 2 ^ k ≤ n) : sz n = sz (n / 2 ^ k) + k := by
  have hp := pow_pos2 k
  have hn : n ≠ 0 := by omega
  have hk : k ≤ n.log2 := (Nat.le_log2 hn).2 h
  obtain ⟨a, b⟩ := log2_div hn hk
  unfold sz; rw [if_neg hn, if_neg b, a]; omega
theorem sz_le {n k : Nat} (h : n < 2 ^ k) : sz n ≤ k := by
  unfold sz; split
  · omega
  · rename_i hn; have := (Nat.log2_lt hn).2 h; omega
theorem log2_64 {n : Nat} (hn : n < 18446744073709551616) : n.log2 < 64 := by
  by_cases h : n = 0
  · subst h; decide
  · exact (Nat.log2_lt h).2 hn
def Nd (h n : Nat) : Prop := 1 ≤ h ∧ h ≤ 32 ∧ n ≠ 0 ∧ n.log2 ≤ h
instance (h n : Nat) : Decidable (Nd h n) := inferInstanceAs (Decidable (_ ∧ _))
theorem Nd.lt {h n : Nat} (d : Nd h n) : n < 2 ^ (h + 1) := Nat.lt_of_lt_of_le (log2_hi n) (pow_mono (by have := d.2.2.2; omega))
theorem Nd.lt33 {h n : Nat} (d : Nd h n) : n < 8589934592 := Nat.lt_of_lt_of_le d.lt (pow_le_32 (by have := d.2.1; omega))
theorem nd_root {h : Nat} : Nd h 1 ↔ 1 ≤ h ∧ h ≤ 32 := by unfold Nd; rw [log2_one]; omega
def Hi (h : Int) : Prop := 1 ≤ h ∧ h ≤ 32
instance (h : Int) : Decidable (Hi h) := inferInstanceAs (Decidable (_ ∧ _))
theorem hi_iff (h : Int) : Hi h ↔ 1 ≤ h ∧ h ≤ 32 := Iff.rfl
theorem nd_iff (h n : Nat) : Nd h n ↔ 1 ≤ h ∧ h ≤ 32 ∧ n ≠ 0 ∧ n.log2 ≤ h := Iff.rfl
def Sb (h i j : Nat) : Prop := Nd h i ∧ (j = 0 ∨ (Nd h j ∧ i ≠ j ∧ Abv i j))
instance (h i j : Nat) : Decidable (Sb h i j) := inferInstanceAs (Decidable (_ ∧ _))
def stp (h : Nat) : Nat := if h ≤ 1 then 1 else if h ≤ 4 then 2 else if h ≤ 9 then 3 else if h ≤ 16 then 4 else if h ≤ 25 then 5 else 6
theorem stp_pos (h : Nat) : 1 ≤ stp h ∧ stp h ≤ 6 := by unfold stp; constructor <;> (repeat' split) <;> omega
theorem root_lt : (1 : Nat) < 18446744073709551616 := by omega
theorem nd_root' (h : Int) : Nd h.toNat 1 ↔ Hi h := by rw [nd_root, hi_iff]; omega
def nxt (h i : Nat) : Nat := min ((i / stp h + 1) * stp h) h
def Spc (h i : Nat) : Prop := i % stp h = 0 ∨ i = h
instance (h i : Nat) : Decidable (Spc h i) := inferInstanceAs (Decidable (_ ∨ _))
theorem spc_iff (h i : Nat) : Spc h i ↔ i % stp h = 0 ∨ i = h := Iff.rfl
theorem tmod_cast (i s : Nat) : Int.tmod (i : Int) (s : Int) = ((i % s : Nat) : Int) := by rw [Int.tmod_eq_emod_of_nonneg (by omega)]; rfl
def Usf (h i j : Nat) : Prop := (j = 0 ∧ i = 1) ∨ (j ≠ 0 ∧ (Spc h i.log2 ∨ j.log2 ≤ nxt h i.log2))
instance (h i j : Nat) : Decidable (Usf h i j) := inferInstanceAs (Decidable (_ ∨ _))
theorem usf_iff (h i j : Nat) : Usf h i j ↔ (j = 0 ∧ i = 1) ∨ (j ≠ 0 ∧ (Spc h i.log2 ∨ j.log2 ≤ nxt h i.log2)) := Iff.rfl
theorem usf_0 (h i : Nat) : Usf h i 0 ↔ i = 1 := by rw [usf_iff]; simp
theorem usf_j (h i : Nat) {j : Nat} (h0 : j ≠ 0) : Usf h i j ↔ (Spc h i.log2 ∨ j.log2 ≤ nxt h i.log2) := by rw [usf_iff]; simp [h0]
theorem sb_h {h : Int} {i j : Nat} (s : Sb h.toNat i j) : ((h.toNat : Nat) : Int) = h := by have := s.1.1; omega
def spl (h i j : Nat) : List (Nat × Nat) := if Usf h i j ∨ j = 0 then [(i, j)] else [(i, anc j (nxt h i.log2)), (anc j (nxt h i.log2), j)]
def lo (h n : Nat) : Nat := lf h n - 2 ^ h
def hi (h n : Nat) : Nat := rt h n - 1 - 2 ^ h
def wd (h n : Nat) : Nat := 2 ^ (h - n.log2)
theorem wd_pos (h n : Nat) : 0 < wd h n := pow_pos2 _
theorem hi_eq {h n : Nat} (d : Nd h n) : hi h n + 1 = lo h n + wd h n := by
  have := rt_eq h n
  have h1 := lf_ge d.2.2.1 d.2.2.2
  have h2 := wd_pos h n
  unfold hi lo; unfold wd at *; omega
theorem hi_lt {h n : Nat} (d : Nd h n) : hi h n < 2 ^ h := by
  have h1 := rt_le (h := h) (n := n) d.2.2.2
  have h2 := lf_lt_rt h n
  have h3 := lf_ge d.2.2.1 d.2.2.2
  have h4 : 2 ^ (h + 1) = 2 ^ h * 2 := Nat.pow_succ 2 h
  unfold hi; omega
theorem pow_le_h {h : Nat} (hh : h ≤ 32) : 2 ^ h ≤ 4294967296 := pow_mono (b := 32) hh
def spn (h i j : Nat) : List (Nat × Nat) := if j = 0 then [(lo h i, hi h i)] else (if lo h i < lo h j then [(lo h i, lo h j - 1)] else []) ++ (if hi h j < hi h i then [(hi h j + 1, hi h i)] else [])
def In (h i j p : Nat) : Prop := (lo h i ≤ p ∧ p ≤ hi h i) ∧ (j = 0 ∨ ¬ (lo h j ≤ p ∧ p ≤ hi h j))
instance (h i j p : Nat) : Decidable (In h i j p) := inferInstanceAs (Decidable (_ ∧ _))
theorem in_iff (h i j p : Nat) : In h i j p ↔ (lo h i ≤ p ∧ p ≤ hi h i) ∧ (j = 0 ∨ ¬ (lo h j ≤ p ∧ p ≤ hi h j)) := Iff.rfl
theorem abv_lohi {h i j : Nat} (di : Nd h i) (dj : Nd h j) (ab : Abv i j) : lo h i ≤ lo h j ∧ hi h j ≤ hi h i := by
  have := (abv_span di.2.2.1 dj.2.2.1 dj.2.2.2 ab.1).1 ab
  have h1 := lf_ge di.2.2.1 di.2.2.2
  have h2 := lf_ge dj.2.2.1 dj.2.2.2
  unfold lo hi; omega
theorem mem_spn {h i j : Nat} (s : Sb h i j) (p : Nat) : (∃ x ∈ spn h i j, x.1 ≤ p ∧ p ≤ x.2) ↔ In h i j p := by
  rw [in_iff]
  by_cases h0 : j = 0
  · simp [spn, h0]
  · obtain ⟨dj, ne, ab⟩ := s.2.resolve_left h0
    have a := abv_lohi s.1 dj ab
    have q2 := hi_eq dj
    have w2 := wd_pos h j
    unfold spn; rw [if_neg h0]
    by_cases c1 : lo h i < lo h j <;> by_cases c2 : hi h j < hi h i <;> simp [c1, c2, h0] <;> omega
def Rise (m : Nat) : Nat → List (Nat × Nat) → Prop
  | _, [] => True
  | from_, x :: l => from_ ≤ x.1 ∧ x.1 ≤ x.2 ∧ x.2 < m ∧ Rise m (x.2 + 1) l
theorem Rise.mono {m : Nat} {l : List (Nat × Nat)} {a b : Nat} (h : Rise m a l) (hb : b ≤ a) : Rise m b l := by
  cases l with
  | nil => trivial
  | cons x l => exact ⟨Nat.le_trans hb h.1, h.2⟩
theorem spn_rise {h i j : Nat} (s : Sb h i j) : Rise (2 ^ h) 0 (spn h i j) := by
  have q1 := hi_eq s.1
  have w1 := wd_pos h i
  have l1 := hi_lt s.1
  by_cases h0 : j = 0
  · simp [spn, h0, Rise]; omega
  · obtain ⟨dj, ne, ab⟩ := s.2.resolve_left h0
    have a := abv_lohi s.1 dj ab
    have q2 := hi_eq dj
    have w2 := wd_pos h j
    unfold spn; rw [if_neg h0]
    by_cases c1 : lo h i < lo h j <;> by_cases c2 : hi h j < hi h i <;> simp [c1, c2, Rise] <;> omega
def tot : List (Nat × Nat) → Nat
  | [] => 0
  | x :: l => (x.2 - x.1 + 1) + tot l
theorem spn_tot {h i j : Nat} (s : Sb h i j) : tot (spn h i j) + (if j = 0 then 0 else wd h j) = wd h i := by
  have q1 := hi_eq s.1
  have w1 := wd_pos h i
  by_cases h0 : j = 0
  · simp [spn, h0, tot]; omega
  · obtain ⟨dj, ne, ab⟩ := s.2.resolve_left h0
    have a := abv_lohi s.1 dj ab
    have q2 := hi_eq dj
    have w2 := wd_pos h j
    unfold spn; rw [if_neg h0, if_neg h0]
    by_cases c1 : lo h i < lo h j <;> by_cases c2 : hi h j < hi h i <;> simp [c1, c2, tot] <;> omega
theorem wd_lt {h i j : Nat} (s : Sb h i j) (h0 : j ≠ 0) : wd h j < wd h i := by
  obtain ⟨dj, ne, ab⟩ := s.2.resolve_left h0
  have : i.log2 < j.log2 := Nat.lt_of_le_of_ne ab.1 (fun e => ne (ab.eq_of_log2 e))
  unfold wd
  exact pow_lt (by have := dj.2.2.2; omega)
theorem abv_lo_hi {h n p : Nat} (d : Nd h n) (hp : p < 2 ^ h) : Abv n (2 ^ h + p) ↔ lo h n ≤ p ∧ p ≤ hi h n := by
  have g1 := lf_ge d.2.2.1 d.2.2.2
  have g3 := lf_lt_rt h n
  have hs : 2 ^ (h + 1) = 2 ^ h * 2 := Nat.pow_succ 2 h
  rw [abv_leaf d.2.2.1 d.2.2.2 (by omega) (by omega)]
  unfold lo hi; omega
theorem sb_lt {h i j : Nat} (s : Sb h i j) : i < 18446744073709551616 ∧ j < 18446744073709551616 := by
  refine ⟨by have := s.1.lt33; omega, ?_⟩
  rcases s.2 with z | z
  · omega
  · have := z.1.lt33; omega
def Lfi (h : Int) (p : Nat) : Prop := Hi h ∧ p < 2 ^ h.toNat
instance (h : Int) (p : Nat) : Decidable (Lfi h p) := inferInstanceAs (Decidable (_ ∧ _))
theorem Rise.at {m : Nat} : ∀ {l : List (Nat × Nat)} {a i : Nat} (h : Rise m a l) (hi : i < l.length), l[i].1 ≤ l[i].2 ∧ l[i].2 < m ∧ a ≤ l[i].1 ∧ (∀ (h0 : 0 < i), l[i - 1].2 < l[i].1) ∧ Rise m (l[i].2 + 1) (l.drop (i + 1))
  | [], _, _, _, hi => by simp at hi
  | x :: l, a, 0, r, _ => by
    obtain ⟨r1, r2, r3, r4⟩ := r
    simp only [List.getElem_cons_zero, List.drop_succ_cons, List.drop_zero]
    exact ⟨r2, r3, r1, fun h => absurd h (by omega), r4⟩
  | x :: l, a, i + 1, r, hi => by
    obtain ⟨r1, r2, r3, r4⟩ := r
    have hi' : i < l.length := by simpa using hi
    obtain ⟨p1, p2, p3, p4, p5⟩ := Rise.at r4 hi'
    simp only [List.getElem_cons_succ, List.drop_succ_cons]
    refine ⟨p1, p2, by omega, fun _ => ?_, p5⟩
    cases i with
    | zero => simp; omega
    | succ i => simpa using p4 (by omega)
def Lss (a b : Nat × Nat) : Prop := a.1 < b.1 ∨ (a.1 = b.1 ∧ a.2 < b.2)
instance (a b : Nat × Nat) : Decidable (Lss a b) := inferInstanceAs (Decidable (_ ∨ _))
theorem lss_iff (a b : Nat × Nat) : Lss a b ↔ a.1 < b.1 ∨ (a.1 = b.1 ∧ a.2 < b.2) := Iff.rfl
theorem nxt_gt {h i : Nat} (hi' : i < h) : i < nxt h i ∧ nxt h i ≤ h := by
  have := stp_pos h
  have h1 : i < (i / stp h + 1) * stp h := by
    have := Nat.div_add_mod i (stp h)
    have h2 := Nat.mod_lt i (show stp h > 0 by omega)
    rw [Nat.add_mul, Nat.one_mul, Nat.mul_comm]
    omega
  unfold nxt; omega
theorem nxt_spc (h i : Nat) : Spc h (nxt h i) := by
  rw [spc_iff]
  unfold nxt
  by_cases c : (i / stp h + 1) * stp h ≤ h
  · left; rw [Nat.min_eq_left c]; exact Nat.mul_mod_left _ _
  · right; omega
theorem part_sb {h i j : Nat} (s : Sb h i j) (c : ¬ Usf h i j) (h0 : j ≠ 0) :
    let m := anc j (nxt h i.log2)
    m.log2 = nxt h i.log2 ∧ i.log2 < m.log2 ∧ m.log2 < j.log2 ∧ Sb h i m ∧ Sb h m j ∧ m ≠ 0 := by
  obtain ⟨dj, ne, ab⟩ := s.2.resolve_left h0
  have hn1 : ¬ Spc h i.log2 := fun z => c ((usf_j _ _ h0).2 (.inl z))
  have hn2 : ¬ (j.log2 ≤ nxt h i.log2) := fun z => c ((usf_j _ _ h0).2 (.inr z))
  have hi1 : i.log2 < h := Nat.lt_of_le_of_ne s.1.2.2.2 (fun z => hn1 (.inr z))
  obtain ⟨g1, g2⟩ := nxt_gt hi1
  intro m
  have hj0 := dj.2.2.1
  have ml : m.log2 = nxt h i.log2 := anc_log2 hj0 (by omega)
  have m0 : m ≠ 0 := anc_ne hj0
  have am : Abv m j := abv_anc hj0 (by omega)
  have ai : Abv i m := Abv.total hj0 ab am (by omega)
  have dm : Nd h m := ⟨s.1.1, s.1.2.1, m0, by omega⟩
  refine ⟨ml, by omega, by omega, ⟨s.1, .inr ⟨dm, fun e => ?_, ai⟩⟩, ⟨dm, .inr ⟨dj, fun e => ?_, am⟩⟩, m0⟩
  · rw [e] at g1 ml; omega
  · rw [e] at ml; omega
theorem spl_one {h i j : Nat} (c : Usf h i j ∨ j = 0) : spl h i j = [(i, j)] := by unfold spl; rw [if_pos c]
theorem spl_two {h i j : Nat} (c : ¬ (Usf h i j ∨ j = 0)) : spl h i j = [(i, anc j (nxt h i.log2)), (anc j (nxt h i.log2), j)] := by unfold spl; rw [if_neg c]
theorem two_in {h i m j : Nat} (s1 : Sb h i m) (s2 : Sb h m j) (m0 : m ≠ 0) (j0 : j ≠ 0) (p : Nat) :
    (In h i m p ∧ ¬ In h m j p ∧ In h i j p) ∨ (¬ In h i m p ∧ In h m j p ∧ In h i j p) ∨ (¬ In h i m p ∧ ¬ In h m j p ∧ ¬ In h i j p) := by
  obtain ⟨dm, _, a1⟩ := s1.2.resolve_left m0
  obtain ⟨dj, _, a2⟩ := s2.2.resolve_left j0
  have b1 := abv_lohi s1.1 dm a1
  have b2 := abv_lohi dm dj a2
  simp only [in_iff]
  omega
theorem two_sb {h i m j : Nat} (s1 : Sb h i m) (s2 : Sb h m j) (m0 : m ≠ 0) (j0 : j ≠ 0) : Sb h i j := by
  obtain ⟨dm, n1, a1⟩ := s1.2.resolve_left m0
  obtain ⟨dj, n2, a2⟩ := s2.2.resolve_left j0
  refine ⟨s1.1, .inr ⟨dj, fun e => ?_, Abv.trans dj.2.2.1 a1 a2⟩⟩
  subst e
  exact n1 (a1.antisymm a2)
theorem two_tot {h i m j : Nat} (s1 : Sb h i m) (s2 : Sb h m j) (m0 : m ≠ 0) (j0 : j ≠ 0) : tot (spn h i m) + tot (spn h m j) = tot (spn h i j) := by
  have t1 := spn_tot s1
  have t2 := spn_tot s2
  have t3 := spn_tot (two_sb s1 s2 m0 j0)
  rw [if_neg m0] at t1
  rw [if_neg j0] at t2 t3
  omega
theorem two_usf {h i j : Nat} (s : Sb h i j) (c : ¬ Usf h i j) (h0 : j ≠ 0) : Usf h i (anc j (nxt h i.log2)) ∧ Usf h (anc j (nxt h i.log2)) j := by
  obtain ⟨ml, _, _, _, _, m0⟩ := part_sb s c h0
  refine ⟨(usf_j _ _ m0).2 (.inr (by rw [ml]; exact Nat.le_refl _)), (usf_j _ _ h0).2 (.inl ?_)⟩
  rw [ml]; exact nxt_spc _ _
theorem spl_sb {h i j : Nat} (s : Sb h i j) : ∀ p ∈ spl h i j, Sb h p.1 p.2 := by
  intro p hp
  by_cases c : Usf h i j ∨ j = 0
  · rw [spl_one c] at hp
    simp only [List.mem_singleton] at hp
    subst hp; exact s
  · rw [spl_two c] at hp
    obtain ⟨_, _, _, s1, s2, _⟩ := part_sb s (fun z => c (.inl z)) (fun z => c (.inr z))
    simp only [List.mem_cons, List.not_mem_nil, or_false] at hp
    rcases hp with rfl | rfl
    · exact s1
    · exact s2
def sumtot (h : Nat) : List (Nat × Nat) → Nat
  | [] => 0
  | p :: l => tot (spn h p.1 p.2) + sumtot h l
theorem spl_tot {h i j : Nat} (s : Sb h i j) : sumtot h (spl h i j) = tot (spn h i j) := by
  by_cases c : Usf h i j ∨ j = 0
  · rw [spl_one c]; simp [sumtot]
  · rw [spl_two c]
    have c1 : ¬ Usf h i j := fun z => c (.inl z)
    have c2 : j ≠ 0 := fun z => c (.inr z)
    obtain ⟨_, _, _, s1, s2, m0⟩ := part_sb s c1 c2
    have := two_tot s1 s2 m0 c2
    simp only [sumtot]; omega
def Sch (s : Int) : Prop := 1 ≤ s ∧ s ≤ 3
instance (s : Int) : Decidable (Sch s) := inferInstanceAs (Decidable (_ ∧ _))
theorem sch_iff (s : Int) : Sch s ↔ 1 ≤ s ∧ s ≤ 3 := Iff.rfl
def May (h : Nat) (s : Int) (i j : Nat) : Prop := (s = 1 ∧ j = 0) ∨ (s = 2 ∧ (j ≠ 0 ∨ i = 1)) ∨ (s ≠ 1 ∧ s ≠ 2 ∧ Usf h i j)
instance (h : Nat) (s : Int) (i j : Nat) : Decidable (May h s i j) := inferInstanceAs (Decidable (_ ∨ _))
theorem may_iff (h : Nat) (s : Int) (i j : Nat) : May h s i j ↔ (s = 1 ∧ j = 0) ∨ (s = 2 ∧ (j ≠ 0 ∨ i = 1)) ∨ (s ≠ 1 ∧ s ≠ 2 ∧ Usf h i j) := Iff.rfl
def sib (n : Nat) : Nat := n ^^^ 1
theorem sib_eq (n : Nat) : sib n = if n % 2 = 0 then n + 1 else n - 1 := by
  unfold sib
  have h1 : (n ^^^ 1) / 2 = n / 2 := by rw [Nat.xor_div_two]; simp
  have h2 : (n ^^^ 1) % 2 = (n + 1) % 2 := by
    have h3 : (n ^^^ 1) % 2 ^ 1 = n % 2 ^ 1 ^^^ 1 % 2 ^ 1 := Nat.xor_mod_two_pow
    rw [Nat.pow_one] at h3
    rw [h3]
    rcases Nat.mod_two_eq_zero_or_one n with z | z
    · rw [z]; have : (0 ^^^ 1 % 2 : Nat) = 1 := by decide
      omega
    · rw [z]; have : (1 ^^^ 1 % 2 : Nat) = 0 := by decide
      omega
  split <;> omega
theorem sib_half (n : Nat) : sib n / 2 = n / 2 := by rw [sib_eq]; split <;> omega
theorem sib_pos {n : Nat} (h : 2 ≤ n) : 2 ≤ sib n := by rw [sib_eq]; split <;> omega
theorem sib_log2 {n : Nat} (h : 2 ≤ n) : (sib n).log2 = n.log2 := by
  have h1 := log2_half h
  have h2 := log2_half (sib_pos h)
  rw [sib_half] at h2; omega
theorem in_abv {h i j p : Nat} (s : Sb h i j) (hp : p < 2 ^ h) : In h i j p ↔ Abv i (2 ^ h + p) ∧ (j = 0 ∨ ¬ Abv j (2 ^ h + p)) := by
  rw [in_iff, abv_lo_hi s.1 hp]
  by_cases h0 : j = 0
  · simp [h0]
  · rw [abv_lo_hi (s.2.resolve_left h0).1 hp]
def Up (l : List Nat) : Prop := l.Pairwise (· < ·)
theorem Up.tail {a : Nat} {l : List Nat} (h : Up (a :: l)) : Up l := (List.pairwise_cons.1 h).2
theorem Up.lt {a : Nat} {l : List Nat} (h : Up (a :: l)) {x : Nat} (hx : x ∈ l) : a < x := (List.pairwise_cons.1 h).1 x hx
theorem up_ext : ∀ {a b : List Nat}, Up a → Up b → (∀ x, x ∈ a ↔ x ∈ b) → a = b
  | [], [], _, _, _ => rfl
  | [], y :: b, _, _, h => absurd ((h y).2 (by simp)) (by simp)
  | x :: a, [], _, _, h => absurd ((h x).1 (by simp)) (by simp)
  | x :: a, y :: b, ha, hb, h => by
    have e : x = y := by
      have h1 := (h x).1 (by simp)
      have h2 := (h y).2 (by simp)
      rcases List.mem_cons.1 h1 with z | z
      · exact z
      · rcases List.mem_cons.1 h2 with w | w
        · exact w.symm
        · have := hb.lt z; have := ha.lt w; omega
    subst e
    have : a = b := up_ext ha.tail hb.tail (fun z => by
      have := h z
      simp only [List.mem_cons] at this
      constructor
      · intro q
        rcases this.1 (.inr q) with c | c
        · have := ha.lt q; omega
        · exact c
      · intro q
        rcases this.2 (.inr q) with c | c
        · have := hb.lt q; omega
        · exact c)
    rw [this]
theorem Up.nodup {l : List Nat} (h : Up l) : l.Nodup := h.imp (fun h => Nat.ne_of_lt h)
theorem Up.filter {l : List Nat} (h : Up l) (p : Nat → Bool) : Up (l.filter p) := List.Pairwise.filter p h
theorem up_range' (a n : Nat) : Up (List.range' a n) := List.pairwise_lt_range'
theorem Up.append {a b : List Nat} (ha : Up a) (hb : Up b) (h : ∀ x ∈ a, ∀ y ∈ b, x < y) : Up (a ++ b) := List.pairwise_append.2 ⟨ha, hb, h⟩
def inT (h : Nat) (l : List Nat) (n : Nat) : Bool := l.any fun i => decide (Abv n (2 ^ h + i))
theorem inT_iff {h : Nat} {l : List Nat} {n : Nat} : inT h l n = true ↔ ∃ i ∈ l, Abv n (2 ^ h + i) := by simp [inT]
theorem leaf_ne (h i : Nat) : 2 ^ h + i ≠ 0 := by have := pow_pos2 h; omega
theorem leaf_log {h i : Nat} (hi : i < 2 ^ h) : (2 ^ h + i).log2 = h := leaf_log2 (by omega) (by rw [Nat.pow_succ]; omega)
theorem inT_up {h : Nat} {l : List Nat} {a n : Nat} (hab : Abv a n) (hn : inT h l n = true) : inT h l a = true := by
  rw [inT_iff] at *
  obtain ⟨i, hi, h1⟩ := hn
  exact ⟨i, hi, hab.trans (leaf_ne h i) h1⟩
theorem inT_root {h : Nat} {l : List Nat} : inT h l 1 = true ↔ l ≠ [] := by
  rw [inT_iff]
  constructor
  · rintro ⟨i, hi, _⟩ rfl; simp at hi
  · intro hl
    obtain ⟨i, hi⟩ := List.exists_mem_of_ne_nil l hl
    exact ⟨i, hi, abv_root (leaf_ne h i)⟩
theorem inT_leaf {h : Nat} {l : List Nat} (hl : ∀ i ∈ l, i < 2 ^ h) {i : Nat} (hi : i < 2 ^ h) : inT h l (2 ^ h + i) = true ↔ i ∈ l := by
  rw [inT_iff]
  constructor
  · rintro ⟨j, hj, h1⟩
    have := h1.eq_of_log2 (by rw [leaf_log hi, leaf_log (hl j hj)])
    have : i = j := by omega
    rw [this]; exact hj
  · intro hm; exact ⟨i, hm, Abv.refl _⟩
theorem log2_dbl {n : Nat} (hn : n ≠ 0) : (2 * n).log2 = n.log2 + 1 ∧ (2 * n + 1).log2 = n.log2 + 1 := by
  have a := log2_half (n := 2 * n) (by omega)
  have b := log2_half (n := 2 * n + 1) (by omega)
  rw [show 2 * n / 2 = n by omega] at a
  rw [show (2 * n + 1) / 2 = n by omega] at b
  omega
theorem abv_half {n : Nat} (hn : 2 ≤ n) : Abv (n / 2) n := abv_div (k := 1) (by omega) (by have := log2_half hn; omega) (by rw [Nat.pow_one])
theorem abv_dbl {n : Nat} (hn : n ≠ 0) : Abv n (2 * n) ∧ Abv n (2 * n + 1) := by
  have a := abv_half (n := 2 * n) (by omega)
  have b := abv_half (n := 2 * n + 1) (by omega)
  rw [show 2 * n / 2 = n by omega] at a
  rw [show (2 * n + 1) / 2 = n by omega] at b
  exact ⟨a, b⟩
theorem abv_child {n x : Nat} (hx : x ≠ 0) (hn : Abv n x) (hd : n.log2 < x.log2) : Abv (2 * n) x ∨ Abv (2 * n + 1) x := by
  have l1 := anc_log2 hx (show n.log2 + 1 ≤ x.log2 by omega)
  have n1 := anc_ne (d := n.log2 + 1) hx
  have a1 := abv_anc hx (show n.log2 + 1 ≤ x.log2 by omega)
  have e : anc x (n.log2 + 1) / 2 = n := by
    have two := pow_mono (show 1 ≤ (anc x (n.log2 + 1)).log2 by omega)
    have lo := log2_lo n1
    have hh := abv_half (n := anc x (n.log2 + 1)) (by omega)
    have ll := log2_half (n := anc x (n.log2 + 1)) (by omega)
    have := (hh.trans hx a1).total hx hn (by omega)
    exact this.eq_of_log2 (by omega)
  rcases Nat.mod_two_eq_zero_or_one (anc x (n.log2 + 1)) with z | z
  · left; rw [show 2 * n = anc x (n.log2 + 1) by omega]; exact a1
  · right; rw [show 2 * n + 1 = anc x (n.log2 + 1) by omega]; exact a1
theorem inT_child {h : Nat} {l : List Nat} (hl : ∀ i ∈ l, i < 2 ^ h) {n : Nat} (hn : n ≠ 0) (hd : n.log2 < h) : inT h l n = true ↔ inT h l (2 * n) = true ∨ inT h l (2 * n + 1) = true := by
  constructor
  · intro z
    obtain ⟨i, hi, h1⟩ := inT_iff.1 z
    rcases abv_child (leaf_ne h i) h1 (by rw [leaf_log (hl i hi)]; exact hd) with w | w
    · exact .inl (inT_iff.2 ⟨i, hi, w⟩)
    · exact .inr (inT_iff.2 ⟨i, hi, w⟩)
  · obtain ⟨a, b⟩ := abv_dbl hn
    rintro (z | z)
    · exact inT_up a z
    · exact inT_up b z
def lvl (h : Nat) (l : List Nat) (d : Nat) : List Nat := (List.range' (2 ^ d) (2 ^ d)).filter (inT h l)
theorem mem_lvl {h : Nat} {l : List Nat} {d n : Nat} : n ∈ lvl h l d ↔ n ≠ 0 ∧ n.log2 = d ∧ inT h l n = true := by
  unfold lvl
  rw [List.mem_filter, List.mem_range'_1]
  constructor
  · rintro ⟨⟨a, b⟩, c⟩
    have : n ≠ 0 := by have := pow_pos2 d; omega
    exact ⟨this, (log2_iff this).2 ⟨a, by rw [Nat.pow_succ]; omega⟩, c⟩
  · rintro ⟨a, b, c⟩
    have := (log2_iff a).1 b
    rw [Nat.pow_succ] at this
    exact ⟨⟨this.1, by omega⟩, c⟩
theorem lvl_up (h : Nat) (l : List Nat) (d : Nat) : Up (lvl h l d) := (up_range' _ _).filter _
def trs (h : Nat) (l : List Nat) : Nat → List Nat
  | 0 => []
  | d + 1 => trs h l d ++ lvl h l d
theorem mem_trs {h : Nat} {l : List Nat} {n : Nat} : ∀ {D : Nat}, n ∈ trs h l D ↔ n ≠ 0 ∧ n.log2 < D ∧ inT h l n = true
  | 0 => by simp [trs]
  | D + 1 => by
    rw [trs, List.mem_append, mem_trs (D := D), mem_lvl]
    constructor
    · rintro (⟨a, b, c⟩ | ⟨a, b, c⟩)
      · exact ⟨a, by omega, c⟩
      · exact ⟨a, by omega, c⟩
    · rintro ⟨a, b, c⟩
      by_cases e : n.log2 = D
      · exact .inr ⟨a, e, c⟩
      · exact .inl ⟨a, by omega, c⟩
theorem lt_of_log2 {a b : Nat} (hb : b ≠ 0) (h : a.log2 < b.log2) : a < b := by
  have h1 := log2_hi a
  have h2 := log2_lo hb
  have := pow_mono (show a.log2 + 1 ≤ b.log2 by omega)
  omega
theorem trs_up (h : Nat) (l : List Nat) : ∀ D, Up (trs h l D)
  | 0 => List.Pairwise.nil
  | D + 1 => (trs_up h l D).append (lvl_up h l D) (fun x hx y hy => by
      rw [mem_trs] at hx; rw [mem_lvl] at hy
      exact lt_of_log2 hy.1 (by omega))
def ch (n : Nat) : List Nat := [2 * n, 2 * n + 1]
def hgs (h : Nat) (l : List Nat) (t : List Nat) : List Nat := t.flatMap fun n => if n.log2 < h then (ch n).filter fun c => !inT h l c else []
def fks (h : Nat) (l : List Nat) (t : List Nat) : List Nat := t.filter fun n => decide (n.log2 < h) && (inT h l (2 * n) && inT h l (2 * n + 1))
theorem mem_hgs {h : Nat} {l t : List Nat} {c : Nat} : c ∈ hgs h l t ↔ ∃ n ∈ t, n.log2 < h ∧ (c = 2 * n ∨ c = 2 * n + 1) ∧ inT h l c = false := by
  unfold hgs
  rw [List.mem_flatMap]
  constructor
  · rintro ⟨n, hn, hc⟩
    split at hc
    · rename_i hd
      rw [List.mem_filter] at hc
      simp [ch] at hc
      exact ⟨n, hn, hd, hc.1, by simpa using hc.2⟩
    · simp at hc
  · rintro ⟨n, hn, hd, hc, hi⟩
    refine ⟨n, hn, ?_⟩
    rw [if_pos hd, List.mem_filter]
    exact ⟨by simpa [ch] using hc, by simp [hi]⟩
theorem hgs_app (h : Nat) (l s t : List Nat) : hgs h l (s ++ t) = hgs h l s ++ hgs h l t := by simp [hgs]
theorem fks_app (h : Nat) (l s t : List Nat) : fks h l (s ++ t) = fks h l s ++ fks h l t := by simp [fks]
theorem hgs_up {h : Nat} {l : List Nat} : ∀ {t : List Nat}, Up t → Up (hgs h l t)
  | [], _ => List.Pairwise.nil
  | n :: t, ht => by
    have e : hgs h l (n :: t) = hgs h l [n] ++ hgs h l t := hgs_app h l [n] t
    rw [e]
    refine Up.append ?_ (hgs_up ht.tail) ?_
    · unfold hgs; simp only [List.flatMap_cons, List.flatMap_nil, List.append_nil]
      split
      · refine Up.filter ?_ _
        unfold ch Up; simp
      · exact List.Pairwise.nil
    · intro x hx y hy
      obtain ⟨a, ha, _, hxa, _⟩ := mem_hgs.1 hx
      obtain ⟨b, hb, _, hyb, _⟩ := mem_hgs.1 hy
      simp only [List.mem_singleton] at ha
      subst ha
      have := ht.lt hb
      omega
theorem lvl_next {h : Nat} {l : List Nat} (hl : ∀ i ∈ l, i < 2 ^ h) {d : Nat} (hd : d < h) : lvl h l (d + 1) = (lvl h l d).flatMap fun n => (ch n).filter (inT h l) := by
  have key : ∀ t : List Nat, Up t → Up (t.flatMap fun n => (ch n).filter (inT h l)) := by
    intro t
    induction t with
    | nil => intro _; exact List.Pairwise.nil
    | cons n t ih =>
      intro ht
      rw [List.flatMap_cons]
      refine Up.append (Up.filter (by unfold ch Up; simp) _) (ih ht.tail) ?_
      intro x hx y hy
      rw [List.mem_filter] at hx
      obtain ⟨b, hb, hy⟩ := List.mem_flatMap.1 hy
      rw [List.mem_filter] at hy
      have := ht.lt hb
      simp [ch] at hx hy
      omega
  refine up_ext (lvl_up _ _ _) (key _ (lvl_up _ _ _)) ?_
  intro x
  rw [mem_lvl, List.mem_flatMap]
  constructor
  · rintro ⟨a, b, c⟩
    have two : 2 ≤ x := by
      have := log2_lo a; rw [b] at this
      have := pow_mono (show 1 ≤ d + 1 by omega); omega
    have hh := log2_half two
    refine ⟨x / 2, mem_lvl.2 ⟨by omega, by omega, inT_up (abv_half two) c⟩, ?_⟩
    rw [List.mem_filter]
    refine ⟨?_, c⟩
    simp [ch]; omega
  · rintro ⟨n, hn, hx⟩
    rw [mem_lvl] at hn
    rw [List.mem_filter] at hx
    have := log2_dbl hn.1
    refine ⟨?_, ?_, hx.2⟩
    · have := hx.1; simp [ch] at this; have := hn.1; omega
    · have h1 := hx.1; simp [ch] at h1
      rcases h1 with rfl | rfl <;> omega
theorem len_two (p : Nat → Bool) (n : Nat) : ((ch n).filter p).length + ((ch n).filter fun c => !p c).length = 2 := by
  unfold ch
  cases h1 : p (2 * n) <;> cases h2 : p (2 * n + 1) <;> simp [h1, h2]
theorem len_lvl_hgs {h : Nat} {l : List Nat} (hl : ∀ i ∈ l, i < 2 ^ h) {d : Nat} (hd : d < h) : (lvl h l (d + 1)).length + (hgs h l (lvl h l d)).length = 2 * (lvl h l d).length := by
  rw [lvl_next hl hd]
  have : ∀ t : List Nat, (∀ n ∈ t, n.log2 < h) → (t.flatMap fun n => (ch n).filter (inT h l)).length + (hgs h l t).length = 2 * t.length := by
    intro t
    induction t with
    | nil => intro _; rfl
    | cons n t ih =>
      intro ht
      have e : hgs h l (n :: t) = hgs h l [n] ++ hgs h l t := hgs_app h l [n] t
      have e2 : hgs h l [n] = (ch n).filter fun c => !inT h l c := by
        unfold hgs; simp only [List.flatMap_cons, List.flatMap_nil, List.append_nil]; rw [if_pos (ht n (by simp))]
      have := ih (fun m hm => ht m (by simp [hm]))
      have := len_two (inT h l) n
      rw [List.flatMap_cons, e, e2, List.length_append, List.length_append, List.length_cons]
      omega
  exact this _ (fun n hn => by rw [mem_lvl] at hn; omega)
theorem len_lvl_fks {h : Nat} {l : List Nat} (hl : ∀ i ∈ l, i < 2 ^ h) {d : Nat} (hd : d < h) : (lvl h l (d + 1)).length = (lvl h l d).length + (fks h l (lvl h l d)).length := by
  rw [lvl_next hl hd]
  have : ∀ t : List Nat, (∀ n ∈ t, n ≠ 0 ∧ n.log2 < h ∧ inT h l n = true) → (t.flatMap fun n => (ch n).filter (inT h l)).length = t.length + (fks h l t).length := by
    intro t
    induction t with
    | nil => intro _; rfl
    | cons n t ih =>
      intro ht
      obtain ⟨h0, h1, h2⟩ := ht n (by simp)
      have e : fks h l (n :: t) = fks h l [n] ++ fks h l t := fks_app h l [n] t
      have := ih (fun m hm => ht m (by simp [hm]))
      rw [List.flatMap_cons, e, List.length_append, List.length_append, List.length_cons]
      have c := (inT_child hl h0 h1).1 h2
      have : ((ch n).filter (inT h l)).length = 1 + (fks h l [n]).length := by
        unfold ch fks
        cases a1 : inT h l (2 * n) <;> cases a2 : inT h l (2 * n + 1) <;> simp [a1, a2, h1]
        rw [a1, a2] at c; simp at c
      omega
  exact this _ (fun n hn => by rw [mem_lvl] at hn; exact ⟨hn.1, by omega, hn.2.2⟩)
theorem lvl_zero {h : Nat} {l : List Nat} (h0 : l ≠ []) : lvl h l 0 = [1] := by
  unfold lvl
  simp [inT_root.2 h0]
theorem lvl_h_len {h : Nat} {l : List Nat} (hl : ∀ i ∈ l, i < 2 ^ h) (hu : Up l) : lvl h l h = l.map (2 ^ h + ·) := by
  refine up_ext (lvl_up _ _ _) ?_ ?_
  · unfold Up; rw [List.pairwise_map]; exact hu.imp (fun h => by omega)
  · intro x
    rw [mem_lvl, List.mem_map]
    constructor
    · rintro ⟨a, b, c⟩
      have := (log2_iff a).1 b
      rw [Nat.pow_succ] at this
      refine ⟨x - 2 ^ h, ?_, by omega⟩
      exact (inT_leaf hl (by omega)).1 (by rw [show 2 ^ h + (x - 2 ^ h) = x by omega]; exact c)
    · rintro ⟨i, hi, rfl⟩
      exact ⟨leaf_ne h i, leaf_log (hl i hi), (inT_leaf hl (hl i hi)).2 hi⟩
theorem fks_len {h : Nat} {l : List Nat} (hl : ∀ i ∈ l, i < 2 ^ h) (h0 : l ≠ []) : ∀ {d : Nat}, d ≤ h → (fks h l (trs h l d)).length + 1 = (lvl h l d).length
  | 0, _ => by rw [lvl_zero h0]; rfl
  | d + 1, hd => by
    have := fks_len hl h0 (d := d) (by omega)
    rw [trs, fks_app, List.length_append, len_lvl_fks hl (by omega)]; omega
theorem hgs_len {h : Nat} {l : List Nat} (hl : ∀ i ∈ l, i < 2 ^ h) (h0 : l ≠ []) : ∀ {d : Nat}, d ≤ h → (hgs h l (trs h l d)).length + (lvl h l d).length = (trs h l d).length + 1
  | 0, _ => by rw [lvl_zero h0]; rfl
  | d + 1, hd => by
    have := hgs_len hl h0 (d := d) (by omega)
    have := len_lvl_hgs hl (d := d) (by omega)
    rw [trs, hgs_app, List.length_append, List.length_append]; omega
theorem hgs_last (h : Nat) (l : List Nat) : hgs h l (trs h l (h + 1)) = hgs h l (trs h l h) := by
  rw [trs, hgs_app]
  have : hgs h l (lvl h l h) = [] := by
    rw [List.eq_nil_iff_forall_not_mem]
    intro c hc
    obtain ⟨n, hn, hd, _⟩ := mem_hgs.1 hc
    rw [mem_lvl] at hn; omega
  rw [this, List.append_nil]
def hng (h : Nat) (l : List Nat) : List Nat := if l = [] then [1] else hgs h l (trs h l h)
def frk (h : Nat) (l : List Nat) : List Nat := fks h l (trs h l h)
theorem hng_up (h : Nat) (l : List Nat) : Up (hng h l) := by
  unfold hng; split
  · unfold Up; simp
  · exact hgs_up (trs_up _ _ _)
theorem mem_hng {h : Nat} {l : List Nat} (h0 : l ≠ []) {c : Nat} : c ∈ hng h l ↔ 2 ≤ c ∧ c.log2 ≤ h ∧ inT h l c = false ∧ inT h l (c / 2) = true := by
  unfold hng; rw [if_neg h0, mem_hgs]
  constructor
  · rintro ⟨n, hn, hd, hc, hi⟩
    rw [mem_trs] at hn
    have := log2_dbl hn.1
    have e : c / 2 = n := by omega
    have two : 2 ≤ c := by have := hn.1; omega
    have := log2_half two
    rw [e] at this
    exact ⟨two, by omega, hi, by rw [e]; exact hn.2.2⟩
  · rintro ⟨two, hd, hi, hp⟩
    have := log2_half two
    exact ⟨c / 2, mem_trs.2 ⟨by omega, by omega, hp⟩, by omega, by omega, hi⟩
theorem mem_frk {h : Nat} {l : List Nat} {n : Nat} : n ∈ frk h l ↔ n ≠ 0 ∧ n.log2 < h ∧ inT h l (2 * n) = true ∧ inT h l (2 * n + 1) = true := by
  unfold frk fks
  rw [List.mem_filter, mem_trs]
  constructor
  · rintro ⟨⟨a, b, c⟩, d⟩
    simp at d; exact ⟨a, b, d.2.1, d.2.2⟩
  · rintro ⟨a, b, c, d⟩
    exact ⟨⟨a, b, inT_up (abv_dbl a).1 c⟩, by simp [b, c, d]⟩
theorem hng_not {h : Nat} {l : List Nat} {c : Nat} (hc : c ∈ hng h l) : inT h l c = false := by
  by_cases h0 : l = []
  · subst h0; simp [inT]
  · exact ((mem_hng h0).1 hc).2.2.1
theorem hng_nd {h : Nat} {l : List Nat} {c : Nat} (hc : c ∈ hng h l) : c ≠ 0 ∧ c.log2 ≤ h := by
  by_cases h0 : l = []
  · subst h0; unfold hng at hc; simp at hc; subst hc; rw [log2_one]; omega
  · have := (mem_hng h0).1 hc; omega
theorem hng_above {h : Nat} {l : List Nat} (hl : ∀ i ∈ l, i < 2 ^ h) {i : Nat} (hi : i < 2 ^ h) (hm : i ∉ l) : ∃ c ∈ hng h l, Abv c (2 ^ h + i) ∧ ∀ b ∈ hng h l, Abv b (2 ^ h + i) → b = c := by
  have hx := leaf_ne h i
  have hxl := leaf_log hi
  by_cases h0 : l = []
  · subst h0
    refine ⟨1, by simp [hng], abv_root hx, ?_⟩
    intro b hb _
    simpa [hng] using hb
  · have hnl : inT h l (2 ^ h + i) = false := by
      cases e : inT h l (2 ^ h + i) with
      | false => rfl
      | true => exact absurd ((inT_leaf hl hi).1 e) hm
    have step : ∀ d, d ≤ h → inT h l (anc (2 ^ h + i) d) = false → ∃ e, e < d ∧ inT h l (anc (2 ^ h + i) e) = true ∧ inT h l (anc (2 ^ h + i) (e + 1)) = false := by
      intro d
      induction d with
      | zero => intro _ z; rw [anc_zero hx, inT_root.2 h0] at z; cases z
      | succ d ih =>
        intro hd z
        cases e : inT h l (anc (2 ^ h + i) d) with
        | true => exact ⟨d, by omega, e, z⟩
        | false => obtain ⟨e', a, b⟩ := ih (by omega) e; exact ⟨e', by omega, b⟩
    obtain ⟨e, he, h1, h2⟩ := step h (Nat.le_refl _) (by have := anc_self (2 ^ h + i); rw [hxl] at this; rw [this]; exact hnl)
    have la := anc_log2 hx (show e + 1 ≤ (2 ^ h + i).log2 by omega)
    have na := anc_ne (d := e + 1) hx
    have two : 2 ≤ anc (2 ^ h + i) (e + 1) := by
      have := log2_lo na; rw [la] at this
      have := pow_mono (show 1 ≤ e + 1 by omega); omega
    have hf : anc (2 ^ h + i) (e + 1) / 2 = anc (2 ^ h + i) e := by
      have q1 := (abv_half two).trans hx (abv_anc hx (by omega))
      have q2 := abv_anc hx (show e ≤ (2 ^ h + i).log2 by omega)
      have q3 := log2_half two
      have q4 := anc_log2 hx (show e ≤ (2 ^ h + i).log2 by omega)
      exact (q1.total hx q2 (by omega)).eq_of_log2 (by omega)
    refine ⟨anc (2 ^ h + i) (e + 1), (mem_hng h0).2 ⟨two, by omega, h2, by rw [hf]; exact h1⟩, abv_anc hx (by omega), ?_⟩
    intro b hb hbx
    obtain ⟨b2, b3, b4, b5⟩ := (mem_hng h0).1 hb
    have eb : b = anc (2 ^ h + i) b.log2 := hbx.2.symm
    have hbh := log2_half b2
    have q1 := (abv_half b2).trans hx hbx
    rcases Nat.lt_trichotomy b.log2 (e + 1) with z | z | z
    · -- b is above the node of depth e, that is of the tree
      have := hbx.total hx (abv_anc hx (show e ≤ (2 ^ h + i).log2 by omega)) (by rw [anc_log2 hx (by omega)]; omega)
      rw [inT_up this h1] at b4; cases b4
    · rw [eb, z]
    · have := (abv_anc hx (show e + 1 ≤ (2 ^ h + i).log2 by omega)).total hx q1 (by rw [la]; omega)
      rw [inT_up this b5] at h2; cases h2
theorem hng_none {h : Nat} {l : List Nat} (hl : ∀ i ∈ l, i < 2 ^ h) {i : Nat} (hm : i ∈ l) {c : Nat} (hc : c ∈ hng h l) : ¬ Abv c (2 ^ h + i) := by
  intro z
  have := hng_not hc
  have h2 : inT h l c = true := inT_iff.2 ⟨i, hm, z⟩
  rw [h2] at this; cases this
theorem hgs_wide {h : Nat} {l : List Nat} (hl : ∀ i ∈ l, i < 2 ^ h) (h0 : l ≠ []) : ∀ {d : Nat}, d ≤ h → ((hgs h l (trs h l d)).map fun n => 2 ^ (h - n.log2)).sum + (lvl h l d).length * 2 ^ (h - d) = 2 ^ h
  | 0, _ => by rw [lvl_zero h0]; simp [trs, hgs]
  | d + 1, hd => by
    have r := hgs_wide hl h0 (d := d) (by omega)
    have q := len_lvl_hgs hl (d := d) (by omega)
    have : ∀ t : List Nat, (∀ c ∈ t, c.log2 = d + 1) → (t.map fun n => 2 ^ (h - n.log2)).sum = t.length * 2 ^ (h - (d + 1)) := by
      intro t
      induction t with
      | nil => intro _; simp
      | cons a t ih =>
        intro ht
        rw [List.map_cons, List.sum_cons, ih (fun c hc => ht c (by simp [hc])), ht a (by simp), List.length_cons, Nat.add_mul]; omega
    have w := this (hgs h l (lvl h l d)) (fun c hc => by
      obtain ⟨n, hn, _, hcn, _⟩ := mem_hgs.1 hc
      rw [mem_lvl] at hn
      have := log2_dbl hn.1
      rcases hcn with rfl | rfl <;> omega)
    rw [trs, hgs_app, List.map_append, List.sum_append, w]
    have e : 2 ^ (h - d) = 2 * 2 ^ (h - (d + 1)) := by rw [show h - d = (h - (d + 1)) + 1 by omega, Nat.pow_succ]; omega
    rw [e] at r
    generalize 2 ^ (h - (d + 1)) = W at *
    have f1 : (hgs h l (lvl h l d)).length * W + (lvl h l (d + 1)).length * W = (lvl h l d).length * (2 * W) := by
      rw [← Nat.add_mul, Nat.add_comm, q, Nat.mul_comm 2, Nat.mul_assoc]
    omega
theorem hng_wide {h : Nat} {l : List Nat} (hl : ∀ i ∈ l, i < 2 ^ h) (hu : Up l) : ((hng h l).map fun n => 2 ^ (h - n.log2)).sum + l.length = 2 ^ h := by
  by_cases h0 : l = []
  · subst h0; simp [hng, log2_one]
  · have := hgs_wide hl h0 (d := h) (Nat.le_refl _)
    rw [lvl_h_len hl hu] at this
    unfold hng; rw [if_neg h0]
    simpa using this
theorem tree_len {h : Nat} {l : List Nat} (hl : ∀ i ∈ l, i < 2 ^ h) (hu : Up l) (h0 : l ≠ []) : (trs h l (h + 1)).length = (hng h l).length + (frk h l).length + l.length ∧ (frk h l).length + 1 = l.length := by
  have a := fks_len hl h0 (d := h) (Nat.le_refl _)
  have b := hgs_len hl h0 (d := h) (Nat.le_refl _)
  have c := lvl_h_len hl hu
  rw [c] at a b
  have e : (trs h l (h + 1)).length = (trs h l h).length + l.length := by rw [trs, c]; simp
  simp only [List.length_map] at a b
  unfold hng frk; rw [if_neg h0]; omega
theorem lvl_le {h : Nat} {l : List Nat} (hl : ∀ i ∈ l, i < 2 ^ h) (hu : Up l) (d : Nat) (hd : d ≤ h) : (lvl h l d).length ≤ l.length ∧ (lvl h l d).length ≤ 2 ^ d := by
  constructor
  · have key : ∀ m d, d + m = h → (lvl h l d).length ≤ l.length := by
      intro m
      induction m with
      | zero => intro d e; simp at e; subst e; rw [lvl_h_len hl hu]; simp
      | succ m ih =>
        intro d e
        have := ih (d + 1) (by omega)
        have := len_lvl_fks hl (d := d) (by omega)
        omega
    exact key (h - d) d (by omega)
  · unfold lvl
    have := List.length_filter_le (inT h l) (List.range' (2 ^ d) (2 ^ d))
    simpa using this
theorem hng_bound {h : Nat} {l : List Nat} (hl : ∀ i ∈ l, i < 2 ^ h) (hu : Up l) (h0 : l ≠ []) : (hng h l).length ≤ l.length * (h - l.length.log2) ∧ l.length.log2 ≤ h := by
  have b := hgs_len hl h0 (d := h) (Nat.le_refl _)
  rw [lvl_h_len hl hu] at b
  have L0 : l.length ≠ 0 := by simpa using h0
  have lo := log2_lo L0
  have hk : l.length.log2 ≤ h := by
    have h1 := (lvl_le hl hu h (Nat.le_refl _)).2
    rw [lvl_h_len hl hu, List.length_map] at h1
    have := log2_hi l.length
    apply Decidable.byContradiction
    intro z
    have := pow_lt (show h < l.length.log2 by omega)
    omega
  have t1 : ∀ d, d ≤ l.length.log2 → (trs h l d).length + 1 ≤ 2 ^ d := by
    intro d
    induction d with
    | zero => intro _; simp [trs]
    | succ d ih =>
      intro hd
      have := ih (by omega)
      have := (lvl_le hl hu d (by omega)).2
      rw [trs, List.length_append, Nat.pow_succ]; omega
  have t2 : ∀ m, l.length.log2 + m ≤ h → (trs h l (l.length.log2 + m)).length + 1 ≤ l.length + l.length * m := by
    intro m
    induction m with
    | zero => intro _; have := t1 _ (Nat.le_refl _); simp only [Nat.add_zero, Nat.mul_zero]; omega
    | succ m ih =>
      intro hm
      have := ih (by omega)
      have := (lvl_le hl hu (l.length.log2 + m) (by omega)).1
      rw [← Nat.add_assoc, trs, List.length_append, Nat.mul_succ]; omega
  have := t2 (h - l.length.log2) (by omega)
  rw [show l.length.log2 + (h - l.length.log2) = h by omega] at this
  rw [List.length_map] at b
  unfold hng; rw [if_neg h0]
  exact ⟨by omega, hk⟩
def Fit (h : Nat) (s : Int) (i j : Nat) : Prop := (s = 1 ∨ s = 2) ∧ Sb h i j ∧ May h s i j
instance (h : Nat) (s : Int) (i j : Nat) : Decidable (Fit h s i j) := inferInstanceAs (Decidable (_ ∧ _))
theorem fit_may {h : Nat} {s : Int} {i j : Nat} (f : Fit h s i j) : (s = 1 ∧ j = 0) ∨ (s = 2 ∧ (j ≠ 0 ∨ i = 1)) := by
  rcases f.2.2 with z | z | z
  · exact .inl z
  · exact .inr z
  · exact absurd f.1 (by omega)
theorem fit_1 {h : Nat} {i : Nat} (d : Nd h i) : Fit h 1 i 0 := ⟨.inl rfl, ⟨d, .inl rfl⟩, .inl ⟨rfl, rfl⟩⟩
theorem fit_2 {h : Nat} {i j : Nat} (s : Sb h i j) (j0 : j ≠ 0) : Fit h 2 i j := ⟨.inr rfl, s, .inr (.inl ⟨rfl, .inl j0⟩)⟩
def hva (s : Int) (i j : Nat) : Nat × Nat := if s = 1 then (2 * i, 0) else if j = 0 then (1, 2) else if anc j (i.log2 + 1) = j then (sib j, 2 * sib j) else (i, anc j (i.log2 + 1))
def hvb (s : Int) (i j : Nat) : Nat × Nat := if s = 1 then (2 * i + 1, 0) else if j = 0 then (1, 3) else if anc j (i.log2 + 1) = j then (sib j, 2 * sib j + 1) else (anc j (i.log2 + 1), j)
def msr (h : Nat) (s : Int) (q : Nat × Nat) : Nat := if s = 1 then h - q.1.log2 else if q.2 = 0 then 2 * h + 1 else 2 * (h - q.1.log2) - (if q.2.log2 = q.1.log2 + 1 then 1 else 0)
theorem msr_le (h : Nat) (s : Int) (q : Nat × Nat) : msr h s q ≤ 2 * h + 1 := by unfold msr; (repeat' split) <;> omega
theorem msr_1 (h i j : Nat) : msr h 1 (i, j) = h - i.log2 := by unfold msr; rw [if_pos rfl]
theorem msr_0 (h i : Nat) : msr h 2 (i, 0) = 2 * h + 1 := by unfold msr; rw [if_neg (by omega), if_pos rfl]
theorem msr_j (h i : Nat) {j : Nat} (j0 : j ≠ 0) : msr h 2 (i, j) = 2 * (h - i.log2) - (if j.log2 = i.log2 + 1 then 1 else 0) := by unfold msr; rw [if_neg (by omega), if_neg j0]
theorem kid_abv {h n p : Nat} (n0 : n ≠ 0) (lt : n.log2 < h) (hp : p < 2 ^ h) : (Abv n (2 ^ h + p) ↔ Abv (2 * n) (2 ^ h + p) ∨ Abv (2 * n + 1) (2 ^ h + p)) ∧ ¬ (Abv (2 * n) (2 ^ h + p) ∧ Abv (2 * n + 1) (2 ^ h + p)) := by
  have x0 := leaf_ne h p
  have lx := leaf_log hp
  obtain ⟨a, b⟩ := abv_dbl n0
  obtain ⟨la, lb⟩ := log2_dbl n0
  refine ⟨⟨fun z => abv_child x0 z (by omega), fun z => z.elim (fun z => a.trans x0 z) (fun z => b.trans x0 z)⟩, fun ⟨y, z⟩ => ?_⟩
  have := (y.total x0 z (by omega)).eq_of_log2 (by omega)
  omega
theorem nd_kid {h n : Nat} (d : Nd h n) (lt : n.log2 < h) : Nd h (2 * n) ∧ Nd h (2 * n + 1) := by
  have n0 := d.2.2.1
  obtain ⟨la, lb⟩ := log2_dbl n0
  exact ⟨⟨d.1, d.2.1, by omega, by omega⟩, ⟨d.1, d.2.1, by omega, by omega⟩⟩
theorem sb_kid {h n : Nat} (d : Nd h n) (lt : n.log2 < h) : Sb h n (2 * n) ∧ Sb h n (2 * n + 1) := by
  have n0 := d.2.2.1
  obtain ⟨a, b⟩ := abv_dbl n0
  obtain ⟨da, db⟩ := nd_kid d lt
  exact ⟨⟨d, .inr ⟨da, by omega, a⟩⟩, ⟨d, .inr ⟨db, by omega, b⟩⟩⟩
theorem wd_kid {h n : Nat} (d : Nd h n) (lt : n.log2 < h) : wd h (2 * n) + wd h (2 * n + 1) = wd h n ∧ wd h (2 * n) = wd h (2 * n + 1) := by
  obtain ⟨la, lb⟩ := log2_dbl d.2.2.1
  unfold wd
  rw [la, lb, show h - n.log2 = (h - (n.log2 + 1)) + 1 by omega, Nat.pow_succ]
  omega
theorem tot_0 {h n : Nat} (d : Nd h n) : tot (spn h n 0) = wd h n := by have := spn_tot (h := h) (i := n) (j := 0) ⟨d, .inl rfl⟩; rw [if_pos rfl] at this; omega
theorem tot_j {h i j : Nat} (s : Sb h i j) (j0 : j ≠ 0) : tot (spn h i j) + wd h j = wd h i := by have := spn_tot s; rw [if_neg j0] at this; exact this
theorem wd_one {h n : Nat} (t : wd h n ≠ 1) : n.log2 < h := by
  rcases Nat.lt_or_ge n.log2 h with z | z
  · exact z
  · exact absurd (by unfold wd; rw [show h - n.log2 = 0 by omega]; try rfl) t
theorem in_0 {h n p : Nat} (d : Nd h n) (hp : p < 2 ^ h) : In h n 0 p ↔ Abv n (2 ^ h + p) := by rw [in_abv ⟨d, .inl rfl⟩ hp]; simp
theorem in_j {h i j p : Nat} (s : Sb h i j) (j0 : j ≠ 0) (hp : p < 2 ^ h) : In h i j p ↔ Abv i (2 ^ h + p) ∧ ¬ Abv j (2 ^ h + p) := by rw [in_abv s hp]; simp [j0]
def Hlv (h : Nat) (q a b : Nat × Nat) : Prop := (∀ p, p < 2 ^ h → (In h q.1 q.2 p ↔ In h a.1 a.2 p ∨ In h b.1 b.2 p) ∧ ¬ (In h a.1 a.2 p ∧ In h b.1 b.2 p)) ∧ tot (spn h a.1 a.2) + tot (spn h b.1 b.2) = tot (spn h q.1 q.2)
theorem hlv_kids {h n : Nat} (d : Nd h n) (lt : n.log2 < h) {q : Nat × Nat} (hq : ∀ p, p < 2 ^ h → (In h q.1 q.2 p ↔ Abv n (2 ^ h + p))) (ht : tot (spn h q.1 q.2) = wd h n) : Hlv h q (n, 2 * n) (n, 2 * n + 1) := by
  obtain ⟨sa, sb⟩ := sb_kid d lt
  have n0 := d.2.2.1
  have w := wd_kid d lt
  have ta := tot_j sa (by omega)
  have tb := tot_j sb (by omega)
  refine ⟨fun p hp => ?_, by show tot (spn h n (2 * n)) + tot (spn h n (2 * n + 1)) = _; rw [ht]; omega⟩
  have k := kid_abv n0 lt hp
  show (In h q.1 q.2 p ↔ In h n (2 * n) p ∨ In h n (2 * n + 1) p) ∧ ¬ (In h n (2 * n) p ∧ In h n (2 * n + 1) p)
  rw [hq p hp, in_j sa (by omega) hp, in_j sb (by omega) hp]
  generalize Abv n (2 ^ h + p) = A at *
  generalize Abv (2 * n) (2 ^ h + p) = B at *
  generalize Abv (2 * n + 1) (2 ^ h + p) = C at *
  obtain ⟨k1, k2⟩ := k
  by_cases b : B
  · by_cases c : C
    · exact absurd ⟨b, c⟩ k2
    · have a : A := k1.2 (.inl b)
      simp [a, b, c]
  · by_cases c : C
    · have a : A := k1.2 (.inr c)
      simp [a, b, c]
    · have a : ¬ A := fun z => (k1.1 z).elim b c
      simp [a, b, c]
theorem hv {h : Nat} {s : Int} {i j : Nat} (f : Fit h s i j) (t : tot (spn h i j) ≠ 1) : Fit h s (hva s i j).1 (hva s i j).2 ∧ Fit h s (hvb s i j).1 (hvb s i j).2 ∧ Hlv h (i, j) (hva s i j) (hvb s i j) ∧ msr h s (hva s i j) < msr h s (i, j) ∧ msr h s (hvb s i j) < msr h s (i, j) := by
  have sb := f.2.1
  have di := sb.1
  have i0 := di.2.2.1
  rcases fit_may f with ⟨rfl, rfl⟩ | ⟨rfl, fj⟩
  · have lt := wd_one (h := h) (n := i) (by rw [← tot_0 di]; exact t)
    obtain ⟨da, db⟩ := nd_kid di lt
    obtain ⟨la, lb⟩ := log2_dbl i0
    have w := wd_kid di lt
    have ea : hva 1 i 0 = (2 * i, 0) := rfl
    have eb : hvb 1 i 0 = (2 * i + 1, 0) := rfl
    rw [ea, eb]
    refine ⟨fit_1 da, fit_1 db, ⟨fun p hp => ?_, ?_⟩, ?_, ?_⟩
    · show (In h i 0 p ↔ In h (2 * i) 0 p ∨ In h (2 * i + 1) 0 p) ∧ ¬ (In h (2 * i) 0 p ∧ In h (2 * i + 1) 0 p)
      rw [in_0 di hp, in_0 da hp, in_0 db hp]
      exact kid_abv i0 lt hp
    · show tot (spn h (2 * i) 0) + tot (spn h (2 * i + 1) 0) = tot (spn h i 0)
      rw [tot_0 di, tot_0 da, tot_0 db]; exact w.1
    · rw [msr_1, msr_1]; omega
    · rw [msr_1, msr_1]; omega
  · by_cases j0 : j = 0
    · subst j0
      have i1 : i = 1 := fj.resolve_left (by omega)
      subst i1
      have lt : (1 : Nat).log2 < h := by rw [log2_one]; exact di.1
      obtain ⟨sa, sb'⟩ := sb_kid di lt
      obtain ⟨la, lb⟩ := log2_dbl i0
      have ea : hva 2 1 0 = (1, 2 * 1) := rfl
      have eb : hvb 2 1 0 = (1, 2 * 1 + 1) := rfl
      rw [ea, eb]
      refine ⟨fit_2 sa (by omega), fit_2 sb' (by omega), hlv_kids di lt (fun p hp => in_0 di hp) (tot_0 di), ?_, ?_⟩
      · rw [msr_0, msr_j _ _ (by omega)]; omega
      · rw [msr_0, msr_j _ _ (by omega)]; omega
    · obtain ⟨dj, ne, ab⟩ := sb.2.resolve_left j0
      have lij : i.log2 < j.log2 := by
        rcases Nat.lt_or_ge i.log2 j.log2 with z | z
        · exact z
        · exact absurd (ab.eq_of_log2 (by have := ab.1; omega)) ne
      have lc := anc_log2 dj.2.2.1 (show i.log2 + 1 ≤ j.log2 by omega)
      by_cases c : anc j (i.log2 + 1) = j
      · have lj : j.log2 = i.log2 + 1 := by rw [c] at lc; exact lc
        have ltj : j.log2 < h := by
          have tj := tot_j sb j0
          refine wd_one (fun z => t ?_)
          have : wd h i = 2 * wd h j := by
            unfold wd; rw [lj, show h - i.log2 = (h - (i.log2 + 1)) + 1 by have := dj.2.2.2; omega, Nat.pow_succ]; omega
          omega
        have j2 : 2 ≤ j := by
          have := log2_lo dj.2.2.1
          have := pow_mono (show 1 ≤ j.log2 by omega)
          omega
        have jh : j / 2 = i := by
          have l2 := log2_half j2
          have := (abv_half j2).total dj.2.2.1 ab (by omega)
          exact this.eq_of_log2 (by omega)
        have lo := sib_log2 j2
        have s2 := sib_pos j2
        have ds : Nd h (sib j) := ⟨dj.1, dj.2.1, by omega, by have := dj.2.2.2; omega⟩
        have lt : (sib j).log2 < h := by omega
        obtain ⟨sa, sb'⟩ := sb_kid ds lt
        obtain ⟨la, lb⟩ := log2_dbl ds.2.2.1
        have ea : hva 2 i j = (sib j, 2 * sib j) := by unfold hva; rw [if_neg (by omega), if_neg j0, if_pos c]
        have eb : hvb 2 i j = (sib j, 2 * sib j + 1) := by unfold hvb; rw [if_neg (by omega), if_neg j0, if_pos c]
        have tj := tot_j sb j0
        rw [ea, eb]
        have wsj : wd h (sib j) = wd h j := by unfold wd; rw [lo]
        have wi : wd h i = 2 * wd h j := by
          unfold wd; rw [lj, show h - i.log2 = (h - (i.log2 + 1)) + 1 by have := dj.2.2.2; omega, Nat.pow_succ]; omega
        refine ⟨fit_2 sa (by omega), fit_2 sb' (by omega), hlv_kids ds lt (fun p hp => ?_) ?_, ?_, ?_⟩
        · rw [in_j sb j0 hp]
          have k := kid_abv i0 (show i.log2 < h by omega) hp
          have cs : (j = 2 * i ∧ sib j = 2 * i + 1) ∨ (j = 2 * i + 1 ∧ sib j = 2 * i) := by
            rw [sib_eq]
            rcases Nat.mod_two_eq_zero_or_one j with z | z
            · left; rw [if_pos z]; omega
            · right; rw [if_neg (by omega)]; omega
          rcases cs with ⟨e1, e2⟩ | ⟨e1, e2⟩
          · rw [e2, e1]
            exact ⟨fun z => (k.1.1 z.1).resolve_left z.2, fun z => ⟨k.1.2 (.inr z), fun y => k.2 ⟨y, z⟩⟩⟩
          · rw [e2, e1]
            exact ⟨fun z => (k.1.1 z.1).resolve_right z.2, fun z => ⟨k.1.2 (.inl z), fun y => k.2 ⟨z, y⟩⟩⟩
        · show tot (spn h i j) = _
          omega
        · rw [msr_j _ _ j0, msr_j _ _ (by omega), if_pos lj, if_pos la]; omega
        · rw [msr_j _ _ j0, msr_j _ _ (by omega), if_pos lj, if_pos lb]; omega
      · have c0 := anc_ne (d := i.log2 + 1) dj.2.2.1
        have ac := abv_anc dj.2.2.1 (show i.log2 + 1 ≤ j.log2 by omega)
        have ai : Abv i (anc j (i.log2 + 1)) := ab.total dj.2.2.1 ac (by omega)
        have dc : Nd h (anc j (i.log2 + 1)) := ⟨di.1, di.2.1, c0, by have := dj.2.2.2; omega⟩
        have lne : j.log2 ≠ i.log2 + 1 := fun z => c (by rw [← z, anc_self])
        have s1 : Sb h i (anc j (i.log2 + 1)) := ⟨di, .inr ⟨dc, fun e => by rw [← e] at lc; omega, ai⟩⟩
        have s2 : Sb h (anc j (i.log2 + 1)) j := ⟨dc, .inr ⟨dj, c, ac⟩⟩
        have ea : hva 2 i j = (i, anc j (i.log2 + 1)) := by unfold hva; rw [if_neg (by omega), if_neg j0, if_neg c]
        have eb : hvb 2 i j = (anc j (i.log2 + 1), j) := by unfold hvb; rw [if_neg (by omega), if_neg j0, if_neg c]
        rw [ea, eb]
        refine ⟨fit_2 s1 c0, fit_2 s2 j0, ⟨fun p hp => ?_, two_tot s1 s2 c0 j0⟩, ?_, ?_⟩
        · show (In h i j p ↔ In h i (anc j (i.log2 + 1)) p ∨ In h (anc j (i.log2 + 1)) j p) ∧ ¬ (In h i (anc j (i.log2 + 1)) p ∧ In h (anc j (i.log2 + 1)) j p)
          rcases two_in s1 s2 c0 j0 p with ⟨a, b, d⟩ | ⟨a, b, d⟩ | ⟨a, b, d⟩ <;> simp [a, b, d]
        · have := dj.2.2.2
          rw [msr_j _ _ c0, msr_j _ _ j0, if_pos lc, if_neg lne]; omega
        · have := dj.2.2.2
          rw [msr_j _ _ j0, msr_j _ _ j0, if_neg lne]; split <;> omega
def lof (h i j : Nat) : Nat := ((spn h i j).headD (0, 0)).1
theorem spn_one {h i j : Nat} (s : Sb h i j) : ((spn h i j).length = 1 ∧ ((spn h i j).headD (0, 0)).1 = ((spn h i j).headD (0, 0)).2) ↔ tot (spn h i j) = 1 := by
  have hr := spn_rise s
  match h' : spn h i j, hr with
  | [], hr => simp [tot]
  | [x], hr =>
    have := hr.1
    simp [tot]
    have := Rise.at hr (i := 0) (by simp)
    simp at this
    omega
  | x :: y :: l, hr =>
    simp [tot]
    have a := Rise.at hr (i := 0) (by simp)
    have b := Rise.at hr (i := 1) (by simp)
    simp at a b
    omega
theorem one_in {h i j : Nat} (s : Sb h i j) (t : tot (spn h i j) = 1) {p : Nat} : In h i j p ↔ p = lof h i j := by
  obtain ⟨l1, e⟩ := (spn_one s).2 t
  rw [← mem_spn s]
  unfold lof
  match h' : spn h i j, l1 with
  | [x], _ =>
    rw [h'] at e
    simp at e ⊢
    omega
theorem lof_in {h i j : Nat} (s : Sb h i j) : In h i j (lof h i j) := by
  rw [← mem_spn s]
  have hr := spn_rise s
  have ne : spn h i j ≠ [] := fun z => by
    have t := spn_tot s
    rw [z] at t
    by_cases j0 : j = 0
    · rw [if_pos j0] at t; have := wd_pos h i; simp [tot] at t; omega
    · rw [if_neg j0] at t; have := wd_lt s j0; simp [tot] at t; omega
  unfold lof
  match h' : spn h i j, ne with
  | x :: l, _ =>
    rw [h'] at hr
    have a := Rise.at hr (i := 0) (by simp)
    simp at a
    exact ⟨x, by simp, by simp, by simp; omega⟩
def ints (l : List Nat) : List Int := l.map Int.ofNat
theorem ints_len (l : List Nat) : (ints l).length = l.length := by simp [ints]
theorem ints_rd {l : List Nat} {i : Nat} (h : i < l.length) : rd (ints l) (i : Int) = ((l[i] : Nat) : Int) := by
  unfold rd ints
  simp [List.getD_eq_getElem?_getD, h]
set_option maxRecDepth 100000 in
theorem len8_all : ∀ i : Fin 256, bt (⟨#[0, 1, 2, 2, 3, 3, 3, 3, 4, 4, 4, 4, 4, 4, 4, 4, 5, 5, 5, 5, 5, 5, 5, 5, 5, 5, 5, 5, 5, 5, 5, 5, 6, 6, 6, 6, 6, 6, 6, 6, 6, 6, 6, 6, 6, 6, 6, 6, 6, 6, 6, 6, 6, 6, 6, 6, 6, 6, 6, 6, 6, 6, 6, 6, 7, 7, 7, 7, 7, 7, 7, 7, 7, 7, 7, 7, 7, 7, 7, 7, 7, 7, 7, 7, 7, 7, 7, 7, 7, 7, 7, 7, 7, 7, 7, 7, 7, 7, 7, 7, 7, 7, 7, 7, 7, 7, 7, 7, 7, 7, 7, 7, 7, 7, 7, 7, 7, 7, 7, 7, 7, 7, 7, 7, 7, 7, 7, 7, 8, 8, 8, 8, 8, 8, 8, 8, 8, 8, 8, 8, 8, 8, 8, 8, 8, 8, 8, 8, 8, 8, 8, 8, 8, 8, 8, 8, 8, 8, 8, 8, 8, 8, 8, 8, 8, 8, 8, 8, 8, 8, 8, 8, 8, 8, 8, 8, 8, 8, 8, 8, 8, 8, 8, 8, 8, 8, 8, 8, 8, 8, 8, 8, 8, 8, 8, 8, 8, 8, 8, 8, 8, 8, 8, 8, 8, 8, 8, 8, 8, 8, 8, 8, 8, 8, 8, 8, 8, 8, 8, 8, 8, 8, 8, 8, 8, 8, 8, 8, 8, 8, 8, 8, 8, 8, 8, 8, 8, 8, 8, 8, 8, 8, 8, 8, 8, 8, 8, 8, 8, 8, 8, 8, 8, 8, 8, 8]⟩ : ByteArray) (i.val : Int) = (sz i.val : Int) := by decide +kernel
set_option maxRecDepth 100000 in
theorem len8 {i : Nat} (h : i < 256) : bt (⟨#[0, 1, 2, 2, 3, 3, 3, 3, 4, 4, 4, 4, 4, 4, 4, 4, 5, 5, 5, 5, 5, 5, 5, 5, 5, 5, 5, 5, 5, 5, 5, 5, 6, 6, 6, 6, 6, 6, 6, 6, 6, 6, 6, 6, 6, 6, 6, 6, 6, 6, 6, 6, 6, 6, 6, 6, 6, 6, 6, 6, 6, 6, 6, 6, 7, 7, 7, 7, 7, 7, 7, 7, 7, 7, 7, 7, 7, 7, 7, 7, 7, 7, 7, 7, 7, 7, 7, 7, 7, 7, 7, 7, 7, 7, 7, 7, 7, 7, 7, 7, 7, 7, 7, 7, 7, 7, 7, 7, 7, 7, 7, 7, 7, 7, 7, 7, 7, 7, 7, 7, 7, 7, 7, 7, 7, 7, 7, 7, 8, 8, 8, 8, 8, 8, 8, 8, 8, 8, 8, 8, 8, 8, 8, 8, 8, 8, 8, 8, 8, 8, 8, 8, 8, 8, 8, 8, 8, 8, 8, 8, 8, 8, 8, 8, 8, 8, 8, 8, 8, 8, 8, 8, 8, 8, 8, 8, 8, 8, 8, 8, 8, 8, 8, 8, 8, 8, 8, 8, 8, 8, 8, 8, 8, 8, 8, 8, 8, 8, 8, 8, 8, 8, 8, 8, 8, 8, 8, 8, 8, 8, 8, 8, 8, 8, 8, 8, 8, 8, 8, 8, 8, 8, 8, 8, 8, 8, 8, 8, 8, 8, 8, 8, 8, 8, 8, 8, 8, 8, 8, 8, 8, 8, 8, 8, 8, 8, 8, 8, 8, 8, 8, 8, 8, 8, 8, 8]⟩ : ByteArray) (i : Int) = (sz i : Int) := len8_all ⟨i, h⟩
set_option maxRecDepth 100000 in
theorem len64_j (k n c : Nat) (hn : n < 4294967296) (hc : c ≤ 32) : bits_Len64.j0 (k + 1) (n : Int) (c : Int) = some ((c + sz n : Nat) : Int) := by
  have h32 : sz n ≤ 32 := sz_le hn
  simp only [bits_Len64.j0]
  by_cases h1 : 65536 ≤ n
  · have e1 := sz_div (n := n) (k := 16) h1
    rw [if_pos (by omega)]
    by_cases h2 : 256 ≤ n / 65536
    · have e2 := sz_div (n := n / 65536) (k := 8) h2
      have i1 : n / 65536 / 256 < 256 := by omega
      have e3 : ((n : Int) / 65536 / 256) % 256 = ((n / 65536 / 256 : Nat) : Int) := by omega
      rw [if_pos (by omega), e3, if_pos (by omega), if_pos (by omega), len8 i1]
      have e1' : sz n = sz (n / 65536) + 16 := e1
      have e2' : sz (n / 65536) = sz (n / 65536 / 256) + 8 := e2
      rw [w64 (x := (c : Int) + 16) (by omega) (by omega), w64 (x := (c : Int) + 16 + 8) (by omega) (by omega), w64 (x := (sz (n / 65536 / 256) : Int)) (by omega) (by omega), w64 (by omega) (by omega)]
      congr 1; omega
    · have i1 : n / 65536 < 256 := by omega
      have e3 : ((n : Int) / 65536) % 256 = ((n / 65536 : Nat) : Int) := by omega
      have e1' : sz n = sz (n / 65536) + 16 := e1
      rw [if_neg (by omega), e3, if_pos (by omega), if_pos (by omega), len8 i1]
      rw [w64 (x := (c : Int) + 16) (by omega) (by omega), w64 (x := (sz (n / 65536) : Int)) (by omega) (by omega), w64 (by omega) (by omega)]
      congr 1; omega
  · rw [if_neg (by omega)]
    by_cases h2 : 256 ≤ n
    · have e2 : sz n = sz (n / 256) + 8 := sz_div (n := n) (k := 8) h2
      have i1 : n / 256 < 256 := by omega
      have e3 : ((n : Int) / 256) % 256 = ((n / 256 : Nat) : Int) := by omega
      rw [if_pos (by omega), e3, if_pos (by omega), if_pos (by omega), len8 i1]
      rw [w64 (x := (c : Int) + 8) (by omega) (by omega), w64 (x := (sz (n / 256) : Int)) (by omega) (by omega), w64 (by omega) (by omega)]
      congr 1; omega
    · have e3 : (n : Int) % 256 = (n : Int) := by omega
      rw [if_neg (by omega), e3, if_pos (by omega), if_pos (by omega), len8 (by omega)]
      rw [w64 (x := (sz n : Int)) (by omega) (by omega), w64 (by omega) (by omega)]
      congr 1
theorem len64 {n : Nat} (hn : n < 18446744073709551616) (k : Nat) : bits_Len64.f (k + 1) (n : Int) = some (sz n : Int) := by
  unfold bits_Len64.f
  by_cases h : 4294967296 ≤ n
  · have e : sz n = sz (n / 4294967296) + 32 := sz_div (n := n) (k := 32) h
    have := len64_j k (n / 4294967296) 32 (by omega) (by omega)
    rw [if_pos (by omega), show (n : Int) / 4294967296 = ((n / 4294967296 : Nat) : Int) by omega, show (32 : Int) = ((32 : Nat) : Int) by rfl, this]
    congr 2; omega
  · have := len64_j k n 0 (by omega) (by omega)
    rw [if_neg (by omega), show (0 : Int) = ((0 : Nat) : Int) by rfl, this]
    simp
theorem depth_eq {n : Nat} (h0 : n ≠ 0) (hn : n < 18446744073709551616) (k : Nat) : node_depth.f (k + 1) (n : Int) = some (n.log2 : Int) := by
  have := sz_le (k := 64) hn
  unfold node_depth.f
  rw [len64 hn]; simp only [Option.bind_some]
  rw [w64 (by omega) (by omega)]
  unfold sz; rw [if_neg h0]; congr 1; omega
theorem high_eq (h : Int) : node_high.f h = some (decide (Hi h)) := by
  unfold node_high.f
  by_cases h1 : h ≥ 1
  · rw [if_pos h1]; congr 1; rw [decide_eq_decide, hi_iff]; omega
  · rw [if_neg h1]; congr 1; symm; rw [decide_eq_false_iff_not, hi_iff]; omega
theorem check_eq (h : Int) {n : Nat} (hn : n < 18446744073709551616) (k : Nat) : node_Check.f (k + 1) h (n : Int) = some (if Nd h.toNat n then 0 else 1) := by
  unfold node_Check.f
  rw [high_eq]; simp only [Option.bind_some]
  by_cases h1 : Hi h
  · rw [decide_eq_true h1, if_pos rfl]
    rw [hi_iff] at h1
    by_cases h2 : n = 0
    · rw [if_pos (by omega), if_neg (by rw [nd_iff]; omega)]
    · rw [if_neg (by omega), depth_eq h2 hn]; simp only [Option.bind_some]
      by_cases h3 : (n.log2 : Int) > h
      · rw [if_pos h3, if_neg (by rw [nd_iff]; omega)]
      · rw [if_neg h3, if_pos (by rw [nd_iff]; omega)]
  · rw [decide_eq_false h1, if_neg (by simp), if_neg (by rw [nd_iff]; rw [hi_iff] at h1; omega)]
theorem both_eq (h : Int) {a b : Nat} (ha : a < 18446744073709551616) (hb : b < 18446744073709551616) (k : Nat) :
    node_both.f (k + 1) h (a : Int) (b : Int) = some (if Nd h.toNat a ∧ Nd h.toNat b then 0 else 1) := by
  unfold node_both.f
  rw [check_eq h ha, check_eq h hb]; simp only [Option.bind_some]
  by_cases h1 : Nd h.toNat a <;> by_cases h2 : Nd h.toNat b <;> simp [h1, h2]
theorem shr_eq (n : Nat) {k : Nat} (hk : k ≤ 64) : shr .u64 (n : Int) (k : Int) = ((n / 2 ^ k : Nat) : Int) := by
  unfold shr
  have : min ((k : Int)).toNat (IntKind.bits .u64) = k := by
    show min ((k : Int)).toNat 64 = k
    omega
  rw [this]; push_cast; rfl
theorem above_eq {a b : Nat} (ha0 : a ≠ 0) (hb0 : b ≠ 0) (ha : a < 18446744073709551616) (hb : b < 18446744073709551616) (k : Nat) :
    node_above.f (k + 1) (a : Int) (b : Int) = some (decide (Abv a b)) := by
  have h1 := log2_64 ha
  have h2 := log2_64 hb
  unfold node_above.f
  rw [depth_eq ha0 ha, depth_eq hb0 hb]; simp only [Option.bind_some]
  unfold Abv anc
  by_cases h : a.log2 ≤ b.log2
  · rw [if_pos (by omega), w64 (by omega) (by omega), if_pos (by omega), show ((b.log2 : Int) - a.log2) = ((b.log2 - a.log2 : Nat) : Int) by omega, shr_eq _ (by omega)]
    congr 1
    simp only [h, true_and]
    by_cases e : b / 2 ^ (b.log2 - a.log2) = a
    · rw [decide_eq_true e, e]; simp
    · rw [decide_eq_false e, beq_eq_false_iff_ne]; omega
  · rw [if_neg (by omega)]; congr 1; simp [h]
theorem Above_eq (h : Int) {a b : Nat} (ha : a < 18446744073709551616) (hb : b < 18446744073709551616) (k : Nat) :
    node_Above.f (k + 1) h (a : Int) (b : Int) = some (if Nd h.toNat a ∧ Nd h.toNat b then (decide (Abv a b), 0) else (false, 1)) := by
  unfold node_Above.f
  rw [both_eq h ha hb]; simp only [Option.bind_some]
  by_cases h1 : Nd h.toNat a ∧ Nd h.toNat b
  · rw [if_pos h1, if_pos rfl, above_eq h1.1.2.2.1 h1.2.2.2.1 ha hb, if_pos h1]; rfl
  · rw [if_neg h1, if_neg (by omega), if_neg h1]
theorem Depth_eq (h : Int) {n : Nat} (hn : n < 18446744073709551616) (k : Nat) : node_Depth.f (k + 1) h (n : Int) = some (if Nd h.toNat n then ((n.log2 : Int), 0) else (0, 1)) := by
  unfold node_Depth.f
  rw [check_eq h hn]; simp only [Option.bind_some]
  by_cases h1 : Nd h.toNat n
  · rw [if_pos h1, if_pos rfl, depth_eq h1.2.2.1 hn, if_pos h1]; rfl
  · rw [if_neg h1, if_neg (by omega), if_neg h1]
theorem Up_eq (h : Int) {n : Nat} (hn : n < 18446744073709551616) (d : Int) (k : Nat) :
    node_Up.f (k + 1) h (n : Int) d = some (if Nd h.toNat n then (if 0 ≤ d ∧ d ≤ n.log2 then ((anc n d.toNat : Int), 0) else (0, 4)) else (0, 1)) := by
  have h2 := log2_64 hn
  unfold node_Up.f
  rw [check_eq h hn]; simp only [Option.bind_some]
  by_cases h1 : Nd h.toNat n
  · rw [if_pos h1, if_pos rfl, if_pos h1]
    by_cases h3 : d < 0
    · rw [if_pos h3, if_neg (by omega)]
    · rw [if_neg h3, depth_eq h1.2.2.1 hn]; simp only [Option.bind_some]
      by_cases h4 : d > n.log2
      · rw [if_pos h4, if_neg (by omega)]
      · rw [if_neg h4, w64 (by omega) (by omega), if_pos (by omega), if_pos (by omega), show ((n.log2 : Int) - d) = ((n.log2 - d.toNat : Nat) : Int) by omega, shr_eq _ (by omega)]
        rfl
  · rw [if_neg h1, if_neg (by omega), if_neg h1]
theorem sCheck_eq (h : Int) {i j : Nat} (hi : i < 18446744073709551616) (hj : j < 18446744073709551616) (k : Nat) :
    sub_Check.f (k + 1) h (i : Int) (j : Int) = some (if Sb h.toNat i j then 0 else 1) := by
  unfold sub_Check.f
  by_cases h0 : j = 0
  · subst h0
    rw [if_pos (by rfl), check_eq h hi]; simp only [Option.bind_some]
    by_cases h1 : Nd h.toNat i
    · rw [if_pos h1, if_pos ⟨h1, .inl rfl⟩]
    · rw [if_neg h1, if_neg (fun z => h1 z.1)]
  · rw [if_neg (by omega), Above_eq h hi hj]; simp only [Option.bind_some]
    by_cases h1 : Nd h.toNat i ∧ Nd h.toNat j
    · rw [if_pos h1]; simp only [if_true]
      by_cases h2 : Abv i j
      · rw [decide_eq_true h2, if_pos rfl]
        by_cases h3 : i = j
        · rw [if_pos (by omega), if_neg (by rintro ⟨_, z | ⟨_, z, _⟩⟩ <;> omega)]
        · rw [if_neg (by omega), if_pos ⟨h1.1, .inr ⟨h1.2, h3, h2⟩⟩]
      · rw [decide_eq_false h2, if_neg (by simp), if_neg (fun z => z.2.elim (fun y => h0 y) (fun y => h2 y.2.2))]
    · rw [if_neg h1, if_neg (by simp), if_neg (fun z => z.2.elim (fun y => h0 y) (fun y => h1 ⟨z.1, y.1⟩))]
theorem checkRoot_eq (h : Int) (k : Nat) : node_Check.f (k + 1) h 1 = some (if Hi h then 0 else 1) := by
  have := check_eq h root_lt k
  rw [show ((1 : Nat) : Int) = 1 by rfl] at this
  rw [this]
  by_cases h1 : Hi h
  · rw [if_pos h1, if_pos ((nd_root' h).2 h1)]
  · rw [if_neg h1, if_neg (fun z => h1 ((nd_root' h).1 z))]
theorem stepL_eq : ∀ h : Fin 33, 1 ≤ h.val → sub_Step.l0 8 (h.val : Int) 1 = some ((stp h.val : Int), 0) := by decide +kernel
theorem Step_eq (h : Int) {k : Nat} (hk : 10 ≤ k) : sub_Step.f k h = some (if Hi h then ((stp h.toNat : Int), 0) else (0, 1)) := by
  obtain ⟨k, rfl⟩ : ∃ m, k = m + 1 := ⟨k - 1, by omega⟩
  unfold sub_Step.f
  rw [checkRoot_eq]; simp only [Option.bind_some]
  by_cases h1 : Hi h
  · rw [if_pos h1, if_pos rfl, if_pos h1]
    rw [hi_iff] at h1
    have := stepL_eq ⟨h.toNat, by omega⟩ (by show 1 ≤ h.toNat; omega)
    have e : ((h.toNat : Nat) : Int) = h := by omega
    simp only [e] at this
    exact at_rounds (g := fun k => sub_Step.l0 k h 1) (fun k => (sub_Step.mono_l k) _ _) (show 8 ≤ k + 1 by omega) this
  · rw [if_neg h1, if_neg (by omega), if_neg h1]
theorem mn_cast (a b : Nat) : mn (a : Int) (b : Int) = ((min a b : Nat) : Int) := by unfold mn; split <;> omega
theorem nxt_cast (h i : Nat) (hi : i ≤ 32) (hh : h ≤ 32) : mn (wrap64 (wrap64 (wrap64 (Int.tdiv (i : Int) (stp h : Int)) + 1) * (stp h : Int))) (h : Int) = (nxt h i : Int) := by
  obtain ⟨s0, s1⟩ := stp_pos h
  have hd : i / stp h ≤ 32 := Nat.le_trans (Nat.div_le_self _ _) hi
  have hm : (i / stp h + 1) * stp h ≤ 33 * 6 := Nat.mul_le_mul (by omega) s1
  rw [Int.tdiv_eq_ediv_of_nonneg (by omega), ← Int.natCast_ediv]
  unfold nxt
  generalize i / stp h = r at hd hm
  rw [w64 (x := (r : Int)) (by omega) (by omega), show (r : Int) + 1 = ((r + 1 : Nat) : Int) by omega, w64 (x := ((r + 1 : Nat) : Int)) (by omega) (by omega), ← Int.natCast_mul]
  generalize (r + 1) * stp h = q at hm
  rw [w64 (by omega) (by omega), mn_cast]
theorem depths_eq {h i j : Nat} (hs : Sb h i j) (hj : j < 18446744073709551616) {k : Nat} (hk : 10 ≤ k) :
    sub_depths.f k (h : Int) (i : Int) (j : Int) = some ((i.log2 : Int), (if j = 0 then 0 else (j.log2 : Int)), (nxt h i.log2 : Int), decide (Spc h i.log2), 0) := by
  obtain ⟨hi, hj'⟩ := hs
  have hl := hi.2.2.2
  have h32 := hi.2.1
  obtain ⟨s0, s1⟩ := stp_pos h
  have hilt := hi.lt33
  have hH : Hi (h : Int) := by rw [hi_iff]; have := hi.1; omega
  have hsp : ∀ (b : Bool), b = decide ((i.log2 : Int) = h) → (if ((i.log2 % stp h : Nat) : Int) = 0 then true else b) = decide (Spc h i.log2) := by
    intro b hb
    by_cases c : i.log2 % stp h = 0
    · rw [if_pos (by omega)]; symm; rw [decide_eq_true_iff]; exact .inl c
    · rw [if_neg (by omega), hb, decide_eq_decide, spc_iff]; omega
  have hbe : (((i.log2 : Int)) == (h : Int)) = decide ((i.log2 : Int) = h) := by
    by_cases c : (i.log2 : Int) = h
    · rw [decide_eq_true c]; simp [c]
    · rw [decide_eq_false c]; simp [c]
  obtain ⟨k, rfl⟩ : ∃ m, k = m + 1 := ⟨k - 1, by omega⟩
  unfold sub_depths.f
  rw [Step_eq _ (by omega), if_pos hH]; simp only [Option.bind_some, Int.toNat_natCast]
  rw [if_pos trivial, Depth_eq _ (by omega), Int.toNat_natCast, if_pos hi]; simp only [Option.bind_some]
  rw [if_pos trivial]
  by_cases h0 : j = 0
  · subst h0
    rw [if_pos (by rfl), if_neg (by omega), nxt_cast h i.log2 (by omega) h32, tmod_cast]
    simp only [if_true]
    rw [← hsp _ hbe]
    split <;> simp
  · obtain ⟨hj1, _, _⟩ := hj'.resolve_left h0
    rw [if_neg (by omega), Depth_eq _ hj, Int.toNat_natCast, if_pos hj1]; simp only [Option.bind_some]
    rw [if_neg (by omega), nxt_cast h i.log2 (by omega) h32, tmod_cast, if_neg h0]
    rw [← hsp _ hbe]
    split <;> simp
theorem Useful_eq (h : Int) {i j : Nat} (hi : i < 18446744073709551616) (hj : j < 18446744073709551616) {k : Nat} (hk : 10 ≤ k) :
    sub_Useful.f k h (i : Int) (j : Int) = some (if Sb h.toNat i j then (decide (Usf h.toNat i j), 0) else (false, 1)) := by
  obtain ⟨k, rfl⟩ : ∃ m, k = m + 1 := ⟨k - 1, by omega⟩
  unfold sub_Useful.f
  rw [sCheck_eq h hi hj]; simp only [Option.bind_some]
  by_cases h1 : Sb h.toNat i j
  · have e := sb_h h1
    rw [if_pos h1, if_pos rfl, if_pos h1]
    by_cases h0 : j = 0
    · subst h0
      rw [if_pos (by rfl)]; congr 2
      by_cases c : i = 1
      · rw [decide_eq_true ((usf_0 _ _).2 c), c]; rfl
      · rw [decide_eq_false (fun z => c ((usf_0 _ _).1 z)), beq_eq_false_iff_ne]; omega
    · have := depths_eq h1 hj (k := k + 1) (by omega)
      rw [e] at this
      rw [if_neg (by omega), this]; simp only [Option.bind_some, if_true]
      rw [if_neg h0]
      have hu := usf_j h.toNat i h0
      by_cases c : Spc h.toNat i.log2
      · rw [decide_eq_true c, if_pos rfl, decide_eq_true (hu.2 (.inl c))]
      · rw [decide_eq_false c, if_neg (by simp)]; congr 2; rw [decide_eq_decide, hu]
        constructor
        · intro z; right; omega
        · rintro (z | z)
          · exact absurd z c
          · omega
  · rw [if_neg h1, if_neg (by omega), if_neg h1]
def sbs (l : List (Nat × Nat)) : List S24 := l.map fun p => ⟨(p.1 : Int), (p.2 : Int)⟩
theorem spl_len (h i j : Nat) : (sbs (spl h i j)).length ≤ 2 := by unfold spl sbs; split <;> simp
theorem Split_eq (h : Int) {i j : Nat} (hi : i < 18446744073709551616) (hj : j < 18446744073709551616) {k : Nat} (hk : 10 ≤ k) :
    sub_Split.f k h (i : Int) (j : Int) = some (if Sb h.toNat i j then (sbs (spl h.toNat i j), 0) else ([], 1)) := by
  obtain ⟨k, rfl⟩ : ∃ m, k = m + 1 := ⟨k - 1, by omega⟩
  unfold sub_Split.f
  rw [Useful_eq h hi hj (by omega)]; simp only [Option.bind_some]
  by_cases h1 : Sb h.toNat i j
  · have e := sb_h h1
    rw [if_pos h1, if_pos h1]; simp only [if_true]
    by_cases c : Usf h.toNat i j
    · rw [decide_eq_true c, if_pos rfl]
      unfold spl; rw [if_pos (.inl c)]; rfl
    · rw [decide_eq_false c, if_neg (by simp)]
      by_cases h0 : j = 0
      · unfold spl; rw [if_pos (by omega), if_pos (.inr h0)]; rfl
      · have hd := depths_eq h1 hj (k := k + 1) (by omega)
        rw [e] at hd
        have hn : ¬ (Spc h.toNat i.log2 ∨ j.log2 ≤ nxt h.toNat i.log2) := fun z => c ((usf_j _ _ h0).2 z)
        have hn2 : ¬ (j.log2 ≤ nxt h.toNat i.log2) := fun z => hn (.inr z)
        have hjn := ((h1.2).resolve_left h0).1
        rw [if_neg (by omega), hd]; simp only [Option.bind_some, if_true]
        rw [Up_eq h hj, if_pos hjn, if_pos (by omega)]; simp only [Option.bind_some, Int.toNat_natCast]
        unfold spl; rw [if_neg (fun z => z.elim c h0)]; rfl
  · rw [if_neg h1, if_neg (by simp), if_neg h1]
theorem shl_eq {n k : Nat} (hk : k ≤ 64) (hb : n * 2 ^ k < 18446744073709551616) : shl .u64 (n : Int) (k : Int) = ((n * 2 ^ k : Nat) : Int) := by
  unfold shl
  have : min ((k : Int)).toNat (IntKind.bits .u64) = k := by
    show min ((k : Int)).toNat 64 = k
    omega
  have e : (n : Int) * 2 ^ k = ((n * 2 ^ k : Nat) : Int) := by push_cast; rfl
  rw [this, e, wu64 (by omega) (by omega)]
theorem nLeaves_eq (h : Int) {n : Nat} (hn : n < 18446744073709551616) (k : Nat) :
    node_Leaves.f (k + 1) h (n : Int) = some (if Nd h.toNat n then ((lo h.toNat n : Int), (hi h.toNat n : Int), 0) else (0, 0, 1)) := by
  unfold node_Leaves.f
  rw [check_eq h hn]; simp only [Option.bind_some]
  by_cases h1 : Nd h.toNat n
  · have hh := h1
    rw [nd_iff] at hh
    have e : ((h.toNat : Nat) : Int) = h := by omega
    rw [if_pos h1, if_pos rfl, if_pos h1, depth_eq h1.2.2.1 hn]; simp only [Option.bind_some]
    generalize hH : h.toNat = H at *
    subst e
    have hlf := lf_ge h1.2.2.1 h1.2.2.2
    have hrt := rt_le (h := H) (n := n) h1.2.2.2
    have hlr := lf_lt_rt H n
    have hp33 : 2 ^ (H + 1) ≤ 8589934592 := pow_le_32 (by omega)
    have hpH : 2 ^ H ≤ 4294967296 := pow_le_h (by omega)
    have hpw : 2 ^ (H - n.log2) ≤ 4294967296 := pow_le_h (by omega)
    have hre := rt_eq H n
    rw [w64 (x := (H : Int) - n.log2) (by omega) (by omega), show (H : Int) - n.log2 = ((H - n.log2 : Nat) : Int) by omega, if_pos (by omega), if_pos (by omega)]
    have e1 : shl .u64 (n : Int) ((H - n.log2 : Nat) : Int) = (lf H n : Int) := shl_eq (by omega) (show lf H n < _ by omega)
    have e2 : shl .u64 1 (H : Int) = ((2 ^ H : Nat) : Int) := by
      have := shl_eq (n := 1) (k := H) (by omega) (by omega)
      rw [Nat.one_mul] at this; exact this
    have e3 : shl .u64 1 ((H - n.log2 : Nat) : Int) = ((2 ^ (H - n.log2) : Nat) : Int) := by
      have := shl_eq (n := 1) (k := H - n.log2) (by omega) (by omega)
      rw [Nat.one_mul] at this; exact this
    rw [e1, e2, e3]
    have f1 : (lf H n : Int) - ((2 ^ H : Nat) : Int) = (lo H n : Int) := by unfold lo; omega
    rw [f1]
    have g1 : lo H n < 8589934592 := by unfold lo; omega
    have g2 := hi_eq h1
    unfold wd at g2
    rw [wu64 (x := (lo H n : Int)) (by omega) (by omega), wu64 (x := (lo H n : Int) + _) (by omega) (by omega), wu64 (by omega) (by omega)]
    congr 3; omega
  · rw [if_neg h1, if_neg (by omega), if_neg h1]
theorem both_eq' (h : Int) {i j : Nat} (hi' : i < 18446744073709551616) (hj : j < 18446744073709551616) (k : Nat) :
    sub_both.f (k + 1) h (i : Int) (j : Int) = some (if Sb h.toNat i j then ((lo h.toNat i : Int), (hi h.toNat i : Int), (if j = 0 then 0 else (lo h.toNat j : Int)), (if j = 0 then 0 else (hi h.toNat j : Int)), 0) else (0, 0, 0, 0, 1)) := by
  unfold sub_both.f
  rw [sCheck_eq h hi' hj]; simp only [Option.bind_some]
  by_cases h1 : Sb h.toNat i j
  · rw [if_pos h1, if_pos rfl, nLeaves_eq h hi', if_pos h1.1]; simp only [Option.bind_some, if_true]
    by_cases h0 : j = 0
    · subst h0; rw [if_pos (by rfl)]; simp [h1]
    · rw [if_neg (by omega), nLeaves_eq h hj, if_pos (h1.2.resolve_left h0).1]; simp only [Option.bind_some]
      simp [h1, h0]
  · rw [if_neg h1, if_neg (by omega), if_neg h1]
def sps (l : List (Nat × Nat)) : List S69 := l.map fun p => ⟨(p.1 : Int), (p.2 : Int)⟩
theorem sLeaves_eq (h : Int) {i j : Nat} (hi' : i < 18446744073709551616) (hj : j < 18446744073709551616) (k : Nat) :
    sub_Leaves.f (k + 1) h (i : Int) (j : Int) = some (if Sb h.toNat i j then (sps (spn h.toNat i j), 0) else ([], 1)) := by
  unfold sub_Leaves.f
  rw [both_eq' h hi' hj]; simp only [Option.bind_some]
  by_cases h1 : Sb h.toNat i j
  · rw [if_pos h1, if_pos h1]; simp only [if_true]
    by_cases h0 : j = 0
    · subst h0; rw [if_pos (by rfl)]; simp [spn, sps]
    · have dj := (h1.2.resolve_left h0).1
      have hp : 2 ^ h.toNat ≤ 4294967296 := pow_le_h (by have := h1.1.2.1; omega)
      have l1 := hi_lt h1.1
      have l2 := hi_lt dj
      have q2 := hi_eq dj
      have w2 := wd_pos h.toNat j
      simp only [if_neg h0]
      rw [if_neg (by omega)]
      unfold spn; rw [if_neg h0]
      by_cases c1 : lo h.toNat i < lo h.toNat j
      · rw [if_pos (by omega), if_pos (by simp), if_pos c1]
        rw [wu64 (x := (lo h.toNat j : Int) - 1) (by omega) (by omega)]
        by_cases c2 : hi h.toNat j < hi h.toNat i
        · rw [if_pos (by omega), if_pos (by simp), if_pos c2, wu64 (by omega) (by omega)]
          simp [sps]; omega
        · rw [if_neg (by omega), if_neg c2]; simp [sps]; omega
      · rw [if_neg (by omega), if_neg c1]
        by_cases c2 : hi h.toNat j < hi h.toNat i
        · rw [if_pos (by omega), if_pos (by simp), if_pos c2, wu64 (by omega) (by omega)]; simp [sps]
        · rw [if_neg (by omega), if_neg c2]; rfl
  · rw [if_neg h1, if_neg (by simp), if_neg h1]
theorem nLeaf_eq (h : Int) {p : Nat} (hp : p < 18446744073709551616) : node_Leaf.f h (p : Int) = some (if Hi h then (if p < 2 ^ h.toNat then ((2 ^ h.toNat + p : Nat) : Int) else 0, if p < 2 ^ h.toNat then 0 else 4) else (0, 1)) := by
  unfold node_Leaf.f
  rw [high_eq]; simp only [Option.bind_some]
  by_cases h1 : Hi h
  · have hh := h1
    rw [hi_iff] at hh
    rw [decide_eq_true h1, if_pos rfl, if_pos (by omega), if_pos h1]
    have e : ((h.toNat : Nat) : Int) = h := by omega
    generalize hH : h.toNat = H at *
    subst e
    rw [shr_eq p (by omega)]
    have hz : 0 < 2 ^ H := pow_pos2 H
    by_cases c : p < 2 ^ H
    · have e1 : shl .u64 1 (H : Int) = ((2 ^ H : Nat) : Int) := by
        have hpH : 2 ^ H ≤ 4294967296 := pow_le_h (by omega)
        have := shl_eq (n := 1) (k := H) (by omega) (by omega)
        rw [Nat.one_mul] at this; exact this
      rw [Nat.div_eq_of_lt c, if_neg (by omega), e1, if_pos c, if_pos c]
      have hpH : 2 ^ H ≤ 4294967296 := pow_le_h (by omega)
      congr 2
      rw [Go.bits_or_u64_nat _ _ (by omega) (by omega)]
      have : 2 ^ H ||| p = 2 ^ H + p := by
        have := Nat.two_pow_add_eq_or_of_lt c 1
        rw [Nat.mul_one] at this; exact this.symm
      rw [this]
    · have : 1 ≤ p / 2 ^ H := (Nat.le_div_iff_mul_le hz).2 (by omega)
      rw [if_pos (by omega), if_neg c, if_neg c]
  · rw [decide_eq_false h1, if_neg (by simp), if_neg h1]
theorem lis_eq (h : Int) {p : Nat} (hp : p < 18446744073709551616) : leaf_is.f h (p : Int) = some (decide (Lfi h p)) := by
  unfold leaf_is.f
  rw [nLeaf_eq h hp]; simp only [Option.bind_some]
  by_cases h1 : Hi h
  · rw [if_pos h1]
    by_cases h2 : p < 2 ^ h.toNat
    · rw [if_pos h2, decide_eq_true ⟨h1, h2⟩]; simp [h2]
    · rw [if_neg h2, decide_eq_false (fun z => h2 z.2)]; simp [h2]
  · rw [if_neg h1, decide_eq_false (fun z => h1 z.1)]; rfl
theorem sps_len (l : List (Nat × Nat)) : (sps l).length = l.length := by simp [sps]
theorem lHas0_eq (h : Int) {p : Nat} (hp : p < 18446744073709551616) {k : Nat} (hk : 3 ≤ k) : leaf_Has.f k h [] (p : Int) = some (if Lfi h p then (false, 0) else (false, 1)) := by
  obtain ⟨k, rfl⟩ : ∃ m, k = m + 3 := ⟨k - 3, by omega⟩
  unfold leaf_Has.f leaf_find.f leaf_Check.f
  rw [checkRoot_eq]; simp only [Option.bind_some]
  by_cases hh : Hi h
  · rw [if_pos hh]; simp only [if_true, leaf_Check.j0]
    simp only [leaf_Check.l0]
    rw [lis_eq h hp]
    by_cases h1 : Lfi h p
    · rw [if_pos h1]
      simp [h1, slices_BinarySearch_uint64_uint64.f, slices_BinarySearch_uint64_uint64.l0]
    · simp [h1]
  · rw [if_neg hh]; simp [leaf_Check.j0, show ¬ Lfi h p from fun z => hh z.1]
theorem sHas_eq (h : Int) {i j p : Nat} (hi' : i < 18446744073709551616) (hj : j < 18446744073709551616) (hp : p < 18446744073709551616) {k : Nat} (hk : 3 ≤ k) :
    sub_Has.f k h (i : Int) (j : Int) (p : Int) = some (if Sb h.toNat i j ∧ Lfi h p then (decide (In h.toNat i j p), 0) else (false, 1)) := by
  obtain ⟨k, rfl⟩ : ∃ m, k = m + 1 := ⟨k - 1, by omega⟩
  unfold sub_Has.f
  rw [both_eq' h hi' hj, lHas0_eq h hp hk]; simp only [Option.bind_some]
  by_cases h1 : Sb h.toNat i j
  · rw [if_pos h1]; simp only [if_true]
    by_cases h2 : Lfi h p
    · have h12 : Sb h.toNat i j ∧ Lfi h p := ⟨h1, h2⟩
      rw [if_pos h2, if_pos h12]; simp only [if_true]
      congr 2
      rw [Bool.eq_iff_iff, decide_eq_true_iff, in_iff]
      by_cases h0 : j = 0
      · subst h0; simp
      · simp [h0]; omega
    · rw [if_neg h2]; simp [h2]
  · rw [if_neg h1]; simp [h1]
theorem rdT_sbs {l : List (Nat × Nat)} {i : Nat} (h : i < l.length) : rd_T24 (sbs l) (i : Int) = ⟨(l[i].1 : Int), (l[i].2 : Int)⟩ := by
  unfold rd_T24 sbs
  simp [List.getD_eq_getElem?_getD, h]
theorem sbs_len (l : List (Nat × Nat)) : (sbs l).length = l.length := by simp [sbs]
theorem lcheck_eq (h s : Int) (k : Nat) : layer_check.f (k + 1) h s = some (if Sch s ∧ Hi h then 0 else 1) := by
  unfold layer_check.f
  by_cases c1 : s < 1
  · rw [if_pos c1, if_neg (by rw [sch_iff]; omega)]
  · rw [if_neg c1]
    by_cases c2 : s > 3
    · rw [if_pos c2, if_neg (by rw [sch_iff]; omega)]
    · rw [if_neg c2, checkRoot_eq]; simp only [bnd]
      by_cases c3 : Hi h
      · rw [if_pos c3, if_pos ⟨(sch_iff s).2 (by omega), c3⟩]
      · rw [if_neg c3, if_neg (fun z => c3 z.2)]
theorem May_eq (h s : Int) {i j : Nat} (hi' : i < 18446744073709551616) (hj : j < 18446744073709551616) {k : Nat} (hk : 12 ≤ k) :
    layer_May.f k h s (i : Int) (j : Int) = some (if Sch s ∧ Sb h.toNat i j then (decide (May h.toNat s i j), 0) else (false, 1)) := by
  obtain ⟨k, rfl⟩ : ∃ m, k = m + 1 := ⟨k - 1, by omega⟩
  unfold layer_May.f
  rw [lcheck_eq, sCheck_eq h hi' hj]; simp only [bnd]
  by_cases c1 : Sch s ∧ Hi h
  · rw [if_pos c1]; simp only [if_true]
    by_cases c2 : Sb h.toNat i j
    · have c3 : Sch s ∧ Sb h.toNat i j := ⟨c1.1, c2⟩
      rw [if_pos c2, if_pos c3]
      simp only [layer_May.j0]
      rw [if_neg (by simp)]
      by_cases e1 : s = 1
      · rw [if_pos e1]; congr 2
        rw [Bool.eq_iff_iff, decide_eq_true_iff, may_iff]
        simp [e1]
      · rw [if_neg e1]
        by_cases e2 : s = 2
        · rw [if_pos e2]
          by_cases e3 : j = 0
          · subst e3
            rw [if_pos (by rfl)]; congr 2
            rw [Bool.eq_iff_iff, decide_eq_true_iff, may_iff]
            simp [e2]; omega
          · rw [if_neg (by omega)]; congr 2
            symm; rw [decide_eq_true_iff, may_iff]
            simp [e2, e3]
        · rw [if_neg e2, Useful_eq h hi' hj (by omega), if_pos c2]; simp only [bnd]
          congr 2
          rw [decide_eq_decide, may_iff]
          simp [e1, e2]
    · rw [if_neg c2, if_neg (fun z => c2 z.2)]; simp [layer_May.j0]
  · have c3 : ¬ (Sch s ∧ Sb h.toNat i j) := by
      rintro ⟨a, b⟩
      refine c1 ⟨a, ?_⟩
      have := b.1; rw [nd_iff] at this; rw [hi_iff]; omega
    rw [if_neg c1, if_neg c3]; simp [layer_May.j0]
def mt (a b : Nat) : Nat := a / 2 ^ sz (a ^^^ b)
theorem sz_le_iff {n k : Nat} : sz n ≤ k ↔ n < 2 ^ k := by
  constructor
  · intro h
    unfold sz at h
    split at h
    · rename_i e; subst e; exact pow_pos2 k
    · have := log2_hi n
      have := pow_mono h; omega
  · exact sz_le
theorem div_eq_iff {a b k : Nat} : a / 2 ^ k = b / 2 ^ k ↔ sz (a ^^^ b) ≤ k := by
  rw [sz_le_iff]
  have h : (a ^^^ b) / 2 ^ k = a / 2 ^ k ^^^ b / 2 ^ k := Nat.xor_div_two_pow
  have hp := pow_pos2 k
  constructor
  · intro e
    rw [e, Nat.xor_self] at h
    exact (Nat.div_eq_zero_iff.1 h).resolve_left (by omega)
  · intro z
    rw [Nat.div_eq_of_lt z] at h
    have h2 := congrArg (b / 2 ^ k ^^^ ·) h.symm
    simp only [Nat.xor_zero] at h2
    rw [Nat.xor_comm (a / 2 ^ k), ← Nat.xor_assoc, Nat.xor_self, Nat.zero_xor] at h2
    exact h2
theorem sz_log2 {a b : Nat} (ha : a ≠ 0) (hb : b ≠ 0) (e : a.log2 = b.log2) : sz (a ^^^ b) ≤ a.log2 := by
  rw [← div_eq_iff]
  have h1 := log2_div ha (Nat.le_refl _)
  have h2 := log2_div hb (k := a.log2) (by omega)
  have g1 : a / 2 ^ a.log2 = 1 := by have := (log2_iff h1.2).1 h1.1; simp at this; omega
  have g2 : b / 2 ^ a.log2 = 1 := by have := (log2_iff h2.2).1 h2.1; rw [e] at *; simp at this; omega
  rw [g1, g2]
theorem mt_log2 {a b : Nat} (ha : a ≠ 0) (hb : b ≠ 0) (e : a.log2 = b.log2) : (mt a b).log2 = a.log2 - sz (a ^^^ b) ∧ mt a b ≠ 0 := log2_div ha (sz_log2 ha hb e)
theorem mt_abv {a b : Nat} (ha : a ≠ 0) (hb : b ≠ 0) (e : a.log2 = b.log2) : Abv (mt a b) a ∧ Abv (mt a b) b := by
  have h := sz_log2 ha hb e
  refine ⟨abv_div ha h rfl, abv_div (k := sz (a ^^^ b)) hb (by omega) ?_⟩
  unfold mt
  exact (div_eq_iff.2 (Nat.le_refl _)).symm
theorem abv_mt {a b n : Nat} (ha : a ≠ 0) (hb : b ≠ 0) (e : a.log2 = b.log2) : Abv n (mt a b) ↔ Abv n a ∧ Abv n b := by
  obtain ⟨m1, m2⟩ := mt_abv ha hb e
  obtain ⟨l1, l2⟩ := mt_log2 ha hb e
  constructor
  · intro h; exact ⟨h.trans ha m1, h.trans hb m2⟩
  · rintro ⟨h1, h2⟩
    refine h1.total ha m1 ?_
    have k1 := h1.2
    have k2 := h2.2
    unfold anc at k1 k2
    rw [e] at k1
    have := (div_eq_iff (a := a) (b := b)).1 (k1.trans k2.symm)
    have := h1.1
    omega
def blw (h : Nat) (l : List Nat) (n : Nat) : List Nat := l.filter fun i => decide (Abv n (2 ^ h + i))
theorem mem_blw {h : Nat} {l : List Nat} {n i : Nat} : i ∈ blw h l n ↔ i ∈ l ∧ Abv n (2 ^ h + i) := by simp [blw]
theorem blw_up {h : Nat} {l : List Nat} (hu : Up l) (n : Nat) : Up (blw h l n) := hu.filter _
theorem blw_nil {h : Nat} {l : List Nat} {n : Nat} : blw h l n = [] ↔ inT h l n = false := by
  rw [Bool.eq_false_iff, ne_eq, inT_iff, List.eq_nil_iff_forall_not_mem]
  constructor
  · rintro z ⟨i, h1, h2⟩; exact z i (mem_blw.2 ⟨h1, h2⟩)
  · intro z i hi; rw [mem_blw] at hi; exact z ⟨i, hi⟩
theorem blw_ne {h : Nat} {l : List Nat} {n : Nat} : blw h l n ≠ [] ↔ inT h l n = true := by
  rw [ne_eq, blw_nil]; simp
def fst1 (l : List Nat) : Nat := l.headD 0
def lst1 (l : List Nat) : Nat := l.getLastD 0
theorem fst_mem {l : List Nat} (h : l ≠ []) : fst1 l ∈ l := by cases l <;> simp_all [fst1]
theorem lst_mem {l : List Nat} (h : l ≠ []) : lst1 l ∈ l := by
  unfold lst1; rw [List.getLastD_eq_getLast?, List.getLast?_eq_some_getLast h]; exact List.getLast_mem h
theorem fst_le {l : List Nat} (hu : Up l) {x : Nat} (hx : x ∈ l) : fst1 l ≤ x := by
  cases l with
  | nil => simp at hx
  | cons a t =>
    show a ≤ x
    rcases List.mem_cons.1 hx with rfl | z
    · omega
    · have := hu.lt z; omega
theorem le_lst : ∀ {l : List Nat}, Up l → ∀ {x : Nat}, x ∈ l → x ≤ lst1 l
  | [], _, _, hx => by simp at hx
  | [a], _, x, hx => by simp at hx; subst hx; simp [lst1]
  | a :: b :: t, hu, x, hx => by
    have e : lst1 (a :: b :: t) = lst1 (b :: t) := by simp [lst1]
    rw [e]
    rcases List.mem_cons.1 hx with rfl | z
    · have := hu.lt (show b ∈ b :: t by simp)
      have := le_lst hu.tail (show b ∈ b :: t by simp)
      omega
    · exact le_lst hu.tail z
def dwn (h : Nat) (l : List Nat) (n : Nat) : Nat := mt (2 ^ h + fst1 (blw h l n)) (2 ^ h + lst1 (blw h l n))
section
variable {h : Nat} {l : List Nat} (hl : ∀ i ∈ l, i < 2 ^ h) (hu : Up l) {n : Nat} (hn : inT h l n = true)
include hl hu hn
theorem dwn_iff (m : Nat) : Abv m (dwn h l n) ↔ ∀ i ∈ blw h l n, Abv m (2 ^ h + i) := by
  have hb := blw_ne.2 hn
  have f1 := fst_mem hb
  have g1 := lst_mem hb
  have f2 := hl _ (mem_blw.1 f1).1
  have g2 := hl _ (mem_blw.1 g1).1
  unfold dwn
  rw [abv_mt (leaf_ne _ _) (leaf_ne _ _) (by rw [leaf_log f2, leaf_log g2])]
  constructor
  · rintro ⟨a, b⟩ i hi
    have i1 := fst_le (blw_up hu n) hi
    have i2 := le_lst (blw_up hu n) hi
    have ml := a.1
    rw [leaf_log f2] at ml
    have m0 : m ≠ 0 := by rintro rfl; exact anc_ne (leaf_ne _ _) a.2
    have r : ∀ j, j < 2 ^ h → 2 ^ h + j < 2 ^ (h + 1) := fun j hj => by rw [Nat.pow_succ]; omega
    have i3 := hl _ (mem_blw.1 hi).1
    have a' := (abv_leaf m0 ml (by omega) (r _ f2)).1 a
    have b' := (abv_leaf m0 ml (by omega) (r _ g2)).1 b
    exact (abv_leaf m0 ml (by omega) (r _ i3)).2 ⟨by omega, by omega⟩
  · intro z; exact ⟨z _ f1, z _ g1⟩
theorem dwn_below : Abv n (dwn h l n) := (dwn_iff hl hu hn n).2 (fun i hi => (mem_blw.1 hi).2)
theorem dwn_ne : dwn h l n ≠ 0 := by
  have hb := blw_ne.2 hn
  have f2 := hl _ (mem_blw.1 (fst_mem hb)).1
  have g2 := hl _ (mem_blw.1 (lst_mem hb)).1
  exact (mt_log2 (leaf_ne _ _) (leaf_ne _ _) (by rw [leaf_log f2, leaf_log g2])).2
theorem dwn_le : (dwn h l n).log2 ≤ h := by
  have hb := blw_ne.2 hn
  have f2 := hl _ (mem_blw.1 (fst_mem hb)).1
  have g2 := hl _ (mem_blw.1 (lst_mem hb)).1
  have := (mt_log2 (leaf_ne h (fst1 (blw h l n))) (leaf_ne h (lst1 (blw h l n))) (by rw [leaf_log f2, leaf_log g2])).1
  rw [leaf_log f2] at this
  unfold dwn; omega
theorem dwn_all {i : Nat} (hi : i ∈ blw h l n) : Abv (dwn h l n) (2 ^ h + i) := (dwn_iff hl hu hn _).1 (Abv.refl _) i hi
theorem dwn_blw : blw h l (dwn h l n) = blw h l n := by
  unfold blw
  refine List.filter_congr (fun i hi => ?_)
  rw [decide_eq_decide]
  constructor
  · intro z; exact (dwn_below hl hu hn).trans (leaf_ne h i) z
  · intro z; exact dwn_all hl hu hn (mem_blw.2 ⟨hi, z⟩)
theorem dwn_inT : inT h l (dwn h l n) = true := by rw [← blw_ne, dwn_blw hl hu hn, blw_ne]; exact hn
theorem dwn_dwn : dwn h l (dwn h l n) = dwn h l n := by
  have e := dwn_blw hl hu hn
  show mt (2 ^ h + fst1 (blw h l (dwn h l n))) (2 ^ h + lst1 (blw h l (dwn h l n))) = mt (2 ^ h + fst1 (blw h l n)) (2 ^ h + lst1 (blw h l n))
  rw [e]
theorem dwn_fork (hd : (dwn h l n).log2 < h) : dwn h l n ∈ frk h l := by
  have d0 := dwn_ne hl hu hn
  have key : ∀ c c', (c = 2 * dwn h l n ∧ c' = 2 * dwn h l n + 1 ∨ c' = 2 * dwn h l n ∧ c = 2 * dwn h l n + 1) → inT h l c' = true := by
    intro c c' hc
    have hlg := log2_dbl d0
    have : ¬ ∀ i ∈ blw h l n, Abv c (2 ^ h + i) := by
      rw [← dwn_iff hl hu hn]
      intro z
      have := z.1
      rcases hc with ⟨rfl, _⟩ | ⟨_, rfl⟩ <;> omega
    apply Decidable.byContradiction
    intro z
    apply this
    intro i hi
    have q := abv_child (leaf_ne h i) (dwn_all hl hu hn hi) (by rw [leaf_log (hl _ (mem_blw.1 hi).1)]; exact hd)
    have nz : ¬ Abv c' (2 ^ h + i) := fun q => z (inT_iff.2 ⟨i, (mem_blw.1 hi).1, q⟩)
    rcases hc with ⟨rfl, rfl⟩ | ⟨rfl, rfl⟩
    · exact q.resolve_right nz
    · exact q.resolve_left nz
  exact mem_frk.2 ⟨d0, hd, key _ _ (.inr ⟨rfl, rfl⟩), key _ _ (.inl ⟨rfl, rfl⟩)⟩
theorem dwn_self_of_fork (hf : n ∈ frk h l) : dwn h l n = n := by
  have hf' := mem_frk.1 hf
  have a := dwn_below hl hu hn
  apply Decidable.byContradiction
  intro ne
  have lt : n.log2 < (dwn h l n).log2 := by
    rcases Nat.lt_or_ge n.log2 (dwn h l n).log2 with z | z
    · exact z
    · exact absurd (a.eq_of_log2 (Nat.le_antisymm a.1 z)).symm ne
  obtain ⟨i, hi, c1⟩ := inT_iff.1 hf'.2.2.1
  obtain ⟨j, hj, c2⟩ := inT_iff.1 hf'.2.2.2
  have d := abv_dbl hf'.1
  have i1 := dwn_all hl hu hn (mem_blw.2 ⟨hi, d.1.trans (leaf_ne h i) c1⟩)
  have j1 := dwn_all hl hu hn (mem_blw.2 ⟨hj, d.2.trans (leaf_ne h j) c2⟩)
  have lg := log2_dbl hf'.1
  have e1 := c1.total (leaf_ne h i) i1 (by omega)
  have e2 := c2.total (leaf_ne h j) j1 (by omega)
  have := e1.total (dwn_ne hl hu hn) e2 (by omega)
  have := this.eq_of_log2 (by omega)
  omega
end
theorem len_one {t : List Nat} (hu : t.Nodup) (h : ∀ x ∈ t, ∀ y ∈ t, x = y) : t.length ≤ 1 := by
  match t with
  | [] => simp
  | [a] => simp
  | a :: b :: t =>
    have := h a (by simp) b (by simp)
    subst this
    simp at hu
theorem len_sub : ∀ {a b : List Nat}, a.Nodup → (∀ x ∈ a, x ∈ b) → a.length ≤ b.length
  | [], _, _, _ => by simp
  | x :: a, b, hn, hs => by
    have hx := hs x (by simp)
    have h1 : a.length ≤ (b.erase x).length := by
      refine len_sub (List.nodup_cons.1 hn).2 (fun y hy => ?_)
      have ne : y ≠ x := by rintro rfl; exact (List.nodup_cons.1 hn).1 hy
      exact (List.mem_erase_of_ne ne).2 (hs y (by simp [hy]))
    have h2 := List.length_erase_of_mem hx
    have h3 := List.length_pos_of_mem hx
    simp only [List.length_cons]; omega
def cutl (h : Nat) (l : List Nat) : Nat → Nat → List (Nat × Nat)
  | 0, _ => []
  | m + 1, n => (if dwn h l n = n then [] else [(n, dwn h l n)]) ++ (if (dwn h l n).log2 < h then cutl h l m (2 * dwn h l n) ++ cutl h l m (2 * dwn h l n + 1) else [])
theorem blw_sub {h : Nat} {l : List Nat} {n m : Nat} (hnm : Abv n m) {i : Nat} (hi : i ∈ blw h l m) : i ∈ blw h l n := by
  rw [mem_blw] at *; exact ⟨hi.1, hnm.trans (leaf_ne h i) hi.2⟩
section
variable {h : Nat} {l : List Nat} (hl : ∀ i ∈ l, i < 2 ^ h) (hu : Up l)
include hl hu
theorem frk_inT {f : Nat} (hf : f ∈ frk h l) : inT h l f = true := by
  have := mem_frk.1 hf
  exact inT_up (abv_dbl this.1).1 this.2.2.1
theorem fork_below {n f : Nat} (hn : inT h l n = true) (hf : f ∈ frk h l) (hnf : Abv n f) : Abv (dwn h l n) f := by
  have fT := frk_inT hl hu hf
  have e := dwn_self_of_fork hl hu fT hf
  have := (dwn_iff hl hu fT (dwn h l n)).2 (fun i hi => dwn_all hl hu hn (blw_sub hnf hi))
  rw [e] at this; exact this
def Topp (h : Nat) (l : List Nat) (n a : Nat) : Prop := a = n ∨ (2 ≤ a ∧ a / 2 ∈ frk h l ∧ Abv n (a / 2))
theorem topp_inT {n a : Nat} (hn : inT h l n = true) (ha : Topp h l n a) : inT h l a = true := by
  rcases ha with rfl | ⟨a2, f, _⟩
  · exact hn
  · have := mem_frk.1 f
    rcases Nat.mod_two_eq_zero_or_one a with z | z
    · rw [show a = 2 * (a / 2) by omega]; exact this.2.2.1
    · rw [show a = 2 * (a / 2) + 1 by omega]; exact this.2.2.2
theorem topp_abv {n a : Nat} (ha : Topp h l n a) : Abv n a := by
  rcases ha with rfl | ⟨a2, f, b⟩
  · exact Abv.refl _
  · exact b.trans (by omega) (abv_half a2)
theorem mem_cutl {p : Nat × Nat} : ∀ {m n : Nat}, n ≠ 0 → n.log2 ≤ h → inT h l n = true → h < n.log2 + m → (p ∈ cutl h l m n ↔ Topp h l n p.1 ∧ p.2 = dwn h l p.1 ∧ p.2 ≠ p.1)
  | 0, n, _, h1, _, h2 => by omega
  | m + 1, n, n0, h1, hn, h2 => by
    have d0 := dwn_ne hl hu hn
    have da := dwn_below hl hu hn
    have dl := dwn_le hl hu hn
    have dT := dwn_inT hl hu hn
    have lg := log2_dbl d0
    rw [cutl, List.mem_append]
    have first : (p ∈ (if dwn h l n = n then [] else [(n, dwn h l n)]) ↔ p.1 = n ∧ p.2 = dwn h l p.1 ∧ p.2 ≠ p.1) := by
      split
      · rename_i e
        constructor
        · intro z; simp at z
        · rintro ⟨a, b, c⟩; rw [a, e] at b; rw [a] at c; exact absurd b c
      · rename_i e
        rw [List.mem_singleton]
        constructor
        · rintro rfl; exact ⟨rfl, rfl, e⟩
        · rintro ⟨a, b, _⟩; rw [a] at b; exact Prod.ext a b
    rw [first]
    by_cases hd : (dwn h l n).log2 < h
    · have fk := dwn_fork hl hu hn hd
      have fk' := mem_frk.1 fk
      have r1 := mem_cutl (p := p) (m := m) (n := 2 * dwn h l n) (by omega) (by omega) fk'.2.2.1 (by have := da.1; omega)
      have r2 := mem_cutl (p := p) (m := m) (n := 2 * dwn h l n + 1) (by omega) (by omega) fk'.2.2.2 (by have := da.1; omega)
      rw [if_pos hd, List.mem_append, r1, r2]
      have a1 := (abv_dbl d0).1
      have a2 := (abv_dbl d0).2
      constructor
      · rintro (⟨z, w⟩ | ⟨z, w⟩ | ⟨z, w⟩)
        · exact ⟨.inl z, w⟩
        · refine ⟨.inr ?_, w⟩
          rcases z with e | ⟨q, f, b⟩
          · rw [e]; exact ⟨by omega, by rw [show 2 * dwn h l n / 2 = dwn h l n by omega]; exact fk, by rw [show 2 * dwn h l n / 2 = dwn h l n by omega]; exact da⟩
          · exact ⟨q, f, (da.trans (by omega) a1).trans (by omega) b⟩
        · refine ⟨.inr ?_, w⟩
          rcases z with e | ⟨q, f, b⟩
          · rw [e]; exact ⟨by omega, by rw [show (2 * dwn h l n + 1) / 2 = dwn h l n by omega]; exact fk, by rw [show (2 * dwn h l n + 1) / 2 = dwn h l n by omega]; exact da⟩
          · exact ⟨q, f, (da.trans (by omega) a2).trans (by omega) b⟩
      · rintro ⟨z, w⟩
        rcases z with e | ⟨q, f, b⟩
        · exact .inl ⟨e, w⟩
        · right
          have fb := fork_below hl hu hn f b
          rcases Nat.lt_or_ge (dwn h l n).log2 (p.1 / 2).log2 with g | g
          · rcases abv_child (by omega) fb g with c | c
            · exact .inl ⟨.inr ⟨q, f, c⟩, w⟩
            · exact .inr ⟨.inr ⟨q, f, c⟩, w⟩
          · have e := fb.eq_of_log2 (Nat.le_antisymm fb.1 g)
            rcases Nat.mod_two_eq_zero_or_one p.1 with z | z
            · exact .inl ⟨.inl (by omega), w⟩
            · exact .inr ⟨.inl (by omega), w⟩
    · rw [if_neg hd]
      constructor
      · rintro (⟨z, w⟩ | z)
        · exact ⟨.inl z, w⟩
        · simp at z
      · rintro ⟨z, w⟩
        rcases z with e | ⟨q, f, b⟩
        · exact .inl ⟨e, w⟩
        · have fb := fork_below hl hu hn f b
          have := (mem_frk.1 f).2.1
          have := fb.1
          omega
theorem cutl_fst {m n : Nat} (n0 : n ≠ 0) (h1 : n.log2 ≤ h) (hn : inT h l n = true) (h2 : h < n.log2 + m) {p : Nat × Nat} (hp : p ∈ cutl h l m n) : Abv n p.1 :=
  topp_abv hl hu ((mem_cutl hl hu n0 h1 hn h2).1 hp).1
theorem cutl_nodup : ∀ {m n : Nat}, n ≠ 0 → n.log2 ≤ h → inT h l n = true → h < n.log2 + m → ((cutl h l m n).map Prod.fst).Nodup
  | 0, n, _, h1, _, h2 => by omega
  | m + 1, n, n0, h1, hn, h2 => by
    have d0 := dwn_ne hl hu hn
    have da := dwn_below hl hu hn
    have lg := log2_dbl d0
    rw [cutl, List.map_append]
    by_cases hd : (dwn h l n).log2 < h
    · have fk := mem_frk.1 (dwn_fork hl hu hn hd)
      have m1 : ∀ p ∈ cutl h l m (2 * dwn h l n), Abv (2 * dwn h l n) p.1 := fun p hp => cutl_fst hl hu (by omega) (by omega) fk.2.2.1 (by have := da.1; omega) hp
      have m2 : ∀ p ∈ cutl h l m (2 * dwn h l n + 1), Abv (2 * dwn h l n + 1) p.1 := fun p hp => cutl_fst hl hu (by omega) (by omega) fk.2.2.2 (by have := da.1; omega) hp
      have i1 := cutl_nodup (m := m) (n := 2 * dwn h l n) (by omega) (by omega) fk.2.2.1 (by have := da.1; omega)
      have i2 := cutl_nodup (m := m) (n := 2 * dwn h l n + 1) (by omega) (by omega) fk.2.2.2 (by have := da.1; omega)
      rw [if_pos hd, List.map_append]
      have ne : ∀ a, Abv (2 * dwn h l n) a → Abv (2 * dwn h l n + 1) a → False := by
        intro a h3 h4
        have a0 : a ≠ 0 := by
          rintro rfl
          have := h3.1
          have z : Nat.log2 0 = 0 := by decide
          rw [z] at this; omega
        have := (h3.total a0 h4 (by omega)).eq_of_log2 (by omega)
        omega
      refine List.nodup_append.2 ⟨?_, List.nodup_append.2 ⟨i1, i2, ?_⟩, ?_⟩
      · split <;> simp
      · rintro a ha b hb rfl
        obtain ⟨p, hp, rfl⟩ := List.mem_map.1 ha
        obtain ⟨q, hq, e⟩ := List.mem_map.1 hb
        exact ne p.1 (m1 p hp) (by rw [← e]; exact m2 q hq)
      · rintro a ha b hb rfl
        have ea : a = n := by split at ha <;> simp at ha; exact ha
        subst ea
        rcases List.mem_append.1 hb with hb | hb
        · obtain ⟨p, hp, e⟩ := List.mem_map.1 hb
          have := m1 p hp; rw [e] at this
          have := this.1; have := da.1; omega
        · obtain ⟨p, hp, e⟩ := List.mem_map.1 hb
          have := m2 p hp; rw [e] at this
          have := this.1; have := da.1; omega
    · rw [if_neg hd]
      split <;> simp
theorem blw_split {n : Nat} (n0 : n ≠ 0) (hd : n.log2 < h) : (blw h l n).length = (blw h l (2 * n)).length + (blw h l (2 * n + 1)).length := by
  have lg := log2_dbl n0
  have db := abv_dbl n0
  have : ∀ t : List Nat, (∀ i ∈ t, i < 2 ^ h) → (blw h t n).length = (blw h t (2 * n)).length + (blw h t (2 * n + 1)).length := by
    intro t
    induction t with
    | nil => intro _; rfl
    | cons i t ih =>
      intro ht
      have := ih (fun j hj => ht j (by simp [hj]))
      have hx := leaf_log (ht i (by simp))
      unfold blw at *
      simp only [List.filter_cons]
      by_cases c : Abv n (2 ^ h + i)
      · rcases abv_child (leaf_ne h i) c (by omega) with z | z
        · have : ¬ Abv (2 * n + 1) (2 ^ h + i) := fun w => by have := (z.total (leaf_ne h i) w (by omega)).eq_of_log2 (by omega); omega
          simp [c, z, this]; omega
        · have : ¬ Abv (2 * n) (2 ^ h + i) := fun w => by have := (z.total (leaf_ne h i) w (by omega)).eq_of_log2 (by omega); omega
          simp [c, z, this]; omega
      · have c1 : ¬ Abv (2 * n) (2 ^ h + i) := fun z => c (db.1.trans (leaf_ne h i) z)
        have c2 : ¬ Abv (2 * n + 1) (2 ^ h + i) := fun z => c (db.2.trans (leaf_ne h i) z)
        simp [c, c1, c2]; omega
  exact this l hl
theorem blw_leaf {n : Nat} (hn : inT h l n = true) (hd : (dwn h l n).log2 = h) : (blw h l n).length = 1 := by
  have hb := blw_ne.2 hn
  have hp : 0 < (blw h l n).length := List.length_pos_iff.2 hb
  have : (blw h l n).length ≤ 1 := by
    refine len_one (blw_up hu n).nodup (fun x hx y hy => ?_)
    have a := dwn_all hl hu hn hx
    have b := dwn_all hl hu hn hy
    have a' := a.eq_of_log2 (by rw [hd, leaf_log (hl _ (mem_blw.1 hx).1)])
    have b' := b.eq_of_log2 (by rw [hd, leaf_log (hl _ (mem_blw.1 hy).1)])
    omega
  omega
theorem wd2 {n : Nat} (hd : n.log2 < h) : 2 ^ (h - n.log2) = 2 * 2 ^ (h - (n.log2 + 1)) := by
  rw [show h - n.log2 = (h - (n.log2 + 1)) + 1 by omega, Nat.pow_succ]; omega
theorem cutl_wide : ∀ {m n : Nat}, n ≠ 0 → n.log2 ≤ h → inT h l n = true → h < n.log2 + m →
    ((cutl h l m n).map fun p => 2 ^ (h - p.1.log2) - 2 ^ (h - p.2.log2)).sum + (blw h l n).length = 2 ^ (h - n.log2) ∧ (cutl h l m n).length + 1 ≤ 2 * (blw h l n).length
  | 0, n, _, h1, _, h2 => by omega
  | m + 1, n, n0, h1, hn, h2 => by
    have d0 := dwn_ne hl hu hn
    have da := dwn_below hl hu hn
    have lg := log2_dbl d0
    have eb := dwn_blw hl hu hn
    have wl : 2 ^ (h - (dwn h l n).log2) ≤ 2 ^ (h - n.log2) := pow_mono (by have := da.1; omega)
    have fs : ((if dwn h l n = n then [] else [(n, dwn h l n)]).map fun p => 2 ^ (h - p.1.log2) - 2 ^ (h - p.2.log2)).sum = 2 ^ (h - n.log2) - 2 ^ (h - (dwn h l n).log2) := by
      split
      · rename_i e; rw [e]; simp
      · simp
    have fl : (if dwn h l n = n then [] else [(n, dwn h l n)]).length ≤ 1 := by split <;> simp
    rw [cutl, List.map_append, List.sum_append, fs, List.length_append]
    by_cases hd : (dwn h l n).log2 < h
    · have fk := mem_frk.1 (dwn_fork hl hu hn hd)
      obtain ⟨r1, q1⟩ := cutl_wide (m := m) (n := 2 * dwn h l n) (by omega) (by omega) fk.2.2.1 (by have := da.1; omega)
      obtain ⟨r2, q2⟩ := cutl_wide (m := m) (n := 2 * dwn h l n + 1) (by omega) (by omega) fk.2.2.2 (by have := da.1; omega)
      have sp := blw_split hl hu d0 hd
      rw [eb] at sp
      have w2 := wd2 hl hu hd
      rw [lg.1] at r1; rw [lg.2] at r2
      rw [if_pos hd, List.map_append, List.sum_append, List.length_append]
      omega
    · have e := blw_leaf hl hu hn (by have := dwn_le hl hu hn; omega)
      have : 2 ^ (h - (dwn h l n).log2) = 1 := by rw [show h - (dwn h l n).log2 = 0 by omega, Nat.pow_zero]
      rw [if_neg hd]
      simp only [List.map_nil, List.sum_nil, List.length_nil]
      omega
theorem cutl_one {i : Nat} (hi : i < 2 ^ h) (hm : i ∉ l) : ∀ {m n : Nat}, n ≠ 0 → n.log2 ≤ h → inT h l n = true → h < n.log2 + m → Abv n (2 ^ h + i) →
    ∃ p ∈ cutl h l m n, (Abv p.1 (2 ^ h + i) ∧ ¬ Abv p.2 (2 ^ h + i)) ∧ ∀ q ∈ cutl h l m n, Abv q.1 (2 ^ h + i) ∧ ¬ Abv q.2 (2 ^ h + i) → q = p
  | 0, n, _, h1, _, h2, _ => by omega
  | m + 1, n, n0, h1, hn, h2, hx => by
    have d0 := dwn_ne hl hu hn
    have da := dwn_below hl hu hn
    have dT := dwn_inT hl hu hn
    have lg := log2_dbl d0
    have xl := leaf_log hi
    have x0 := leaf_ne h i
    have e1 : cutl h l (m + 1) n = (if dwn h l n = n then [] else [(n, dwn h l n)]) ++ (if (dwn h l n).log2 < h then cutl h l m (2 * dwn h l n) ++ cutl h l m (2 * dwn h l n + 1) else []) := rfl
    by_cases c : Abv (dwn h l n) (2 ^ h + i)
    · have hd : (dwn h l n).log2 < h := by
        have dl := dwn_le hl hu hn
        rcases Nat.lt_or_ge (dwn h l n).log2 h with z | z
        · exact z
        · have := c.eq_of_log2 (by omega)
          rw [this] at dT
          exact absurd ((inT_leaf hl hi).1 dT) hm
      have fk := mem_frk.1 (dwn_fork hl hu hn hd)
      rw [if_pos hd] at e1
      have no : ∀ q ∈ (if dwn h l n = n then [] else [(n, dwn h l n)]), ¬ (Abv q.1 (2 ^ h + i) ∧ ¬ Abv q.2 (2 ^ h + i)) := by
        intro q hq
        split at hq
        · simp at hq
        · simp at hq; subst hq; exact fun z => z.2 c
      have fin : ∀ b b', (b = 2 * dwn h l n ∧ b' = 2 * dwn h l n + 1 ∨ b' = 2 * dwn h l n ∧ b = 2 * dwn h l n + 1) → inT h l b = true → inT h l b' = true → Abv b (2 ^ h + i) →
          ∃ p ∈ cutl h l (m + 1) n, (Abv p.1 (2 ^ h + i) ∧ ¬ Abv p.2 (2 ^ h + i)) ∧ ∀ q ∈ cutl h l (m + 1) n, Abv q.1 (2 ^ h + i) ∧ ¬ Abv q.2 (2 ^ h + i) → q = p := by
        intro b b' hb bT bT' hbx
        have b0 : b ≠ 0 := by omega
        have bl : b.log2 = (dwn h l n).log2 + 1 := by rcases hb with ⟨rfl, _⟩ | ⟨_, rfl⟩ <;> omega
        have bl' : b'.log2 = (dwn h l n).log2 + 1 := by rcases hb with ⟨_, rfl⟩ | ⟨rfl, _⟩ <;> omega
        obtain ⟨p, hp, h3, h4⟩ := cutl_one (m := m) (n := b) hi hm b0 (by omega) bT (by have := da.1; omega) hbx
        have hp' : p ∈ cutl h l m (2 * dwn h l n) ++ cutl h l m (2 * dwn h l n + 1) := by
          rw [List.mem_append]; rcases hb with ⟨rfl, _⟩ | ⟨_, rfl⟩
          · exact .inl hp
          · exact .inr hp
        refine ⟨p, by rw [e1, List.mem_append]; exact .inr hp', h3, ?_⟩
        intro q hq hqx
        rw [e1, List.mem_append] at hq
        rcases hq with hq | hq
        · exact absurd hqx (no q hq)
        · have other : q ∈ cutl h l m b' → False := by
            intro z
            have := cutl_fst hl hu (m := m) (n := b') (by omega) (by omega) bT' (by have := da.1; omega) z
            have := ((this.trans x0 hqx.1).total x0 hbx (by omega)).eq_of_log2 (by omega)
            omega
          rw [List.mem_append] at hq
          rcases hb with ⟨rfl, rfl⟩ | ⟨rfl, rfl⟩
          · exact h4 q (hq.resolve_right other) hqx
          · exact h4 q (hq.resolve_left other) hqx
      rcases abv_child x0 c (by omega) with z | z
      · exact fin _ _ (.inl ⟨rfl, rfl⟩) fk.2.2.1 fk.2.2.2 z
      · exact fin _ _ (.inr ⟨rfl, rfl⟩) fk.2.2.2 fk.2.2.1 z
    · have ne : dwn h l n ≠ n := fun e => c (by rw [e]; exact hx)
      rw [if_neg ne] at e1
      refine ⟨(n, dwn h l n), by rw [e1]; simp, ⟨hx, c⟩, ?_⟩
      intro q hq hqx
      rw [e1, List.mem_append] at hq
      rcases hq with hq | hq
      · simpa using hq
      · exfalso
        apply c
        split at hq
        · rename_i hd
          have fk := mem_frk.1 (dwn_fork hl hu hn hd)
          rw [List.mem_append] at hq
          rcases hq with hq | hq
          · have := cutl_fst hl hu (m := m) (n := 2 * dwn h l n) (by omega) (by omega) fk.2.2.1 (by have := da.1; omega) hq
            exact (abv_dbl d0).1.trans x0 (this.trans x0 hqx.1)
          · have := cutl_fst hl hu (m := m) (n := 2 * dwn h l n + 1) (by omega) (by omega) fk.2.2.2 (by have := da.1; omega) hq
            exact (abv_dbl d0).2.trans x0 (this.trans x0 hqx.1)
        · simp at hq
theorem cutl_none {m n : Nat} (n0 : n ≠ 0) (h1 : n.log2 ≤ h) (hn : inT h l n = true) (h2 : h < n.log2 + m) {i : Nat} (hm : i ∈ l) {p : Nat × Nat} (hp : p ∈ cutl h l m n) : ¬ (Abv p.1 (2 ^ h + i) ∧ ¬ Abv p.2 (2 ^ h + i)) := by
  rintro ⟨a, b⟩
  obtain ⟨t, e, _⟩ := (mem_cutl hl hu n0 h1 hn h2).1 hp
  have := topp_inT hl hu hn t
  rw [e] at b
  exact b (dwn_all hl hu this (mem_blw.2 ⟨hm, a⟩))
theorem cutl_hng (h0 : l ≠ []) : ∀ {m n : Nat}, n ≠ 0 → n.log2 ≤ h → inT h l n = true → h < n.log2 + m → (cutl h l m n).length ≤ ((hng h l).filter fun c => decide (Abv n c)).length
  | 0, n, _, h1, _, h2 => by omega
  | m + 1, n, n0, h1, hn, h2 => by
    have d0 := dwn_ne hl hu hn
    have da := dwn_below hl hu hn
    have dl := dwn_le hl hu hn
    have dT := dwn_inT hl hu hn
    have lg := log2_dbl d0
    have nz : ∀ {a c : Nat}, Abv a c → a ≠ 0 → 1 ≤ a.log2 → c ≠ 0 := by
      intro a c hac _ h1 e
      have := hac.1
      rw [e] at this
      have z : Nat.log2 0 = 0 := by decide
      omega
    have side : dwn h l n ≠ n → ∃ o ∈ hng h l, Abv n o ∧ ¬ Abv (dwn h l n) o := by
      intro ne
      have lt : n.log2 < (dwn h l n).log2 := by
        rcases Nat.lt_or_ge n.log2 (dwn h l n).log2 with z | z
        · exact z
        · exact absurd (da.eq_of_log2 (Nat.le_antisymm da.1 z)).symm ne
      have ln := log2_dbl n0
      have fin : ∀ b o, (b = 2 * n ∧ o = 2 * n + 1 ∨ o = 2 * n ∧ b = 2 * n + 1) → Abv b (dwn h l n) → ∃ o ∈ hng h l, Abv n o ∧ ¬ Abv (dwn h l n) o := by
        intro b o hbo hb
        have o2 : 2 ≤ o := by omega
        have oh : o / 2 = n := by omega
        have ol : o.log2 = n.log2 + 1 := by rcases hbo with ⟨_, rfl⟩ | ⟨rfl, _⟩ <;> omega
        have bl : b.log2 = n.log2 + 1 := by rcases hbo with ⟨rfl, _⟩ | ⟨_, rfl⟩ <;> omega
        have no : inT h l o = false := by
          rw [Bool.eq_false_iff, ne_eq, inT_iff]
          rintro ⟨i, hi, z⟩
          have nz : Abv n (2 ^ h + i) := by
            have := abv_half o2; rw [oh] at this; exact this.trans (leaf_ne h i) z
          have := dwn_all hl hu hn (mem_blw.2 ⟨hi, nz⟩)
          have := hb.trans (leaf_ne h i) this
          have := (z.total (leaf_ne h i) this (by omega)).eq_of_log2 (by omega)
          omega
        refine ⟨o, (mem_hng h0).2 ⟨o2, by omega, no, by rw [oh]; exact hn⟩, by have := abv_half o2; rw [oh] at this; exact this, ?_⟩
        intro z
        have := z.1
        have := z.eq_of_log2 (by omega)
        rw [this] at dT
        rw [no] at dT; cases dT
      rcases abv_child d0 da lt with z | z
      · exact fin _ _ (.inl ⟨rfl, rfl⟩) z
      · exact fin _ _ (.inr ⟨rfl, rfl⟩) z
    rw [cutl, List.length_append]
    by_cases hd : (dwn h l n).log2 < h
    · have fk := mem_frk.1 (dwn_fork hl hu hn hd)
      have r1 := cutl_hng h0 (m := m) (n := 2 * dwn h l n) (by omega) (by omega) fk.2.2.1 (by have := da.1; omega)
      have r2 := cutl_hng h0 (m := m) (n := 2 * dwn h l n + 1) (by omega) (by omega) fk.2.2.2 (by have := da.1; omega)
      rw [if_pos hd, List.length_append]
      have dis : ∀ a ∈ (hng h l).filter (fun c => decide (Abv (2 * dwn h l n) c)), ∀ b ∈ (hng h l).filter (fun c => decide (Abv (2 * dwn h l n + 1) c)), a ≠ b := by
        rintro a ha b hb rfl
        rw [List.mem_filter, decide_eq_true_iff] at ha hb
        have := (ha.2.total (nz ha.2 (by omega) (by omega)) hb.2 (by omega)).eq_of_log2 (by omega)
        omega
      have nd := List.nodup_append.2 ⟨((hng_up h l).filter (fun c => decide (Abv (2 * dwn h l n) c))).nodup, ((hng_up h l).filter (fun c => decide (Abv (2 * dwn h l n + 1) c))).nodup, dis⟩
      have sub : ∀ x ∈ (hng h l).filter (fun c => decide (Abv (2 * dwn h l n) c)) ++ (hng h l).filter (fun c => decide (Abv (2 * dwn h l n + 1) c)), x ∈ (hng h l) ∧ Abv (dwn h l n) x := by
        intro x hx
        rw [List.mem_append, List.mem_filter, List.mem_filter, decide_eq_true_iff, decide_eq_true_iff] at hx
        rcases hx with ⟨a, b⟩ | ⟨a, b⟩
        · exact ⟨a, (abv_dbl d0).1.trans (nz b (by omega) (by omega)) b⟩
        · exact ⟨a, (abv_dbl d0).2.trans (nz b (by omega) (by omega)) b⟩
      have up : ∀ x, x ∈ hng h l → Abv (dwn h l n) x → Abv n x := fun x hx z => da.trans (hng_nd hx).1 z
      split
      · have := len_sub (b := (hng h l).filter fun c => decide (Abv n c)) nd (fun x hx => by
          obtain ⟨a, b⟩ := sub x hx
          rw [List.mem_filter, decide_eq_true_iff]; exact ⟨a, up x a b⟩)
        rw [List.length_append] at this
        simp only [List.length_nil]; omega
      · rename_i ne
        obtain ⟨o, o1, o2, o3⟩ := side ne
        have := len_sub (b := (hng h l).filter fun c => decide (Abv n c)) (List.nodup_cons.2 ⟨fun z => o3 (sub o z).2, nd⟩) (fun x hx => by
          rw [List.mem_filter, decide_eq_true_iff]
          rcases List.mem_cons.1 hx with rfl | hx
          · exact ⟨o1, o2⟩
          · obtain ⟨a, b⟩ := sub x hx
            exact ⟨a, up x a b⟩)
        rw [List.length_cons, List.length_append] at this
        simp only [List.length_singleton]; omega
    · rw [if_neg hd]
      split
      · simp
      · rename_i ne
        obtain ⟨o, o1, o2, o3⟩ := side ne
        have : 0 < ((hng h l).filter fun c => decide (Abv n c)).length := List.length_pos_of_mem (List.mem_filter.2 ⟨o1, decide_eq_true o2⟩)
        simp only [List.length_singleton, List.length_nil]; omega
end
structure Cvr (h : Nat) (l : List Nat) (c : List (Nat × Nat)) : Prop where
  sb : ∀ q ∈ c, Sb h q.1 q.2
  one : ∀ p, p < 2 ^ h → p ∉ l → ∃ q ∈ c, In h q.1 q.2 p
  dis : ∀ q ∈ c, ∀ r ∈ c, ∀ p, p < 2 ^ h → In h q.1 q.2 p → In h r.1 r.2 p → q = r
  no : ∀ p ∈ l, ∀ q ∈ c, ¬ In h q.1 q.2 p
  nodup : c.Nodup
  all : (c.map fun q => tot (spn h q.1 q.2)).sum + l.length = 2 ^ h
theorem sumtot_eq (h : Nat) : ∀ c : List (Nat × Nat), sumtot h c = (c.map fun q => tot (spn h q.1 q.2)).sum
  | [] => rfl
  | q :: c => by rw [sumtot, sumtot_eq h c]; rfl
theorem sum_perm {a b : List Nat} (p : a.Perm b) : a.sum = b.sum := by
  induction p with
  | nil => rfl
  | cons x _ ih => simp [ih]
  | swap x y l => simp; omega
  | trans _ _ i j => exact i.trans j
theorem Cvr.perm {h : Nat} {l : List Nat} {c d : List (Nat × Nat)} (k : Cvr h l c) (p : c.Perm d) : Cvr h l d :=
  ⟨fun q hq => k.sb q (p.mem_iff.2 hq), fun i hi hl => by obtain ⟨q, hq, z⟩ := k.one i hi hl; exact ⟨q, p.mem_iff.1 hq, z⟩,
   fun q hq r hr => k.dis q (p.mem_iff.2 hq) r (p.mem_iff.2 hr), fun i hi q hq => k.no i hi q (p.mem_iff.2 hq), p.nodup_iff.1 k.nodup, by rw [← k.all, sum_perm (p.map _)]⟩
theorem in_le {h : Nat} {q : Nat × Nat} (s : Sb h q.1 q.2) {p : Nat} (z : In h q.1 q.2 p) : p < 2 ^ h := by
  have := hi_lt s.1
  have := z.1.2
  omega
def whl (c : List Nat) : List (Nat × Nat) := c.map fun n => (n, 0)
theorem tot0 {h n : Nat} (d : Nd h n) : tot (spn h n 0) = 2 ^ (h - n.log2) := by
  have := spn_tot (h := h) (i := n) (j := 0) ⟨d, .inl rfl⟩
  simpa [wd] using this
theorem whl_cvr {h : Nat} (hh : 1 ≤ h ∧ h ≤ 32) {l : List Nat} (hl : ∀ i ∈ l, i < 2 ^ h) (hu : Up l) : Cvr h l (whl (hng h l)) := by
  have nd : ∀ n ∈ hng h l, Nd h n := fun n hn => by have := hng_nd hn; exact ⟨hh.1, hh.2, this.1, this.2⟩
  have sb : ∀ q ∈ whl (hng h l), Sb h q.1 q.2 := by
    intro q hq
    obtain ⟨n, hn, rfl⟩ := List.mem_map.1 hq
    exact ⟨nd n hn, .inl rfl⟩
  have ab : ∀ q ∈ whl (hng h l), ∀ p, p < 2 ^ h → (In h q.1 q.2 p ↔ Abv q.1 (2 ^ h + p)) := by
    intro q hq p hp
    obtain ⟨n, hn, rfl⟩ := List.mem_map.1 hq
    rw [in_abv ⟨nd n hn, .inl rfl⟩ hp]; simp
  refine ⟨sb, ?_, ?_, ?_, ?_, ?_⟩
  · intro p hp hm
    obtain ⟨c, hc, z, _⟩ := hng_above hl hp hm
    have hq : (c, 0) ∈ whl (hng h l) := List.mem_map.2 ⟨c, hc, rfl⟩
    exact ⟨_, hq, (ab _ hq p hp).2 z⟩
  · intro q hq r hr p hp hqp hrp
    rw [ab q hq p hp] at hqp; rw [ab r hr p hp] at hrp
    have hm : p ∉ l := fun hm => by
      obtain ⟨n, hn, rfl⟩ := List.mem_map.1 hq
      exact hng_none hl hm hn hqp
    obtain ⟨c, hc, z, u⟩ := hng_above hl hp hm
    obtain ⟨n, hn, rfl⟩ := List.mem_map.1 hq
    obtain ⟨m, hm', rfl⟩ := List.mem_map.1 hr
    rw [u n hn hqp, u m hm' hrp]
  · intro p hm q hq z
    rw [ab q hq p (hl p hm)] at z
    obtain ⟨n, hn, rfl⟩ := List.mem_map.1 hq
    exact hng_none hl hm hn z
  · unfold whl List.Nodup
    rw [List.pairwise_map]
    exact (hng_up h l).nodup.imp (fun h e => h (by injection e))
  · rw [← hng_wide hl hu]
    unfold whl
    rw [List.map_map]
    congr 2
    refine List.map_congr_left (fun n hn => ?_)
    exact tot0 (nd n hn)
def dif (h : Nat) (l : List Nat) : List (Nat × Nat) := if l = [] then [(1, 0)] else cutl h l (h + 1) 1
theorem dif_cvr {h : Nat} (hh : 1 ≤ h ∧ h ≤ 32) {l : List Nat} (hl : ∀ i ∈ l, i < 2 ^ h) (hu : Up l) : Cvr h l (dif h l) := by
  by_cases h0 : l = []
  · subst h0
    have := whl_cvr hh (l := []) (by simp) List.Pairwise.nil
    exact this
  · unfold dif; rw [if_neg h0]
    have rT := inT_root (h := h) |>.2 h0
    have one0 : (1 : Nat) ≠ 0 := by omega
    have l1 : Nat.log2 1 ≤ h := by rw [log2_one]; omega
    have l2 : h < Nat.log2 1 + (h + 1) := by rw [log2_one]; omega
    have sb : ∀ q ∈ cutl h l (h + 1) 1, Sb h q.1 q.2 ∧ q.2 ≠ 0 := by
      intro q hq
      obtain ⟨t, e, ne⟩ := (mem_cutl hl hu one0 l1 rT l2).1 hq
      have tT := topp_inT hl hu rT t
      have d0 := dwn_ne hl hu tT
      have d1 := dwn_below hl hu tT
      have d2 := dwn_le hl hu tT
      rw [← e] at d0 d1 d2
      have q0 : q.1 ≠ 0 := by
        rcases t with z | z <;> omega
      exact ⟨⟨⟨hh.1, hh.2, q0, by have := d1.1; omega⟩, .inr ⟨⟨hh.1, hh.2, d0, d2⟩, fun z => ne z.symm, d1⟩⟩, d0⟩
    have ab : ∀ q ∈ cutl h l (h + 1) 1, ∀ p, p < 2 ^ h → (In h q.1 q.2 p ↔ (Abv q.1 (2 ^ h + p) ∧ ¬ Abv q.2 (2 ^ h + p))) := by
      intro q hq p hp
      rw [in_abv (sb q hq).1 hp]
      have := (sb q hq).2
      constructor
      · rintro ⟨a, b⟩; exact ⟨a, b.resolve_left this⟩
      · rintro ⟨a, b⟩; exact ⟨a, .inr b⟩
    refine ⟨fun q hq => (sb q hq).1, ?_, ?_, ?_, ?_, ?_⟩
    · intro p hp hm
      obtain ⟨q, hq, z, _⟩ := cutl_one hl hu hp hm one0 l1 rT l2 (abv_root (leaf_ne h p))
      exact ⟨q, hq, (ab q hq p hp).2 z⟩
    · intro q hq r hr p hp hqp hrp
      rw [ab q hq p hp] at hqp; rw [ab r hr p hp] at hrp
      have hm : p ∉ l := fun hm => cutl_none hl hu one0 l1 rT l2 hm hq hqp
      obtain ⟨c, _, _, u⟩ := cutl_one hl hu hp hm one0 l1 rT l2 (abv_root (leaf_ne h p))
      rw [u q hq hqp, u r hr hrp]
    · intro p hm q hq z
      rw [ab q hq p (hl p hm)] at z
      exact cutl_none hl hu one0 l1 rT l2 hm hq z
    · have := cutl_nodup hl hu one0 l1 rT l2
      unfold List.Nodup at *
      rw [List.pairwise_map] at this
      exact this.imp (fun h e => h (by rw [e]))
    · have w := (cutl_wide hl hu one0 l1 rT l2).1
      have b1 : blw h l 1 = l := by
        unfold blw; rw [List.filter_eq_self]; intro i _; exact decide_eq_true (abv_root (leaf_ne h i))
      rw [b1, log2_one, Nat.sub_zero] at w
      rw [← w]
      congr 2
      refine List.map_congr_left (fun q hq => ?_)
      obtain ⟨s, s0⟩ := sb q hq
      have := spn_tot s
      rw [if_neg s0] at this
      unfold wd at this
      omega
theorem dif_len {h : Nat} {l : List Nat} (hl : ∀ i ∈ l, i < 2 ^ h) (hu : Up l) : (dif h l).length + 1 ≤ if l = [] then 2 else 2 * l.length := by
  unfold dif
  split
  · simp
  · rename_i h0
    have rT := inT_root (h := h) |>.2 h0
    have w := (cutl_wide hl hu (m := h + 1) (n := 1) (by omega) (by rw [log2_one]; omega) rT (by rw [log2_one]; omega)).2
    have b1 : blw h l 1 = l := by
      unfold blw; rw [List.filter_eq_self]; intro i _; exact decide_eq_true (abv_root (leaf_ne h i))
    rw [b1] at w; exact w
def lay (h : Nat) (c : List (Nat × Nat)) : List (Nat × Nat) := c.flatMap fun q => spl h q.1 q.2
theorem spl_in {h i j : Nat} (s : Sb h i j) (p : Nat) : (∃ q ∈ spl h i j, In h q.1 q.2 p) ↔ In h i j p := by
  by_cases c : Usf h i j ∨ j = 0
  · rw [spl_one c]; simp
  · rw [spl_two c]
    obtain ⟨_, _, _, s1, s2, m0⟩ := part_sb s (fun z => c (.inl z)) (fun z => c (.inr z))
    have := two_in s1 s2 m0 (fun z => c (.inr z)) p
    simp only [List.mem_cons, List.not_mem_nil, or_false, exists_eq_or_imp, exists_eq_left]
    rcases this with ⟨a, b, d⟩ | ⟨a, b, d⟩ | ⟨a, b, d⟩ <;> simp [a, b, d]
theorem spl_dis {h i j : Nat} (s : Sb h i j) {q r : Nat × Nat} (hq : q ∈ spl h i j) (hr : r ∈ spl h i j) {p : Nat} (zq : In h q.1 q.2 p) (zr : In h r.1 r.2 p) : q = r := by
  by_cases c : Usf h i j ∨ j = 0
  · rw [spl_one c] at hq hr; simp at hq hr; rw [hq, hr]
  · rw [spl_two c] at hq hr
    obtain ⟨_, _, _, s1, s2, m0⟩ := part_sb s (fun z => c (.inl z)) (fun z => c (.inr z))
    have := two_in s1 s2 m0 (fun z => c (.inr z)) p
    simp only [List.mem_cons, List.not_mem_nil, or_false] at hq hr
    rcases hq with rfl | rfl <;> rcases hr with rfl | rfl
    · rfl
    · rcases this with ⟨a, b, d⟩ | ⟨a, b, d⟩ | ⟨a, b, d⟩
      · exact absurd zr b
      · exact absurd zq a
      · exact absurd zq a
    · rcases this with ⟨a, b, d⟩ | ⟨a, b, d⟩ | ⟨a, b, d⟩
      · exact absurd zq b
      · exact absurd zr a
      · exact absurd zr a
    · rfl
theorem spl_nodup {h i j : Nat} (s : Sb h i j) : (spl h i j).Nodup := by
  by_cases c : Usf h i j ∨ j = 0
  · rw [spl_one c]; simp
  · rw [spl_two c]
    obtain ⟨_, i2, _, s1, s2, m0⟩ := part_sb s (fun z => c (.inl z)) (fun z => c (.inr z))
    simp only [List.nodup_cons, List.mem_singleton, Prod.mk.injEq, List.not_mem_nil, not_false_eq_true, List.nodup_nil, and_self, and_true]
    rintro ⟨z, _⟩
    rw [← z] at i2; omega
theorem spn_ne {h i j : Nat} (s : Sb h i j) : spn h i j ≠ [] := by
  intro e
  have t := spn_tot s
  rw [e] at t
  have := wd_pos h i
  by_cases h0 : j = 0
  · rw [if_pos h0] at t; simp [tot] at t; omega
  · rw [if_neg h0] at t; have := wd_lt s h0; simp [tot] at t; omega
theorem sb_leaf {h i j : Nat} (s : Sb h i j) : ∃ p, p < 2 ^ h ∧ In h i j p := by
  obtain ⟨x, t, e⟩ := List.exists_cons_of_ne_nil (spn_ne s)
  have r := spn_rise s
  rw [e] at r
  have hx := (r.at (i := 0) (by simp)).1
  simp only [List.getElem_cons_zero] at hx
  have : In h i j x.1 := (mem_spn s x.1).1 ⟨x, by rw [e]; simp, Nat.le_refl _, hx⟩
  exact ⟨x.1, in_le (q := (i, j)) s this, this⟩
theorem lay_cvr {h : Nat} {l : List Nat} {c : List (Nat × Nat)} (k : Cvr h l c) : Cvr h l (lay h c) := by
  have mem : ∀ q ∈ lay h c, ∃ b ∈ c, q ∈ spl h b.1 b.2 := fun q hq => List.mem_flatMap.1 hq
  have sb : ∀ q ∈ lay h c, Sb h q.1 q.2 := fun q hq => by obtain ⟨b, hb, z⟩ := mem q hq; exact spl_sb (k.sb b hb) q z
  refine ⟨sb, ?_, ?_, ?_, ?_, ?_⟩
  · intro p hp hm
    obtain ⟨b, hb, z⟩ := k.one p hp hm
    obtain ⟨q, hq, y⟩ := (spl_in (k.sb b hb) p).2 z
    exact ⟨q, List.mem_flatMap.2 ⟨b, hb, hq⟩, y⟩
  · intro q hq r hr p hp zq zr
    obtain ⟨a, ha, qa⟩ := mem q hq
    obtain ⟨b, hb, rb⟩ := mem r hr
    have : a = b := k.dis a ha b hb p hp ((spl_in (k.sb a ha) p).1 ⟨q, qa, zq⟩) ((spl_in (k.sb b hb) p).1 ⟨r, rb, zr⟩)
    subst this
    exact spl_dis (k.sb a ha) qa rb zq zr
  · intro p hm q hq z
    obtain ⟨a, ha, qa⟩ := mem q hq
    exact k.no p hm a ha ((spl_in (k.sb a ha) p).1 ⟨q, qa, z⟩)
  · unfold lay List.Nodup
    rw [List.pairwise_flatMap]
    refine ⟨fun b hb => spl_nodup (k.sb b hb), ?_⟩
    have nd := k.nodup
    unfold List.Nodup at nd
    have : c.Pairwise fun a b => a ∈ c ∧ b ∈ c ∧ a ≠ b := by
      rw [List.pairwise_iff_forall_sublist] at *
      intro a b hs
      exact ⟨hs.subset (by simp), hs.subset (by simp), nd hs⟩
    refine this.imp ?_
    rintro a b ⟨ha, hb, ne⟩ x hx y hy rfl
    obtain ⟨p, hp, z⟩ := sb_leaf (spl_sb (k.sb a ha) x hx)
    exact ne (k.dis a ha b hb p hp ((spl_in (k.sb a ha) p).1 ⟨x, hx, z⟩) ((spl_in (k.sb b hb) p).1 ⟨x, hy, z⟩))
  · rw [← k.all]
    congr 1
    have : ∀ d : List (Nat × Nat), (∀ q ∈ d, Sb h q.1 q.2) → ((lay h d).map fun q => tot (spn h q.1 q.2)).sum = (d.map fun q => tot (spn h q.1 q.2)).sum := by
      intro d
      induction d with
      | nil => intro _; rfl
      | cons b d ih =>
        intro hd
        have e : lay h (b :: d) = spl h b.1 b.2 ++ lay h d := rfl
        rw [e, List.map_append, List.sum_append, ih (fun q hq => hd q (by simp [hq])), ← sumtot_eq, spl_tot (hd b (by simp))]
        rfl
    exact this c k.sb
theorem lay_usf {h : Nat} {c : List (Nat × Nat)} (k : ∀ q ∈ c, Sb h q.1 q.2 ∧ (q.2 = 0 → q.1 = 1)) : ∀ q ∈ lay h c, Usf h q.1 q.2 := by
  intro q hq
  obtain ⟨b, hb, z⟩ := List.mem_flatMap.1 hq
  obtain ⟨s, r⟩ := k b hb
  by_cases u : Usf h b.1 b.2 ∨ b.2 = 0
  · rw [spl_one u] at z
    simp at z; subst z
    rcases u with u | u
    · exact u
    · show Usf h b.1 b.2; rw [u]; exact (usf_0 _ _).2 (r u)
  · rw [spl_two u] at z
    obtain ⟨a1, a2⟩ := two_usf s (fun z => u (.inl z)) (fun z => u (.inr z))
    simp only [List.mem_cons, List.not_mem_nil, or_false] at z
    rcases z with rfl | rfl
    · exact a1
    · exact a2
theorem lay_len (h : Nat) : ∀ c : List (Nat × Nat), c.length ≤ (lay h c).length ∧ (lay h c).length ≤ 2 * c.length
  | [] => by simp [lay]
  | b :: c => by
    have e : lay h (b :: c) = spl h b.1 b.2 ++ lay h c := rfl
    have := lay_len h c
    have l1 : 1 ≤ (spl h b.1 b.2).length ∧ (spl h b.1 b.2).length ≤ 2 := by unfold spl; split <;> simp
    rw [e, List.length_append, List.length_cons]; omega
theorem lss_irr (a : Nat × Nat) : ¬ Lss a a := by rw [lss_iff]; omega
theorem lss_tr {a b c : Nat × Nat} (x : Lss a b) (y : Lss b c) : Lss a c := by rw [lss_iff] at *; omega
theorem lss_tot {a b : Nat × Nat} (ne : a ≠ b) : Lss a b ∨ Lss b a := by
  rw [lss_iff, lss_iff]
  obtain ⟨a1, a2⟩ := a
  obtain ⟨b1, b2⟩ := b
  simp only [ne_eq, Prod.mk.injEq] at *
  omega
def lle (a b : Nat × Nat) : Bool := !decide (Lss b a)
theorem lle_iff (a b : Nat × Nat) : lle a b = true ↔ a = b ∨ Lss a b := by
  unfold lle
  rw [Bool.not_eq_true', decide_eq_false_iff_not]
  constructor
  · intro z
    by_cases e : a = b
    · exact .inl e
    · exact .inr ((lss_tot e).resolve_right z)
  · rintro (rfl | z) y
    · exact lss_irr _ y
    · exact lss_irr _ (lss_tr z y)
def srt (c : List (Nat × Nat)) : List (Nat × Nat) := c.mergeSort lle
theorem srt_perm (c : List (Nat × Nat)) : (srt c).Perm c := List.mergeSort_perm c lle
theorem srt_sorted (c : List (Nat × Nat)) : (srt c).Pairwise (lle · ·) := by
  refine List.pairwise_mergeSort (fun a b d x y => ?_) (fun a b => ?_) c
  · rw [lle_iff] at *
    rcases x with rfl | x
    · exact y
    · rcases y with rfl | y
      · exact .inr x
      · exact .inr (lss_tr x y)
  · rw [Bool.or_eq_true, lle_iff, lle_iff]
    by_cases e : a = b
    · exact .inl (.inl e)
    · rcases lss_tot e with z | z
      · exact .inl (.inr z)
      · exact .inr (.inr z)
theorem srt_strict {c : List (Nat × Nat)} (nd : c.Nodup) : (srt c).Pairwise Lss := by
  have n2 : (srt c).Nodup := (srt_perm c).nodup_iff.2 nd
  unfold List.Nodup at n2
  have := (srt_sorted c).and n2
  refine this.imp ?_
  rintro a b ⟨x, y⟩
  rw [lle_iff] at x
  exact x.resolve_left y
theorem ints_of (l : List Int) (h : ∀ x ∈ l, (Lit.int .u64 x).wf = true) : ∃ m : List Nat, l = ints m ∧ ∀ x ∈ m, x < 18446744073709551616 := by
  refine ⟨l.map Int.toNat, ?_, ?_⟩
  · unfold ints
    rw [List.map_map]
    symm
    rw [List.map_congr_left (g := id)]
    · simp
    · intro x hx
      obtain ⟨n, rfl, _⟩ := wf_u64 (h x hx)
      simp
  · intro x hx
    obtain ⟨y, hy, rfl⟩ := List.mem_map.1 hx
    obtain ⟨n, rfl, hn⟩ := wf_u64 (h y hy)
    simpa using hn
theorem ints_app (a b : List Nat) : ints a ++ ints b = ints (a ++ b) := by simp [ints]
theorem ints_one (n : Nat) : [(n : Int)] = ints [n] := rfl
theorem ints_take (l : List Nat) (n : Nat) : (ints l).take n = ints (l.take n) := by simp [ints]
theorem ints_drop (l : List Nat) (n : Nat) : (ints l).drop n = ints (l.drop n) := by simp [ints]
def Lst (h : Int) (l : List Nat) : Prop := Hi h ∧ l.length ≤ 1024 ∧ (∀ i ∈ l, i < 2 ^ h.toNat) ∧ Up l
instance (l : List Nat) : Decidable (Up l) := inferInstanceAs (Decidable (l.Pairwise (· < ·)))
instance (h : Int) (l : List Nat) : Decidable (Lst h l) := inferInstanceAs (Decidable (_ ∧ _))
def okf (H : Nat) : Option Nat → List Nat → Bool
  | _, [] => true
  | p, i :: l => decide (i < 2 ^ H) && (match p with | none => true | some q => decide (q < i)) && okf H (some i) l
theorem okf_some (H : Nat) : ∀ (l : List Nat) (q : Nat), okf H (some q) l = true ↔ (∀ i ∈ l, i < 2 ^ H) ∧ Up l ∧ ∀ i ∈ l, q < i
  | [], q => by simp [okf, Up]
  | i :: l, q => by
    simp only [okf, Bool.and_eq_true, decide_eq_true_iff, okf_some H l i]
    constructor
    · rintro ⟨⟨a, b⟩, c, d, e⟩
      refine ⟨?_, List.pairwise_cons.2 ⟨e, d⟩, ?_⟩
      · intro x hx; rcases List.mem_cons.1 hx with rfl | hx
        · exact a
        · exact c x hx
      · intro x hx; rcases List.mem_cons.1 hx with rfl | hx
        · exact b
        · have := e x hx; omega
    · rintro ⟨a, b, c⟩
      exact ⟨⟨a i (by simp), c i (by simp)⟩, fun x hx => a x (by simp [hx]), b.tail, fun x hx => b.lt hx⟩
theorem okf_none (H : Nat) (l : List Nat) : okf H none l = true ↔ (∀ i ∈ l, i < 2 ^ H) ∧ Up l := by
  cases l with
  | nil => simp [okf, Up]
  | cons i l =>
    simp only [okf, Bool.and_eq_true, decide_eq_true_iff, okf_some H l i, and_true]
    constructor
    · rintro ⟨a, c, d, e⟩
      refine ⟨?_, List.pairwise_cons.2 ⟨e, d⟩⟩
      intro x hx; rcases List.mem_cons.1 hx with rfl | hx
      · exact a
      · exact c x hx
    · rintro ⟨a, b⟩
      exact ⟨a i (by simp), fun x hx => a x (by simp [hx]), b.tail, fun x hx => b.lt hx⟩
def bef (l : List Nat) (i : Nat) : Option Nat := if i = 0 then none else l[i - 1]?
theorem bef_succ {l : List Nat} {i : Nat} (hi : i < l.length) : bef l (i + 1) = some l[i] := by unfold bef; rw [if_neg (by omega)]; simp [hi]
theorem lCheck_l (h : Int) (hh : Hi h) (l : List Nat) (hb : ∀ x ∈ l, x < 18446744073709551616) (hn : l.length < 4611686018427387904) : ∀ (q i k : Nat), i + q = l.length → q < k →
    leaf_Check.l0 k h (ints l) (ints l) (l.length : Int) (i : Int) = some (if okf h.toNat (bef l i) (l.drop i) = true then 0 else 1) := by
  intro q
  induction q with
  | zero =>
    intro i k hi hk
    obtain ⟨k, rfl⟩ : ∃ m, k = m + 1 := ⟨k - 1, by omega⟩
    simp only [leaf_Check.l0]
    rw [if_neg (by omega), List.drop_of_length_le (by omega)]; simp [okf]
  | succ q ih =>
    intro i k hi hk
    obtain ⟨k, rfl⟩ : ∃ m, k = m + 1 := ⟨k - 1, by omega⟩
    have d1 : l.drop i = l[i] :: l.drop (i + 1) := List.drop_eq_getElem_cons (by omega)
    have lb := hb l[i] (List.getElem_mem (by omega))
    have r := ih (i + 1) k (by omega) (by omega)
    rw [bef_succ (by omega)] at r
    simp only [leaf_Check.l0]
    rw [if_pos (by omega), if_pos (by omega), if_pos (by rw [ints_len]; omega), ints_rd (show i < l.length by omega), lis_eq h lb]; simp only [bnd]
    rw [w64 (x := (i : Int) + 1) (by omega) (by omega), show (i : Int) + 1 = ((i + 1 : Nat) : Int) by omega, r, d1]
    by_cases c : l[i] < 2 ^ h.toNat
    · rw [decide_eq_true (show Lfi h l[i] from ⟨hh, c⟩), if_pos rfl]
      by_cases i0 : i = 0
      · subst i0
        rw [if_neg (by omega)]
        simp only [okf, bef, if_true, decide_eq_true c, Bool.true_and, Bool.and_true]
      · have ei : (i : Int) - 1 = ((i - 1 : Nat) : Int) := by omega
        rw [if_pos (by omega), w64 (x := (i : Int) - 1) (by omega) (by omega), ei, if_pos (by omega), if_pos (by rw [ints_len]; omega), ints_rd (show i - 1 < l.length by omega)]
        have eb : bef l i = some l[i - 1] := by unfold bef; rw [if_neg i0]; simp [show i - 1 < l.length by omega]
        rw [eb]
        by_cases g : l[i - 1] < l[i]
        · rw [if_neg (by omega)]
          simp only [okf, decide_eq_true c, decide_eq_true g, Bool.true_and, Bool.and_true]
        · rw [if_pos (by omega)]
          simp [okf, g]
    · rw [decide_eq_false (show ¬ Lfi h l[i] from fun z => c z.2), if_neg (by simp)]
      simp [okf, c]
theorem lCheck_eq (h : Int) {l : List Nat} (hb : ∀ x ∈ l, x < 18446744073709551616) (hn : l.length < 4611686018427387904) {k : Nat} (hk : l.length + 2 ≤ k) :
    leaf_Check.f k h (ints l) = some (if Lst h l then 0 else 1) := by
  obtain ⟨k, rfl⟩ : ∃ m, k = m + 1 := ⟨k - 1, by omega⟩
  unfold leaf_Check.f
  rw [checkRoot_eq]; simp only [bnd]
  by_cases hh : Hi h
  · rw [if_pos hh, if_pos rfl, ints_len]
    simp only [leaf_Check.j0]
    by_cases c : l.length ≤ 1024
    · rw [decide_eq_false (by omega), if_neg (by simp), ints_len]
      have := lCheck_l h hh l hb hn l.length 0 k (by omega) (by omega)
      rw [show ((0 : Nat) : Int) = 0 from rfl, List.drop_zero, show bef l 0 = none from rfl] at this
      rw [this]
      by_cases o : okf h.toNat none l = true
      · have o' := (okf_none _ _).1 o
        rw [if_pos o, if_pos (show Lst h l from ⟨hh, c, o'.1, o'.2⟩)]
      · rw [if_neg o, if_neg (show ¬ Lst h l from fun z => o ((okf_none _ _).2 ⟨z.2.2.1, z.2.2.2⟩))]
    · rw [decide_eq_true (by omega), if_pos rfl, if_neg (show ¬ Lst h l from fun z => c z.2.1)]
  · rw [if_neg hh, if_neg (by omega)]
    simp only [leaf_Check.j0, if_true]
    rw [if_neg (show ¬ Lst h l from fun z => hh z.1)]
def pos (l : List Nat) (x : Nat) : Nat := (l.filter fun y => decide (y < x)).length
theorem pos_le (l : List Nat) (x : Nat) : pos l x ≤ l.length := List.length_filter_le _ _
theorem pos_iff : ∀ {l : List Nat}, Up l → ∀ (x p : Nat) (hp : p < l.length), l[p] < x ↔ p < pos l x
  | [], _, x, p, hp => by simp at hp
  | a :: l, hu, x, p, hp => by
    unfold pos
    rw [List.filter_cons]
    by_cases c : a < x
    · rw [if_pos (decide_eq_true c), List.length_cons]
      cases p with
      | zero => simp [c]
      | succ p =>
        rw [List.getElem_cons_succ]
        have := pos_iff hu.tail x p (by simpa using hp)
        unfold pos at this
        rw [this]; omega
    · rw [if_neg (by simpa using c)]
      have : l.filter (fun y => decide (y < x)) = [] := by
        rw [List.filter_eq_nil_iff]; intro y hy; have := hu.lt hy; simp; omega
      rw [this]
      cases p with
      | zero => simp [c]
      | succ p =>
        rw [List.getElem_cons_succ]
        have := hu.lt (List.getElem_mem (l := l) (show p < l.length by simpa using hp))
        simp; omega
theorem pos_take {l : List Nat} (hu : Up l) (x : Nat) : l.take (pos l x) = l.filter fun y => decide (y < x) := by
  induction l with
  | nil => rfl
  | cons a l ih =>
    unfold pos
    rw [List.filter_cons]
    by_cases c : a < x
    · rw [if_pos (decide_eq_true c), List.length_cons, List.take_succ_cons]
      congr 1
      exact ih hu.tail
    · rw [if_neg (by simpa using c)]
      have : l.filter (fun y => decide (y < x)) = [] := by
        rw [List.filter_eq_nil_iff]; intro y hy; have := hu.lt hy; simp; omega
      rw [this]; rfl
theorem pos_drop {l : List Nat} (hu : Up l) (x : Nat) : l.drop (pos l x) = l.filter fun y => decide (x ≤ y) := by
  induction l with
  | nil => rfl
  | cons a l ih =>
    unfold pos
    rw [List.filter_cons, List.filter_cons]
    by_cases c : a < x
    · rw [if_pos (decide_eq_true c), List.length_cons, List.drop_succ_cons, if_neg (by simp; omega)]
      exact ih hu.tail
    · rw [if_neg (by simpa using c), if_pos (by simp; omega)]
      have : l.filter (fun y => decide (y < x)) = [] := by
        rw [List.filter_eq_nil_iff]; intro y hy; have := hu.lt hy; simp; omega
      rw [this]
      simp only [List.length_nil, List.drop_zero]
      congr 1
      symm
      rw [List.filter_eq_self]; intro y hy; have := hu.lt hy; simp; omega
theorem cmpLess_eq (a b : Nat) : cmp_Less_uint64.f (a : Int) (b : Int) = some (decide (a < b)) := by
  unfold cmp_Less_uint64.f cmp_isNaN_uint64.f
  simp
theorem isNaN_eq (a : Nat) : slices_isNaN_uint64.f (a : Int) = some false := by unfold slices_isNaN_uint64.f; simp
theorem half_eq {a b : Nat} (h : a + b < 9223372036854775808) : wrap64 ((IntKind.u64.wrap (wrap64 ((a : Int) + (b : Int)))) / 2) = (((a + b) / 2 : Nat) : Int) := by
  rw [w64 (x := (a : Int) + b) (by omega) (by omega), wu64 (by omega) (by omega), w64 (by omega) (by omega)]; omega
theorem search_l {l : List Nat} (hu : Up l) (x : Nat) (hn : l.length < 4611686018427387904) : ∀ (q i j k : Nat), j - i ≤ q → q < k → i ≤ pos l x → pos l x ≤ j → j ≤ l.length →
    slices_BinarySearch_uint64_uint64.l0 k (ints l) (x : Int) (l.length : Int) (i : Int) (j : Int) = some ((pos l x : Int), decide (x ∈ l)) := by
  intro q
  induction q with
  | zero =>
    intro i j k hq hk h1 h2 h3
    obtain ⟨k, rfl⟩ : ∃ m, k = m + 1 := ⟨k - 1, by omega⟩
    have e : i = pos l x := by omega
    have e2 : j = i := by omega
    subst e2
    rw [e]
    simp only [slices_BinarySearch_uint64_uint64.l0]
    rw [if_neg (by omega)]
    by_cases c : pos l x < l.length
    · rw [if_pos (by omega), if_pos (by omega), if_pos (by rw [ints_len]; omega), ints_rd c]
      have hp := pos_iff hu x (pos l x) c
      by_cases d : l[pos l x] = x
      · rw [if_pos (by omega), decide_eq_true (by rw [← d]; exact List.getElem_mem c)]
      · rw [if_neg (by omega), isNaN_eq]; simp only [bnd]
        rw [if_neg (by simp)]
        congr 2; symm; rw [decide_eq_false_iff_not]
        intro hx
        obtain ⟨p, hp', rfl⟩ := List.getElem_of_mem hx
        have a := pos_iff hu l[p] p hp'
        rcases Nat.lt_trichotomy p (pos l l[p]) with z | z | z
        · have := a.2 z; omega
        · exact d (by simp [← z])
        · have := List.pairwise_iff_getElem.1 hu (pos l l[p]) p c hp' z
          have := hp.1 this; omega
    · rw [if_neg (by omega)]
      congr 2; symm; rw [decide_eq_false_iff_not]
      intro hx
      obtain ⟨p, hp', rfl⟩ := List.getElem_of_mem hx
      have a := pos_iff hu l[p] p hp'
      have := a.2 (by have := pos_le l l[p]; omega); omega
  | succ q ih =>
    intro i j k hq hk h1 h2 h3
    obtain ⟨k, rfl⟩ : ∃ m, k = m + 1 := ⟨k - 1, by omega⟩
    by_cases c : i < j
    · simp only [slices_BinarySearch_uint64_uint64.l0]
      have hm : (i + j) / 2 < l.length := by omega
      rw [if_pos (by omega), half_eq (by omega), if_pos (by omega), if_pos (by rw [ints_len]; omega), ints_rd hm, cmpLess_eq]; simp only [bnd]
      have hp := pos_iff hu x ((i + j) / 2) hm
      by_cases d : l[(i + j) / 2] < x
      · rw [decide_eq_true d, if_pos rfl, w64 (by omega) (by omega), show (((i + j) / 2 : Nat) : Int) + 1 = (((i + j) / 2 + 1 : Nat) : Int) by omega]
        exact ih _ _ k (by omega) (by omega) (by have := hp.1 d; omega) h2 h3
      · rw [decide_eq_false d, if_neg (by simp)]
        exact ih _ _ k (by omega) (by omega) h1 (by have : ¬ _ := fun z => d (hp.2 z); omega) (by omega)
    · exact ih i j (k + 1) (by omega) (by omega) h1 h2 h3
theorem search_eq {l : List Nat} (hu : Up l) (x : Nat) (hn : l.length < 4611686018427387904) {k : Nat} (hk : l.length < k) :
    slices_BinarySearch_uint64_uint64.f k (ints l) (x : Int) = some ((pos l x : Int), decide (x ∈ l)) := by
  unfold slices_BinarySearch_uint64_uint64.f
  rw [ints_len]
  have := search_l hu x hn l.length 0 l.length k (by omega) hk (by omega) (pos_le l x) (Nat.le_refl _)
  exact this
theorem clone_eq {l : List Int} (h : l.length < 17592186044416) : slices_Clone_uint64_uint64.f l = some l := by unfold slices_Clone_uint64_uint64.f; rw [if_pos h]
theorem lBelow_eq (h : Int) {l : List Nat} (hb : ∀ x ∈ l, x < 18446744073709551616) (hn : l.length < 4611686018427387904) {n : Nat} (h1 : n < 18446744073709551616) {k : Nat} (hk : l.length + 3 ≤ k) :
    leaf_Below.f k h (ints l) (n : Int) = some (if Lst h l ∧ Nd h.toNat n then (ints (blw h.toNat l n), 0) else ([], 1)) := by
  obtain ⟨k, rfl⟩ : ∃ m, k = m + 1 := ⟨k - 1, by omega⟩
  unfold leaf_Below.f
  rw [nLeaves_eq h h1]; simp only [bnd]
  by_cases c1 : Nd h.toNat n
  · rw [if_pos c1]; dsimp only
    rw [if_pos rfl, lCheck_eq h hb hn (by omega)]; simp only [bnd]
    by_cases c2 : Lst h l
    · have c12 : Lst h l ∧ Nd h.toNat n := ⟨c2, c1⟩
      have hlt := hi_lt c1
      have hw := hi_eq c1
      have hwp := wd_pos h.toNat n
      have hp32 : 2 ^ h.toNat ≤ 4294967296 := pow_le_h (by have := c1.2.1; omega)
      rw [if_pos c2, if_pos c12]
      simp only [leaf_Below.j0]
      rw [if_neg (by simp), search_eq c2.2.2.2 _ hn (by omega)]; simp only [bnd]
      rw [wu64 (by omega) (by omega), show (hi h.toNat n : Int) + 1 = ((hi h.toNat n + 1 : Nat) : Int) by omega, search_eq c2.2.2.2 _ hn (by omega)]; simp only [bnd]
      have pl := pos_le l (hi h.toNat n + 1)
      have pm : pos l (lo h.toNat n) ≤ pos l (hi h.toNat n + 1) := by
        unfold pos
        have : ∀ t : List Nat, (t.filter fun y => decide (y < lo h.toNat n)).length ≤ (t.filter fun y => decide (y < hi h.toNat n + 1)).length := by
          intro t
          induction t with
          | nil => simp
          | cons a t ih =>
            simp only [List.filter_cons]
            by_cases d : a < lo h.toNat n
            · rw [if_pos (decide_eq_true d), if_pos (decide_eq_true (by omega))]; simpa using ih
            · rw [if_neg (by simpa using d)]
              split
              · simp only [List.length_cons]; omega
              · exact ih
        exact this l
      rw [if_pos (by omega), if_pos (by omega), if_pos (by rw [ints_len]; omega), Int.toNat_natCast, Int.toNat_natCast, ints_take, ints_drop, clone_eq (by rw [ints_len, List.length_drop, List.length_take]; have := c2.2.1; omega)]; simp only [bnd]
      congr 3
      rw [pos_take c2.2.2.2]
      have u2 : Up (l.filter fun y => decide (y < hi h.toNat n + 1)) := c2.2.2.2.filter _
      have ep : pos l (lo h.toNat n) = pos (l.filter fun y => decide (y < hi h.toNat n + 1)) (lo h.toNat n) := by
        unfold pos
        rw [List.filter_filter]
        congr 1
        refine List.filter_congr (fun y _ => ?_)
        rw [Bool.eq_iff_iff]; simp; omega
      rw [ep, pos_drop u2, List.filter_filter]
      unfold blw
      refine List.filter_congr (fun y hy => ?_)
      rw [Bool.eq_iff_iff, Bool.and_eq_true, decide_eq_true_iff, decide_eq_true_iff, decide_eq_true_iff, abv_lo_hi c1 (c2.2.2.1 y hy)]
      omega
    · rw [if_neg c2, if_neg (fun z => c2 z.1)]; simp [leaf_Below.j0]
  · have c12 : ¬ (Lst h l ∧ Nd h.toNat n) := fun z => c1 z.2
    rw [if_neg c1, if_neg c12]; simp [leaf_Below.j0]
theorem xor_sib {n : Nat} (hn : n < 8589934592) : Go.bits .xor .u64 (n : Int) 1 = (sib n : Int) := by
  have := Go.bits_xor_u64_nat n 1 (by omega) (by omega)
  exact this
def Bdd (l : List (Nat × Nat)) : Prop := ∀ q ∈ l, q.1 < 18446744073709551616 ∧ q.2 < 18446744073709551616
theorem bdd_sb {h : Nat} {l : List (Nat × Nat)} (hl : ∀ q ∈ l, Sb h q.1 q.2) : Bdd l := fun q hq => sb_lt (hl q hq)
theorem or_one {n : Nat} (hn : n < 9223372036854775808) : Go.bits .or .u64 (IntKind.u64.wrap ((n : Int) * 2)) 1 = ((2 * n + 1 : Nat) : Int) := by
  rw [wu64 (by omega) (by omega), show (n : Int) * 2 = ((2 * n : Nat) : Int) by omega, show (1 : Int) = ((1 : Nat) : Int) from rfl]
  have e := Go.bits_or_u64_nat (2 * n) 1 (by omega) (by omega)
  rw [e]
  congr 1
  have := Nat.two_pow_add_eq_or_of_lt (i := 1) (b := 1) (by omega) n
  simpa using this.symm
theorem fits_eq (h s : Int) {i j : Nat} (hi' : i < 18446744073709551616) (hj : j < 18446744073709551616) {k : Nat} (hk : 12 ≤ k) : trace_fits.f k h s (i : Int) (j : Int) = some (decide (Fit h.toNat s i j)) := by
  unfold trace_fits.f
  rw [May_eq h s hi' hj hk]; simp only [bnd]
  by_cases c : Sch s ∧ Sb h.toNat i j
  · rw [if_pos c, if_pos (by trivial)]; dsimp only
    by_cases m : May h.toNat s i j
    · rw [decide_eq_true m, if_pos rfl]
      congr 1
      rw [sch_iff] at c
      by_cases s3 : s = 3
      · rw [s3, decide_eq_false (fun z => by have := z.1; omega)]; simp
      · rw [decide_eq_true ⟨by omega, c.2, m⟩]; simp [s3]
    · rw [decide_eq_false m, if_neg (by simp), decide_eq_false (fun z => m z.2.2)]
  · rw [if_neg c, if_neg (by omega), decide_eq_false (fun z => c ⟨by rw [sch_iff]; have := z.1; omega, z.2.1⟩)]
theorem only_eq (h : Int) {i j : Nat} (hi' : i < 18446744073709551616) (hj : j < 18446744073709551616) {k : Nat} (hk : 1 ≤ k) (s : Sb h.toNat i j) : trace_only.f k h (i : Int) (j : Int) = some (if tot (spn h.toNat i j) = 1 then ((lof h.toNat i j : Int), true) else (0, false)) := by
  obtain ⟨k, rfl⟩ : ∃ m, k = m + 1 := ⟨k - 1, by omega⟩
  unfold trace_only.f
  rw [sLeaves_eq h hi' hj k, if_pos s]; simp only [bnd]
  rw [if_pos (by trivial), sps_len]
  have o := spn_one s
  unfold lof
  generalize spn h.toNat i j = x at *
  match x with
  | [] => rw [if_neg (by simp), if_neg (by rw [← o]; simp)]
  | [(a, b)] =>
    have r : rd_T69 (sps [(a, b)]) 0 = ⟨(a : Int), (b : Int)⟩ := rfl
    rw [if_pos (by simp), if_pos (by simp), r]; dsimp only
    simp only [List.length_cons, List.length_nil, List.headD_cons] at o ⊢
    by_cases e : a = b
    · rw [if_pos (by rw [e]), if_pos (o.1 ⟨trivial, e⟩)]
    · rw [if_neg (by omega), if_neg (fun z => e (o.2 z).2)]
  | p :: q :: t => rw [if_neg (by simp only [List.length_cons]; omega), if_neg (by rw [← o]; simp)]
theorem Halves_eq (h s : Int) {i j : Nat} (hi' : i < 18446744073709551616) (hj : j < 18446744073709551616) {k : Nat} (hk : 12 ≤ k) :
    trace_Halves.f k h s (i : Int) (j : Int) = some (if Fit h.toNat s i j then (if tot (spn h.toNat i j) = 1 then ([], 4) else (sbs [hva s i j, hvb s i j], 0)) else ([], 1)) := by
  unfold trace_Halves.f
  rw [fits_eq h s hi' hj hk]; simp only [bnd]
  by_cases f : Fit h.toNat s i j
  · rw [decide_eq_true f, if_pos rfl, if_pos f, only_eq h hi' hj (by omega) f.2.1]; simp only [bnd]
    by_cases t : tot (spn h.toNat i j) = 1
    · rw [if_pos t, if_pos t, if_pos rfl]
    · obtain ⟨fa, fb, _, _, _⟩ := hv f t
      have sa := fa.2.1.1.lt33
      have sb := fb.2.1.1.lt33
      have di := f.2.1.1
      have li := di.lt33
      rw [if_neg t, if_neg t, if_neg (by simp)]
      rcases fit_may f with ⟨rfl, rfl⟩ | ⟨rfl, fj⟩
      · rw [show hva 1 i 0 = (2 * i, 0) from rfl] at sa ⊢
        rw [show hvb 1 i 0 = (2 * i + 1, 0) from rfl] at sb ⊢
        dsimp only at sa sb
        have w : IntKind.u64.wrap ((i : Int) * 2) = ((2 * i : Nat) : Int) := by rw [wu64 (by omega) (by omega)]; omega
        have o := or_one (n := i) (by omega)
        rw [if_pos rfl, o, w]; rfl
      · rw [if_neg (by omega)]
        by_cases j0 : j = 0
        · subst j0
          have i1 : i = 1 := fj.resolve_left (by omega)
          subst i1
          rw [if_pos (by omega)]; rfl
        · obtain ⟨dj, ne, ab⟩ := f.2.1.2.resolve_left j0
          have lij : i.log2 < j.log2 := by
            rcases Nat.lt_or_ge i.log2 j.log2 with z | z
            · exact z
            · exact absurd (ab.eq_of_log2 (by have := ab.1; omega)) ne
          have l32 := dj.2.2.2
          have h32 := dj.2.1
          obtain ⟨k, rfl⟩ : ∃ m, k = m + 1 := ⟨k - 1, by omega⟩
          rw [if_neg (by omega), Depth_eq h hi' k, if_pos di]; simp only [bnd]
          rw [if_pos (by trivial), w64 (by omega) (by omega), Up_eq h hj _ k, if_pos dj, if_pos (by omega)]; simp only [bnd]
          rw [if_pos (by trivial), show ((i.log2 : Int) + 1).toNat = i.log2 + 1 by omega]
          by_cases c : anc j (i.log2 + 1) = j
          · have ea : hva 2 i j = (sib j, 2 * sib j) := by unfold hva; rw [if_neg (by omega), if_neg j0, if_pos c]
            have eb : hvb 2 i j = (sib j, 2 * sib j + 1) := by unfold hvb; rw [if_neg (by omega), if_neg j0, if_pos c]
            rw [ea] at sa ⊢
            rw [eb] at sb ⊢
            dsimp only at sa sb
            have w : IntKind.u64.wrap ((sib j : Int) * 2) = ((2 * sib j : Nat) : Int) := by rw [wu64 (by omega) (by omega)]; omega
            have o := or_one (n := sib j) (by omega)
            rw [c, if_pos rfl, xor_sib dj.lt33, o, w]; rfl
          · have ea : hva 2 i j = (i, anc j (i.log2 + 1)) := by unfold hva; rw [if_neg (by omega), if_neg j0, if_neg c]
            have eb : hvb 2 i j = (anc j (i.log2 + 1), j) := by unfold hvb; rw [if_neg (by omega), if_neg j0, if_neg c]
            rw [if_neg (by omega), ea, eb]; rfl
  · rw [decide_eq_false f, if_neg (by simp), if_neg f]
def asks (pl : Bool) (h : Nat) (T : List Nat) (S : List Bool) (n : Nat) (l : List (Nat × Nat)) : Bool := if pl = true then S.getD n false else T.any fun t => l.any fun q => decide (In h q.1 q.2 t)
theorem any_eq {f : S24 → Option Bool} {g : Nat × Nat → Bool} : ∀ {l : List (Nat × Nat)}, (∀ q ∈ l, f ⟨(q.1 : Int), (q.2 : Int)⟩ = some (g q)) → trace_any.f f (sbs l) = some (l.any g) := by
  intro l
  induction l with
  | nil => intro _; rfl
  | cons q l ih =>
    intro hq
    show ((f ⟨(q.1 : Int), (q.2 : Int)⟩).bind fun b => if b = true then some true else trace_any.f f (sbs l)) = _
    rw [hq q (by simp), ih (fun r hr => hq r (by simp [hr]))]; simp only [bnd]
    cases hg : g q <;> simp [hg]
theorem asks1_eq (h : Int) {t : Nat} (ht : Lfi h t) {k : Nat} (hk : 3 ≤ k) : ∀ {l : List (Nat × Nat)}, (∀ q ∈ l, Sb h.toNat q.1 q.2) → trace_asks1.f k h (t : Int) (sbs l) = some (l.any fun q => decide (In h.toNat q.1 q.2 t)) := by
  have tl : t < 18446744073709551616 := by have := ht.2; have := pow_le_h (h := h.toNat) (by have := ht.1; rw [hi_iff] at this; omega); omega
  intro l
  induction l with
  | nil => intro _; rfl
  | cons q l ih =>
    intro hq
    have b := sb_lt (hq q (by simp))
    show ((sub_Has.f k h (q.1 : Int) (q.2 : Int) (t : Int)).bind fun p => if p.2 = 0 then (if p.1 = true then some true else trace_asks1.f k h (t : Int) (sbs l)) else trace_asks1.f k h (t : Int) (sbs l)) = _
    rw [sHas_eq h b.1 b.2 tl hk, if_pos ⟨hq q (by simp), ht⟩, ih (fun r hr => hq r (by simp [hr]))]; simp only [bnd]
    rw [if_pos (by trivial)]
    by_cases c : In h.toNat q.1 q.2 t
    · rw [if_pos (by simpa using c)]; simp [c]
    · rw [if_neg (by simpa using c)]; simp [c]
theorem asks_eq (h : Int) {l : List (Nat × Nat)} (hl : ∀ q ∈ l, Sb h.toNat q.1 q.2) {k : Nat} (hk : 3 ≤ k) : ∀ {T : List Nat}, (∀ t ∈ T, Lfi h t) → trace_asks.f k h (sbs l) (ints T) = some (T.any fun t => l.any fun q => decide (In h.toNat q.1 q.2 t)) := by
  intro T
  induction T with
  | nil => intro _; rfl
  | cons t T ih =>
    intro ht
    show ((trace_asks1.f k h (t : Int) (sbs l)).bind fun b => if b = true then some true else trace_asks.f k h (sbs l) (ints T)) = _
    rw [asks1_eq h (ht t (by simp)) hk hl, ih (fun r hr => ht r (by simp [hr]))]; simp only [bnd]
    cases hg : (l.any fun q => decide (In h.toNat q.1 q.2 t)) <;> simp [hg]
theorem rdOf_getD (S : List Bool) (n : Nat) : rdOf false S (n : Int) = S.getD n false := by
  unfold rdOf
  first | (simp; done) | (split <;> simp_all)
theorem Ask_eq (h : Int) (pl : Bool) {T : List Nat} (hb : ∀ x ∈ T, x < 18446744073709551616) (hn : T.length ≤ 1000000) (S : List Bool) (n : Int) {l : List (Nat × Nat)} (bl : Bdd l) (hl : l.length ≤ 1000000) {k : Nat} (hk : T.length + 20 ≤ k) :
    trace_Ask.f k h pl (ints T) S n (sbs l) = some (if Lst h T ∧ 0 ≤ n ∧ ∀ q ∈ l, Sb h.toNat q.1 q.2 then (asks pl h.toNat T S n.toNat l, 0) else (false, 1)) := by
  obtain ⟨k, rfl⟩ : ∃ m, k = m + 1 := ⟨k - 1, by omega⟩
  unfold trace_Ask.f
  rw [lCheck_eq h hb (by omega) (k := k + 1) (by omega)]; simp only [bnd]
  by_cases c : Lst h T
  · rw [if_pos c, if_pos (by trivial)]
    by_cases c1 : n < 0
    · rw [if_pos c1, if_neg (fun z => by omega)]
    · rw [if_neg c1, if_pos ⟨by rw [sbs_len]; exact hl, by rw [ints_len]; exact hn⟩, any_eq (g := fun q => !decide (Sb h.toNat q.1 q.2)) (fun q hq => by
        rw [sCheck_eq h (bl q hq).1 (bl q hq).2 k]; simp only [bnd]
        by_cases z : Sb h.toNat q.1 q.2 <;> simp [z])]; simp only [bnd]
      by_cases c2 : ∀ q ∈ l, Sb h.toNat q.1 q.2
      · have e : (l.any fun q => !decide (Sb h.toNat q.1 q.2)) = false := by simpa using fun a b hab => c2 (a, b) hab
        obtain ⟨n, rfl⟩ : ∃ m : Nat, n = (m : Int) := ⟨n.toNat, by omega⟩
        have pp : Lst h T ∧ 0 ≤ (n : Int) ∧ ∀ q ∈ l, Sb h.toNat q.1 q.2 := ⟨c, by omega, c2⟩
        rw [e, if_neg (by simp), if_pos pp, Int.toNat_natCast]
        unfold asks
        cases pl with
        | true =>
          rw [if_pos rfl, if_pos rfl]
          by_cases c3 : (n : Int) < (S.length : Int)
          · rw [if_pos c3, rdOf_getD]
          · rw [if_neg c3, List.getD_eq_getElem?_getD, List.getElem?_eq_none (by omega)]; rfl
        | false =>
          rw [if_neg (by simp), if_neg (by simp), asks_eq h c2 (by omega) (fun t ht => ⟨c.1, c.2.2.1 t ht⟩)]; rfl
      · have e : (l.any fun q => !decide (Sb h.toNat q.1 q.2)) = true := by
          simp only [List.any_eq_true, Bool.not_eq_true', decide_eq_false_iff_not]
          refine Classical.byContradiction fun z => c2 fun q hq => Classical.byContradiction fun y => z ⟨q, hq, y⟩
        rw [e, if_pos rfl, if_neg (fun z => c2 z.2.2)]
  · rw [if_neg c, if_neg (by omega), if_neg (fun z => c z.1)]
theorem yes_eq (h : Int) (pl : Bool) {T : List Nat} (c : Lst h T) (S : List Bool) (n : Nat) {l : List (Nat × Nat)} (hs : ∀ q ∈ l, Sb h.toNat q.1 q.2) (hl : l.length ≤ 1000000) {k : Nat} (hk : T.length + 20 ≤ k) :
    trace_yes.f k h pl (ints T) S (n : Int) (sbs l) = some (asks pl h.toNat T S n l) := by
  have hb : ∀ x ∈ T, x < 18446744073709551616 := fun x hx => by have := c.2.2.1 x hx; have := pow_le_h (h := h.toNat) (by have := c.1; rw [hi_iff] at this; omega); omega
  unfold trace_yes.f
  rw [Ask_eq h pl hb (by have := c.2.1; omega) S n (bdd_sb hs) hl hk, if_pos ⟨c, by omega, hs⟩]; simp only [bnd]
  rw [if_pos (by trivial), Int.toNat_natCast]
def gap (Y : Nat → List (Nat × Nat) → Bool) (l : List (Nat × Nat)) : Nat → Nat → Nat → Nat → Nat × Nat
  | 0, n, lo, hi => (lo, n)
  | m + 1, n, lo, hi => if 1 < hi - lo then (if Y n (l.drop ((lo + hi) / 2)) = true then gap Y l m (n + 1) ((lo + hi) / 2) hi else gap Y l m (n + 1) lo ((lo + hi) / 2)) else (lo, n)
theorem gap_eqv (Y : Nat → List (Nat × Nat) → Bool) (l : List (Nat × Nat)) : ∀ (m m' n lo hi : Nat), hi - lo ≤ m + 1 → hi - lo ≤ m' + 1 → gap Y l m n lo hi = gap Y l m' n lo hi := by
  intro m
  induction m with
  | zero =>
    intro m' n lo hi h1 h2
    cases m' with
    | zero => rfl
    | succ m' => rw [gap, gap, if_neg (by omega)]
  | succ m ih =>
    intro m' n lo hi h1 h2
    cases m' with
    | zero => rw [gap, gap, if_neg (by omega)]
    | succ m' =>
      rw [gap, gap]
      by_cases c : 1 < hi - lo
      · rw [if_pos c, if_pos c]
        by_cases d : Y n (l.drop ((lo + hi) / 2)) = true
        · rw [if_pos d, if_pos d, ih m' _ _ _ (by omega) (by omega)]
        · rw [if_neg d, if_neg d, ih m' _ _ _ (by omega) (by omega)]
      · rw [if_neg c, if_neg c]
theorem sz_half {x : Nat} (h : 1 ≤ x) : sz x = sz (x / 2) + 1 := by
  by_cases c : x = 1
  · subst c; decide
  · have := sz_div (n := x) (k := 1) (by rw [Nat.pow_one]; omega)
    rw [Nat.pow_one] at this; exact this
theorem sz_mono {a b : Nat} (h : a ≤ b) : sz a ≤ sz b := by
  unfold sz
  by_cases a0 : a = 0
  · rw [if_pos a0]; omega
  · rw [if_neg a0, if_neg (by omega)]
    have h1 := log2_lo a0
    have h2 := log2_hi b
    rcases Nat.lt_or_ge b.log2 a.log2 with z | z
    · have := pow_mono (show b.log2 + 1 ≤ a.log2 by omega); omega
    · omega
theorem gap_rng (Y : Nat → List (Nat × Nat) → Bool) (l : List (Nat × Nat)) : ∀ (m n lo hi : Nat), lo < hi → hi - lo ≤ m + 1 → lo ≤ (gap Y l m n lo hi).1 ∧ (gap Y l m n lo hi).1 < hi ∧ n ≤ (gap Y l m n lo hi).2 ∧ (gap Y l m n lo hi).2 ≤ n + sz (hi - lo - 1) := by
  intro m
  induction m with
  | zero => intro n lo hi h1 h2; rw [gap]; dsimp only; omega
  | succ m ih =>
    intro n lo hi h1 h2
    rw [gap]
    by_cases c : 1 < hi - lo
    · rw [if_pos c]
      have e := sz_half (x := hi - lo - 1) (by omega)
      by_cases d : Y n (l.drop ((lo + hi) / 2)) = true
      · rw [if_pos d]
        obtain ⟨a1, a2, a3, a4⟩ := ih (n + 1) ((lo + hi) / 2) hi (by omega) (by omega)
        have := sz_mono (show hi - (lo + hi) / 2 - 1 ≤ (hi - lo - 1) / 2 by omega)
        exact ⟨by omega, a2, by omega, by omega⟩
      · rw [if_neg d]
        obtain ⟨a1, a2, a3, a4⟩ := ih (n + 1) lo ((lo + hi) / 2) (by omega) (by omega)
        have := sz_mono (show (lo + hi) / 2 - lo - 1 ≤ (hi - lo - 1) / 2 by omega)
        exact ⟨by omega, by omega, by omega, by omega⟩
    · rw [if_neg c]; dsimp only; omega
theorem gap_find {Y : Nat → List (Nat × Nat) → Bool} {Z : List (Nat × Nat) → Bool} (hY : ∀ n l, Y n l = Z l) (l : List (Nat × Nat)) : ∀ (m n lo hi : Nat), lo < hi → hi - lo ≤ m + 1 → Z (l.drop lo) = true → Z (l.drop hi) = false →
    Z (l.drop (gap Y l m n lo hi).1) = true ∧ Z (l.drop ((gap Y l m n lo hi).1 + 1)) = false := by
  intro m
  induction m with
  | zero =>
    intro n lo hi h1 h2 z1 z2
    rw [gap]; dsimp only
    rw [show lo + 1 = hi by omega]; exact ⟨z1, z2⟩
  | succ m ih =>
    intro n lo hi h1 h2 z1 z2
    rw [gap]
    by_cases c : 1 < hi - lo
    · rw [if_pos c, hY]
      by_cases d : Z (l.drop ((lo + hi) / 2)) = true
      · rw [if_pos d]; exact ih _ _ _ (by omega) (by omega) d z2
      · rw [if_neg d]; exact ih _ _ _ (by omega) (by omega) z1 (by simpa using d)
    · rw [if_neg c]; dsimp only
      rw [show lo + 1 = hi by omega]; exact ⟨z1, z2⟩
theorem sbs_drop (l : List (Nat × Nat)) (n : Nat) : (sbs l).drop n = sbs (l.drop n) := by simp [sbs]
theorem gap_eq (h : Int) (pl : Bool) {T : List Nat} (c : Lst h T) (S : List Bool) {l : List (Nat × Nat)} (hs : ∀ q ∈ l, Sb h.toNat q.1 q.2) (hl : l.length ≤ 1000000) {k : Nat} (hk : T.length + 20 ≤ k) : ∀ (m n lo hi : Nat), hi - lo ≤ m + 1 → hi ≤ l.length → n + (hi - lo) ≤ 2000000 →
    trace_gap.g k h pl (ints T) S (sbs l) (m + 1) (n : Int) lo hi = some ((gap (asks pl h.toNat T S) l m n lo hi).1, ((gap (asks pl h.toNat T S) l m n lo hi).2 : Int)) := by
  intro m
  induction m with
  | zero => intro n lo hi h1 h2 h3; rw [trace_gap.g, if_neg (by omega), gap]
  | succ m ih =>
    intro n lo hi h1 h2 h3
    rw [trace_gap.g, gap]
    by_cases d : 1 < hi - lo
    · rw [if_pos d, if_pos d, sbs_drop, yes_eq h pl c S n (fun q hq => hs q (List.mem_of_mem_drop hq)) (by rw [List.length_drop]; omega) hk]; simp only [bnd]
      rw [w64 (by omega) (by omega), show (n : Int) + 1 = ((n + 1 : Nat) : Int) by omega]
      by_cases y : asks pl h.toNat T S n (l.drop ((lo + hi) / 2)) = true
      · rw [if_pos y, if_pos y, ih _ _ _ (by omega) (by omega) (by omega)]
      · rw [if_neg y, if_neg y, ih _ _ _ (by omega) (by omega) (by omega)]
    · rw [if_neg d, if_neg d]
def dsc (Y : Nat → List (Nat × Nat) → Bool) (h : Nat) (s : Int) : Nat → Nat → Nat × Nat → Nat × Nat
  | 0, n, q => (lof h q.1 q.2, n)
  | m + 1, n, q => if tot (spn h q.1 q.2) = 1 then (lof h q.1 q.2, n) else if Y n [hva s q.1 q.2] = true then dsc Y h s m (n + 1) (hva s q.1 q.2) else dsc Y h s m (n + 1) (hvb s q.1 q.2)
theorem dsc_eqv (Y : Nat → List (Nat × Nat) → Bool) {h : Nat} {s : Int} : ∀ (m m' n : Nat) (q : Nat × Nat), Fit h s q.1 q.2 → msr h s q ≤ m → msr h s q ≤ m' → dsc Y h s m n q = dsc Y h s m' n q := by
  intro m
  induction m with
  | zero =>
    intro m' n q f h1 h2
    cases m' with
    | zero => rfl
    | succ m' =>
      rw [dsc, dsc]
      by_cases t : tot (spn h q.1 q.2) = 1
      · rw [if_pos t]
      · exact absurd (hv f t).2.2.2.1 (by show ¬ msr h s _ < msr h s q; omega)
  | succ m ih =>
    intro m' n q f h1 h2
    by_cases t : tot (spn h q.1 q.2) = 1
    · cases m' with
      | zero => rw [dsc, dsc, if_pos t]
      | succ m' => rw [dsc, dsc, if_pos t, if_pos t]
    · obtain ⟨fa, fb, _, la, lb⟩ := hv f t
      replace la : msr h s (hva s q.1 q.2) < msr h s q := la
      replace lb : msr h s (hvb s q.1 q.2) < msr h s q := lb
      cases m' with
      | zero => omega
      | succ m' =>
        rw [dsc, dsc, if_neg t, if_neg t]
        by_cases y : Y n [hva s q.1 q.2] = true
        · rw [if_pos y, if_pos y, ih m' _ _ fa (by omega) (by omega)]
        · rw [if_neg y, if_neg y, ih m' _ _ fb (by omega) (by omega)]
theorem in_lt {h i j p : Nat} (s : Sb h i j) (z : In h i j p) : p < 2 ^ h := by
  have d := s.1
  have := hi_lt d
  have := z.1.2
  omega
theorem dsc_in (Y : Nat → List (Nat × Nat) → Bool) {h : Nat} {s : Int} : ∀ (m n : Nat) (q : Nat × Nat), Fit h s q.1 q.2 → msr h s q ≤ m → In h q.1 q.2 (dsc Y h s m n q).1 ∧ n ≤ (dsc Y h s m n q).2 ∧ (dsc Y h s m n q).2 ≤ n + msr h s q := by
  intro m
  induction m with
  | zero => intro n q f h1; rw [dsc]; exact ⟨lof_in f.2.1, by dsimp only; omega, by dsimp only; omega⟩
  | succ m ih =>
    intro n q f h1
    rw [dsc]
    by_cases t : tot (spn h q.1 q.2) = 1
    · rw [if_pos t]; exact ⟨lof_in f.2.1, by dsimp only; omega, by dsimp only; omega⟩
    · obtain ⟨fa, fb, hl, la, lb⟩ := hv f t
      replace la : msr h s (hva s q.1 q.2) < msr h s q := la
      replace lb : msr h s (hvb s q.1 q.2) < msr h s q := lb
      rw [if_neg t]
      by_cases y : Y n [hva s q.1 q.2] = true
      · rw [if_pos y]
        obtain ⟨a1, a2, a3⟩ := ih (n + 1) _ fa (by omega)
        exact ⟨((hl.1 _ (in_lt fa.2.1 a1)).1).2 (.inl a1), by omega, by omega⟩
      · rw [if_neg y]
        obtain ⟨a1, a2, a3⟩ := ih (n + 1) _ fb (by omega)
        exact ⟨((hl.1 _ (in_lt fb.2.1 a1)).1).2 (.inr a1), by omega, by omega⟩
theorem dsc_find {Y : Nat → List (Nat × Nat) → Bool} {T : List Nat} {h : Nat} {s : Int} (hY : ∀ n q, Y n [q] = T.any fun t => decide (In h q.1 q.2 t)) (hT : ∀ t ∈ T, t < 2 ^ h) : ∀ (m n : Nat) (q : Nat × Nat), Fit h s q.1 q.2 → msr h s q ≤ m → (∃ t ∈ T, In h q.1 q.2 t) → (dsc Y h s m n q).1 ∈ T := by
  have one : ∀ {q : Nat × Nat}, Fit h s q.1 q.2 → tot (spn h q.1 q.2) = 1 → (∃ t ∈ T, In h q.1 q.2 t) → lof h q.1 q.2 ∈ T := by
    rintro q f t ⟨x, hx, z⟩
    rw [← (one_in f.2.1 t).1 z]; exact hx
  intro m
  induction m with
  | zero =>
    intro n q f h1 ex
    rw [dsc]
    by_cases t : tot (spn h q.1 q.2) = 1
    · exact one f t ex
    · exact absurd (hv f t).2.2.2.1 (by show ¬ msr h s _ < msr h s q; omega)
  | succ m ih =>
    intro n q f h1 ex
    rw [dsc]
    by_cases t : tot (spn h q.1 q.2) = 1
    · rw [if_pos t]; exact one f t ex
    · obtain ⟨fa, fb, hl, la, lb⟩ := hv f t
      replace la : msr h s (hva s q.1 q.2) < msr h s q := la
      replace lb : msr h s (hvb s q.1 q.2) < msr h s q := lb
      rw [if_neg t, hY]
      by_cases y : (T.any fun t => decide (In h (hva s q.1 q.2).1 (hva s q.1 q.2).2 t)) = true
      · rw [if_pos y]
        refine ih (n + 1) _ fa (by omega) ?_
        simpa using y
      · rw [if_neg y]
        refine ih (n + 1) _ fb (by omega) ?_
        obtain ⟨x, hx, z⟩ := ex
        rcases ((hl.1 x (hT x hx)).1).1 z with w | w
        · exact absurd (by simp only [List.any_eq_true, decide_eq_true_eq]; exact ⟨x, hx, w⟩) y
        · exact ⟨x, hx, w⟩
theorem d_eq (h : Int) {s : Int} (pl : Bool) {T : List Nat} (c : Lst h T) (S : List Bool) {k : Nat} (hk : T.length + 20 ≤ k) : ∀ (m n : Nat) (q : Nat × Nat), Fit h.toNat s q.1 q.2 → msr h.toNat s q ≤ m → n + msr h.toNat s q ≤ 2000000 →
    trace_Trace.d k h s pl (ints T) S (m + 1) (n : Int) (q.1 : Int) (q.2 : Int) = some (true, ((dsc (asks pl h.toNat T S) h.toNat s m n q).1 : Int), ((dsc (asks pl h.toNat T S) h.toNat s m n q).2 : Int), 0) := by
  have fin : ∀ (n : Nat) (q : Nat × Nat) (m : Nat), Fit h.toNat s q.1 q.2 → tot (spn h.toNat q.1 q.2) = 1 → trace_Trace.d k h s pl (ints T) S (m + 1) (n : Int) (q.1 : Int) (q.2 : Int) = some (true, (lof h.toNat q.1 q.2 : Int), (n : Int), 0) := by
    intro n q m f t
    have b := sb_lt f.2.1
    rw [trace_Trace.d, Halves_eq h s b.1 b.2 (by omega), if_pos f, if_pos t]; simp only [bnd]
    rw [if_neg (by omega), only_eq h b.1 b.2 (by omega) f.2.1, if_pos t]; simp only [bnd]
  intro m
  induction m with
  | zero =>
    intro n q f h1 h2
    by_cases t : tot (spn h.toNat q.1 q.2) = 1
    · rw [fin n q 0 f t, dsc]
    · exact absurd (hv f t).2.2.2.1 (by show ¬ msr h.toNat s _ < msr h.toNat s q; omega)
  | succ m ih =>
    intro n q f h1 h2
    by_cases t : tot (spn h.toNat q.1 q.2) = 1
    · rw [fin n q _ f t, dsc, if_pos t]
    · obtain ⟨fa, fb, hl, la, lb⟩ := hv f t
      replace la : msr h.toNat s (hva s q.1 q.2) < msr h.toNat s q := la
      replace lb : msr h.toNat s (hvb s q.1 q.2) < msr h.toNat s q := lb
      have b := sb_lt f.2.1
      have r0 := rdT_sbs (l := [hva s q.1 q.2, hvb s q.1 q.2]) (i := 0) (by simp)
      have r1 := rdT_sbs (l := [hva s q.1 q.2, hvb s q.1 q.2]) (i := 1) (by simp)
      rw [show ((0 : Nat) : Int) = 0 from rfl] at r0
      rw [show ((1 : Nat) : Int) = 1 from rfl] at r1
      rw [trace_Trace.d, Halves_eq h s b.1 b.2 (by omega), if_pos f, if_neg t]; simp only [bnd]
      rw [if_pos (by trivial), if_pos (by rw [sbs_len]; rfl), r0, r1]
      have ye := yes_eq h pl c S n (l := [hva s q.1 q.2]) (fun r hr => by rw [List.mem_singleton.1 hr]; exact fa.2.1) (by simp) hk
      rw [show sbs [hva s q.1 q.2] = [(⟨((hva s q.1 q.2).1 : Int), ((hva s q.1 q.2).2 : Int)⟩ : S24)] from rfl] at ye
      simp only [List.getElem_cons_zero, List.getElem_cons_succ]
      rw [ye]; simp only [bnd]
      rw [w64 (by omega) (by omega), show (n : Int) + 1 = ((n + 1 : Nat) : Int) by omega, dsc, if_neg t]
      by_cases y : asks pl h.toNat T S n [hva s q.1 q.2] = true
      · rw [if_pos y, if_pos y]; exact ih _ _ fa (by omega) (by omega)
      · rw [if_neg y, if_neg y]; exact ih _ _ fb (by omega) (by omega)
def vdc (Y : Nat → List (Nat × Nat) → Bool) (h : Nat) (s : Int) (l : List (Nat × Nat)) : Nat × Nat := dsc Y h s (2 * h + 1) (gap Y l l.length 2 0 l.length).2 (l.getD (gap Y l l.length 2 0 l.length).1 (0, 0))
def vrd (Y : Nat → List (Nat × Nat) → Bool) (h : Nat) (s : Int) (l : List (Nat × Nat)) : Bool × Int × Int × Int := if Y 0 l = true then (if Y 1 [] = true then (false, 0, 2, 0) else (true, ((vdc Y h s l).1 : Int), ((vdc Y h s l).2 : Int), 0)) else (false, 0, 1, 0)
def Trc (h s : Int) (T : List Nat) (l : List (Nat × Nat)) : Prop := Lst h T ∧ 1 ≤ l.length ∧ l.length ≤ 32768 ∧ ∀ q ∈ l, Fit h.toNat s q.1 q.2
instance (h s : Int) (T : List Nat) (l : List (Nat × Nat)) : Decidable (Trc h s T l) := inferInstanceAs (Decidable (_ ∧ _))
theorem Trace_eq (h s : Int) (pl : Bool) {T : List Nat} (hb : ∀ x ∈ T, x < 18446744073709551616) (hn : T.length ≤ 1000000) (S : List Bool) {l : List (Nat × Nat)} (bl : Bdd l) {k : Nat} (hk : T.length + 100 ≤ k) (hk2 : l.length + 2 ≤ k) :
    trace_Trace.f k h s (sbs l) pl (ints T) S = some (if Trc h s T l then vrd (asks pl h.toNat T S) h.toNat s l else (false, 0, 0, 1)) := by
  unfold trace_Trace.f
  rw [lCheck_eq h hb (by omega) (k := k) (by omega)]; simp only [bnd]
  by_cases c : Lst h T
  · rw [if_pos c, if_pos (by trivial), sbs_len]
    by_cases c1 : l.length < 1
    · rw [if_pos (by omega), if_neg (fun z => by have := z.2.1; omega)]
    · rw [if_neg (by omega)]
      by_cases c2 : l.length > 32768
      · rw [if_pos (by omega), if_neg (fun z => by have := z.2.2.1; omega)]
      · rw [if_neg (by omega), any_eq (g := fun q => !decide (Fit h.toNat s q.1 q.2)) (fun q hq => by rw [fits_eq h s (bl q hq).1 (bl q hq).2 (by omega)]; rfl)]; simp only [bnd]
        by_cases c3 : ∀ q ∈ l, Fit h.toNat s q.1 q.2
        · have e : (l.any fun q => !decide (Fit h.toNat s q.1 q.2)) = false := by simpa using fun a b hab => c3 (a, b) hab
          have hs : ∀ q ∈ l, Sb h.toNat q.1 q.2 := fun q hq => (c3 q hq).2.1
          have hh := c.1
          rw [hi_iff] at hh
          have y0 := yes_eq h pl c S 0 hs (by omega) (k := k) (by omega)
          have y1 := yes_eq h pl c S 1 (l := []) (by simp) (by simp) (k := k) (by omega)
          rw [show ((0 : Nat) : Int) = 0 from rfl] at y0
          rw [show ((1 : Nat) : Int) = 1 from rfl, show sbs [] = [] from rfl] at y1
          rw [e, if_neg (by simp), if_pos ⟨c, by omega, by omega, c3⟩, y0]; simp only [bnd]
          unfold vrd
          by_cases d0 : asks pl h.toNat T S 0 l = true
          · rw [if_pos d0, if_pos d0, y1]; simp only [bnd]
            by_cases d1 : asks pl h.toNat T S 1 [] = true
            · rw [if_pos d1, if_pos d1]
            · obtain ⟨k', rfl⟩ : ∃ m, k = m + 1 := ⟨k - 1, by omega⟩
              have ge := gap_eq h pl c S hs (by omega) (k := k' + 1) (by omega) k' 2 0 l.length (by omega) (by omega) (by omega)
              rw [show ((2 : Nat) : Int) = 2 from rfl] at ge
              have gv := gap_eqv (asks pl h.toNat T S) l k' l.length 2 0 l.length (by omega) (by omega)
              rw [gv] at ge
              obtain ⟨g1, g2, g3, g4⟩ := gap_rng (asks pl h.toNat T S) l l.length 2 0 l.length (by omega) (by omega)
              have z1 := sz_le (n := l.length - 0 - 1) (k := 16) (by omega)
              rw [if_neg d1, if_neg d1, ge]; simp only [bnd]
              unfold vdc
              generalize gap (asks pl h.toNat T S) l l.length 2 0 l.length = g at *
              have fq := c3 _ (List.getElem_mem g2)
              have m1 := msr_le h.toNat s l[g.1]
              have er : l.getD g.1 (0, 0) = l[g.1] := by simp [List.getD, g2]
              rw [if_pos g2, rdT_sbs g2, er]
              dsimp only
              rw [d_eq h pl c S (k := k' + 1) (by omega) k' g.2 l[g.1] fq (by omega) (by omega), dsc_eqv _ k' (2 * h.toNat + 1) g.2 l[g.1] fq (by omega) (by omega)]
          · rw [if_neg d0, if_neg d0]
        · have e : (l.any fun q => !decide (Fit h.toNat s q.1 q.2)) = true := by
            simp only [List.any_eq_true, Bool.not_eq_true', decide_eq_false_iff_not]
            refine Classical.byContradiction fun z => c3 fun q hq => Classical.byContradiction fun y => z ⟨q, hq, y⟩
          rw [e, if_pos rfl, if_neg (fun z => c3 z.2.2.2)]
  · rw [if_neg c, if_neg (by omega), if_neg (fun z => c z.1)]
theorem vdc_in (Y : Nat → List (Nat × Nat) → Bool) {h : Nat} {s : Int} {l : List (Nat × Nat)} (l1 : 1 ≤ l.length) (f : ∀ q ∈ l, Fit h s q.1 q.2) : (∃ q ∈ l, In h q.1 q.2 (vdc Y h s l).1) ∧ 2 ≤ (vdc Y h s l).2 ∧ (vdc Y h s l).2 ≤ 2 * h + sz l.length + 3 := by
  obtain ⟨g1, g2, g3, g4⟩ := gap_rng Y l l.length 2 0 l.length (by omega) (by omega)
  unfold vdc
  generalize gap Y l l.length 2 0 l.length = g at *
  have er : l.getD g.1 (0, 0) = l[g.1] := by simp [List.getD, g2]
  have fq := f _ (List.getElem_mem g2)
  have m1 := msr_le h s l[g.1]
  rw [er]
  obtain ⟨a1, a2, a3⟩ := dsc_in Y (2 * h + 1) g.2 l[g.1] fq m1
  have := sz_mono (show l.length - 0 - 1 ≤ l.length by omega)
  exact ⟨⟨_, List.getElem_mem g2, a1⟩, by omega, by omega⟩
theorem vdc_find {T : List Nat} (S : List Bool) {h : Nat} {s : Int} {l : List (Nat × Nat)} (hT : ∀ t ∈ T, t < 2 ^ h) (l1 : 1 ≤ l.length) (f : ∀ q ∈ l, Fit h s q.1 q.2) (y : asks false h T S 0 l = true) : (vdc (asks false h T S) h s l).1 ∈ T := by
  have hY : ∀ n l, asks false h T S n l = T.any fun t => l.any fun q => decide (In h q.1 q.2 t) := fun n l => by unfold asks; rw [if_neg (by simp)]
  obtain ⟨g1, g2, g3, g4⟩ := gap_rng (asks false h T S) l l.length 2 0 l.length (by omega) (by omega)
  obtain ⟨z1, z2⟩ := gap_find (Y := asks false h T S) (Z := fun l => T.any fun t => l.any fun q => decide (In h q.1 q.2 t)) hY l l.length 2 0 l.length (by omega) (by omega) (by rw [List.drop_zero, ← hY 0]; exact y) (by rw [List.drop_length]; simp)
  unfold vdc
  generalize gap (asks false h T S) l l.length 2 0 l.length = g at *
  have er : l.getD g.1 (0, 0) = l[g.1] := by simp [List.getD, g2]
  have fq := f _ (List.getElem_mem g2)
  rw [er]
  refine dsc_find (fun n q => by rw [hY]; simp) hT (2 * h + 1) g.2 l[g.1] fq (msr_le h s _) ?_
  rw [List.drop_eq_getElem_cons g2] at z1
  simp only [List.any_eq_true, List.any_cons, Bool.or_eq_true, decide_eq_true_eq] at z1
  obtain ⟨t, ht, w | w⟩ := z1
  · exact ⟨t, ht, w⟩
  · exfalso
    have : (T.any fun t => (l.drop (g.1 + 1)).any fun q => decide (In h q.1 q.2 t)) = true := by
      rw [List.any_eq_true]; exact ⟨t, ht, by rw [List.any_eq_true]; simpa using w⟩
    rw [this] at z2; exact absurd z2 (by simp)
theorem live23' : medlarlaw23_live.f 40 = some true := by decide +kernel
theorem live23 {k : Nat} (hk : 40 ≤ k) : medlarlaw23_live.f k = some true := at_rounds (g := fun k => medlarlaw23_live.f k) medlarlaw23_live.mono hk live23'
theorem dif_iff {h : Nat} {l : List Nat} (hl : ∀ i ∈ l, i < 2 ^ h) (hu : Up l) (l0 : l ≠ []) {q : Nat × Nat} : q ∈ dif h l ↔ Topp h l 1 q.1 ∧ q.2 = dwn h l q.1 ∧ q.2 ≠ q.1 := by
  unfold dif; rw [if_neg l0]; exact mem_cutl hl hu (by omega) (by rw [log2_one]; omega) (inT_root.2 l0) (by rw [log2_one]; omega)
theorem dif_facts {h : Nat} (hh : 1 ≤ h ∧ h ≤ 32) {l : List Nat} (hl : ∀ i ∈ l, i < 2 ^ h) (hu : Up l) (l0 : l ≠ []) {q : Nat × Nat} (hq : q ∈ dif h l) : inT h l q.1 = true ∧ Nd h q.1 ∧ Nd h q.2 ∧ Abv q.1 q.2 := by
  obtain ⟨t, e, ne⟩ := (dif_iff hl hu l0).1 hq
  have rT := inT_root (h := h) |>.2 l0
  have tT := topp_inT hl hu rT t
  have d0 := dwn_ne hl hu tT
  have d1 := dwn_below hl hu tT
  have d2 := dwn_le hl hu tT
  rw [← e] at d0 d1 d2
  have q0 : q.1 ≠ 0 := by rcases t with z | z <;> omega
  exact ⟨tT, ⟨hh.1, hh.2, q0, by have := d1.1; omega⟩, ⟨hh.1, hh.2, d0, d2⟩, d1⟩
def dfs (h : Nat) (l : List Nat) : List (Nat × Nat) := srt (dif h l)
theorem mem_dfs {h : Nat} {l : List Nat} {q : Nat × Nat} : q ∈ dfs h l ↔ q ∈ dif h l := (srt_perm _).mem_iff
theorem dfs_cvr {h : Nat} (hh : 1 ≤ h ∧ h ≤ 32) {l : List Nat} (hl : ∀ i ∈ l, i < 2 ^ h) (hu : Up l) : Cvr h l (dfs h l) := (dif_cvr hh hl hu).perm (srt_perm _).symm
theorem dfs_len (h : Nat) (l : List Nat) : (dfs h l).length = (dif h l).length := (srt_perm _).length_eq
theorem dfs_lss {h : Nat} (hh : 1 ≤ h ∧ h ≤ 32) {l : List Nat} (hl : ∀ i ∈ l, i < 2 ^ h) (hu : Up l) : (dfs h l).Pairwise Lss := srt_strict (dif_cvr hh hl hu).nodup
theorem dfs_end {h : Nat} (hh : 1 ≤ h ∧ h ≤ 32) {l : List Nat} (hl : ∀ i ∈ l, i < 2 ^ h) (hu : Up l) {q : Nat × Nat} (hq : q ∈ dfs h l) :
    (q.2 = 0 ∧ l = [] ∧ q.1 = 1) ∨ (q.2 ≠ 0 ∧ Nd h q.1 ∧ Nd h q.2 ∧ (blw h l q.1).length = (blw h l q.2).length ∧ (blw h l q.1).length ≠ 0) := by
  rw [mem_dfs] at hq
  by_cases l0 : l = []
  · unfold dif at hq
    rw [if_pos l0, List.mem_singleton] at hq
    exact .inl ⟨by rw [hq], l0, by rw [hq]⟩
  · obtain ⟨t, n1, n2, _⟩ := dif_facts hh hl hu l0 hq
    obtain ⟨_, e, _⟩ := (dif_iff hl hu l0).1 hq
    refine .inr ⟨n2.2.2.1, n1, n2, ?_, ?_⟩
    · rw [e, dwn_blw hl hu t]
    · have := blw_ne.2 t
      intro z; exact this (List.length_eq_zero_iff.1 z)
theorem keeps_iff (d : Array Int) (n : Nat) : Go.Lib.keeps d n = true ↔ n = 0 ∨ d[n]! ≠ d[n - 1]! := by
  show decide (n = 0 ∨ d[n]! ≠ d[n - 1]!) = true ↔ _
  rw [decide_eq_true_iff]
theorem compact_at (d : Array Int) : ∀ m, Go.Lib.compactUpTo d (m + 1) = Go.Lib.compactUpTo d m ++ (if Go.Lib.keeps d m = true then [d[m]!] else []) := by
  intro m
  unfold Go.Lib.compactUpTo
  rw [List.range_succ, List.filter_append, List.map_append]
  congr 1
  simp only [List.filter_cons, List.filter_nil]
  split <;> simp
theorem compact_up {l : List Nat} (hr : l.Pairwise (· ≤ ·)) : ∃ m : List Nat, Go.Lib.compactUpTo (ints l).toArray l.length = ints m ∧ Up m ∧ (∀ x, x ∈ m ↔ x ∈ l) := by
  have key : ∀ n, n ≤ l.length → ∃ m : List Nat, Go.Lib.compactUpTo (ints l).toArray n = ints m ∧ Up m ∧ (∀ x, x ∈ m ↔ x ∈ l.take n) := by
    intro n
    induction n with
    | zero => intro _; exact ⟨[], rfl, List.Pairwise.nil, by simp⟩
    | succ n ih =>
      intro hn
      obtain ⟨m, e, u, hm⟩ := ih (by omega)
      have at_ : ∀ i (hi : i < l.length), (ints l).toArray[i]! = (l[i] : Int) := by
        intro i hi
        have : i < (ints l).toArray.size := by simpa [ints] using hi
        rw [getElem!_pos _ i this]; simp [ints]
      have tk : l.take (n + 1) = l.take n ++ [l[n]] := by rw [List.take_succ_eq_append_getElem (by omega)]
      rw [compact_at, e, tk]
      by_cases c : Go.Lib.keeps (ints l).toArray n = true
      · rw [if_pos c, at_ n (by omega)]
        refine ⟨m ++ [l[n]], by simp [ints], u.append (by unfold Up; simp) ?_, ?_⟩
        · intro x hx y hy
          rw [List.mem_singleton] at hy; subst hy
          have hx' := (hm x).1 hx
          obtain ⟨i, hi, rfl⟩ := List.getElem_of_mem hx'
          rw [List.length_take] at hi
          rw [List.getElem_take]
          have le : l[i] ≤ l[n] := List.pairwise_iff_getElem.1 hr i n (by omega) (by omega) (by omega)
          have n0 : n ≠ 0 := by omega
          have kk : (ints l).toArray[n]! ≠ (ints l).toArray[n - 1]! := ((keeps_iff _ _).1 c).resolve_left n0
          rw [at_ _ (by omega), at_ _ (by omega)] at kk
          have le1 : l[i] ≤ l[n - 1] := by
            by_cases q : i = n - 1
            · subst q; exact Nat.le_refl _
            · exact List.pairwise_iff_getElem.1 hr i (n - 1) (by omega) (by omega) (by omega)
          have le2 : l[n - 1] ≤ l[n] := List.pairwise_iff_getElem.1 hr (n - 1) n (by omega) (by omega) (by omega)
          omega
        · intro x; rw [List.mem_append, List.mem_append, hm]
      · rw [if_neg c]
        refine ⟨m, by simp, u, ?_⟩
        intro x
        rw [List.mem_append, hm, List.mem_singleton]
        constructor
        · intro z; exact .inl z
        · rintro (z | rfl)
          · exact z
          · have n0 : n ≠ 0 := fun z => c ((keeps_iff _ _).2 (.inl z))
            have kk : (ints l).toArray[n]! = (ints l).toArray[n - 1]! := Decidable.byContradiction (fun z => c ((keeps_iff _ _).2 (.inr z)))
            rw [at_ _ (by omega), at_ _ (by omega)] at kk
            have : l[n] = l[n - 1] := by omega
            rw [this]
            rw [List.mem_take_iff_getElem]
            exact ⟨n - 1, by omega, rfl⟩
  obtain ⟨m, e, u, hm⟩ := key l.length (Nat.le_refl _)
  exact ⟨m, e, u, by simpa using hm⟩
theorem set_mid (A : List Nat) (b c : Nat) (B : List Nat) : (ints (A ++ b :: B)).set A.length (c : Int) = ints (A ++ c :: B) := by
  unfold ints
  rw [List.map_append, List.map_append, List.set_append_right _ _ (by simp)]
  simp
theorem rd_mid (A : List Nat) (b : Nat) (B : List Nat) : rd (ints (A ++ b :: B)) (A.length : Int) = (b : Int) := by
  rw [ints_rd (by simp)]; simp
theorem tree_l0 (h : Int) (hh : Hi h) (out : List Int) : ∀ (B A : List Nat) (k : Nat), (∀ x ∈ B, x < 2 ^ h.toNat) → (A ++ B).length ≤ 1024 →
    steiner_tree.l0 (B.length + 1 + k) h (ints (A.map (2 ^ h.toNat + ·) ++ List.replicate B.length 0)) (ints (A ++ B)) ((A ++ B).length : Int) (A.length : Int) = steiner_tree.l1 k (ints ((A ++ B).map (2 ^ h.toNat + ·))) ([] : List Int) (wrap64 (h + 1)) 0 := by
  intro B
  induction B with
  | nil =>
    intro A k _ _
    rw [show ([] : List Nat).length + 1 + k = k + 1 by simp; omega]
    simp only [steiner_tree.l0]
    rw [if_neg (by simp)]; simp
  | cons b B ih =>
    intro A k hB hl
    have hb := hB b (by simp)
    have hp := pow_le_h (show h.toNat ≤ 32 by rw [hi_iff] at hh; omega)
    rw [show (b :: B).length + 1 + k = (B.length + 1 + k) + 1 by simp; omega]
    simp only [steiner_tree.l0]
    simp only [List.length_append, List.length_cons] at hl
    have e1 : (A ++ b :: B) = (A ++ [b]) ++ B := by simp
    have r := ih (A ++ [b]) k (fun x hx => hB x (by simp [hx])) (by simp; omega)
    rw [if_pos (by simp; omega), if_pos (by omega), if_pos (by rw [ints_len]; simp; omega), rd_mid, nLeaf_eq h (by omega)]; simp only [bnd]
    rw [if_pos hh, if_pos hb, if_pos hb]; dsimp only
    rw [if_pos rfl, if_pos (by rw [ints_len]; simp; omega), Int.toNat_natCast]
    have e2 : (ints (A.map (2 ^ h.toNat + ·) ++ List.replicate (b :: B).length 0)).set A.length ((2 ^ h.toNat + b : Nat) : Int) = ints ((A ++ [b]).map (2 ^ h.toNat + ·) ++ List.replicate B.length 0) := by
      have := set_mid (A.map (2 ^ h.toNat + ·)) 0 (2 ^ h.toNat + b) (List.replicate B.length 0)
      rw [List.length_map] at this
      rw [List.length_cons, List.replicate_succ, this]; simp
    rw [e2, w64 (by omega) (by omega), show (A.length : Int) + 1 = ((A ++ [b]).length : Int) by simp, e1]
    exact r
theorem tree_l2 (out : List Int) (x45 x46 : Int) (n : Nat) (hn : n ≤ 1024) : ∀ (B A : List Nat) (k : Nat), A.length + B.length = n →
    steiner_tree.l2 (B.length + 1 + k) (ints (A ++ B)) out x45 x46 (n : Int) (A.length : Int) = steiner_tree.l1 k (Go.Lib.compactUpTo (ints (A ++ B.map (· / 2))).toArray n) out x45 (wrap64 (x46 + 1)) := by
  intro B
  induction B with
  | nil =>
    intro A k hA
    rw [show ([] : List Nat).length + 1 + k = k + 1 by simp; omega]
    simp only [steiner_tree.l2]
    rw [if_neg (by simp at hA; omega)]
    unfold slices_Compact_uint64_uint64.f
    simp only [bnd, ints_len, List.map_nil, List.append_nil]
    simp at hA; rw [hA]
  | cons b B ih =>
    intro A k hA
    rw [show (b :: B).length + 1 + k = (B.length + 1 + k) + 1 by simp; omega]
    simp only [steiner_tree.l2]
    simp only [List.length_cons] at hA
    have r := ih (A ++ [b / 2]) k (by simp; omega)
    rw [if_pos (by omega), if_pos (by omega), if_pos (by rw [ints_len]; simp; omega), rd_mid, Int.toNat_natCast, show (b : Int) / 2 = ((b / 2 : Nat) : Int) by omega, set_mid, w64 (by omega) (by omega), show (A.length : Int) + 1 = ((A ++ [b / 2]).length : Int) by simp]
    have e : A ++ b / 2 :: B = (A ++ [b / 2]) ++ B := by simp
    rw [e, r]; simp
def tl (h : Nat) (l : List Nat) : Nat → List Nat
  | 0 => []
  | r + 1 => lvl h l (h - r) ++ tl h l r
theorem tl_trs (h : Nat) (l : List Nat) : ∀ {r : Nat}, r ≤ h + 1 → trs h l (h + 1 - r) ++ tl h l r = trs h l (h + 1)
  | 0, _ => by simp [tl]
  | r + 1, hr => by
    have := tl_trs h l (r := r) (by omega)
    rw [← this, show h + 1 - r = (h + 1 - (r + 1)) + 1 by omega, trs, tl, List.append_assoc, show h - r = h + 1 - (r + 1) by omega]
theorem tl_all (h : Nat) (l : List Nat) : tl h l (h + 1) = trs h l (h + 1) := by
  have := tl_trs h l (Nat.le_refl (h + 1))
  simpa [trs] using this
theorem lvl_half {h : Nat} {l : List Nat} (hl : ∀ i ∈ l, i < 2 ^ h) {d : Nat} (hd : d < h) (x : Nat) : x ∈ lvl h l d ↔ x ∈ (lvl h l (d + 1)).map (· / 2) := by
  rw [List.mem_map]
  constructor
  · intro z
    obtain ⟨a, b, c⟩ := mem_lvl.1 z
    have lg := log2_dbl a
    rcases (inT_child hl a (by omega)).1 c with q | q
    · exact ⟨2 * x, mem_lvl.2 ⟨by omega, by omega, q⟩, by omega⟩
    · exact ⟨2 * x + 1, mem_lvl.2 ⟨by omega, by omega, q⟩, by omega⟩
  · rintro ⟨y, hy, rfl⟩
    obtain ⟨a, b, c⟩ := mem_lvl.1 hy
    have two : 2 ≤ y := by
      have := log2_lo a; rw [b] at this
      have := pow_mono (show 1 ≤ d + 1 by omega); omega
    have := log2_half two
    exact mem_lvl.2 ⟨by omega, by omega, inT_up (abv_half two) c⟩
theorem lvl_compact {h : Nat} {l : List Nat} (hl : ∀ i ∈ l, i < 2 ^ h) {d : Nat} (hd : d < h) : Go.Lib.compactUpTo (ints ((lvl h l (d + 1)).map (· / 2))).toArray (lvl h l (d + 1)).length = ints (lvl h l d) := by
  have hr : ((lvl h l (d + 1)).map (· / 2)).Pairwise (· ≤ ·) := by
    rw [List.pairwise_map]; exact (lvl_up h l (d + 1)).imp (fun z => by omega)
  obtain ⟨m, e, u, hm⟩ := compact_up hr
  rw [List.length_map] at e
  rw [e]
  congr 1
  exact up_ext u (lvl_up _ _ _) (fun x => by rw [hm, lvl_half hl hd])
theorem tree_l1 {H : Nat} (hH : H ≤ 32) {l : List Nat} (hl : ∀ i ∈ l, i < 2 ^ H) (hu : Up l) (hn : l.length ≤ 1024) (C : Nat) (hC : 1030 ≤ C) : ∀ (q r k : Nat), r + q = H → (q + 1) * C + 1 ≤ k →
    steiner_tree.l1 k (ints (lvl H l (H - r))) (ints (tl H l r)) ((H + 1 : Nat) : Int) (r : Int) = some (ints (trs H l (H + 1)), 0) := by
  have len : ∀ r, r ≤ H + 1 → (tl H l r).length ≤ r * 1024 := by
    intro r
    induction r with
    | zero => intro _; simp [tl]
    | succ r ih =>
      intro hr
      have := ih (by omega)
      have := (lvl_le hl hu (H - r) (by omega)).1
      rw [tl, List.length_append, Nat.add_mul]; omega
  have step : ∀ (r k : Nat), r ≤ H → (lvl H l (H - r)).length + 2 ≤ k →
      steiner_tree.l1 k (ints (lvl H l (H - r))) (ints (tl H l r)) ((H + 1 : Nat) : Int) (r : Int) = steiner_tree.l1 (k - ((lvl H l (H - r)).length + 2)) (Go.Lib.compactUpTo (ints ((lvl H l (H - r)).map (· / 2))).toArray (lvl H l (H - r)).length) (ints (tl H l (r + 1))) ((H + 1 : Nat) : Int) ((r + 1 : Nat) : Int) := by
    intro r k hr hk
    have l1 := (lvl_le hl hu (H - r) (by omega)).1
    have l2 := len r (by omega)
    have l3 : r * 1024 ≤ 32 * 1024 := Nat.mul_le_mul_right _ (by omega)
    obtain ⟨j, rfl⟩ : ∃ j, k = ((lvl H l (H - r)).length + 1 + j) + 1 := ⟨k - ((lvl H l (H - r)).length + 2), by omega⟩
    simp only [steiner_tree.l1]
    rw [if_pos (by omega), List.nil_append, if_pos (by simp only [List.length_nil, ints_len]; omega)]
    simp only [bnd]
    rw [if_pos (by rw [ints_len, ints_len]; omega), ints_len, ints_app]
    have e := tree_l2 (ints (lvl H l (H - r) ++ tl H l r)) ((H + 1 : Nat) : Int) (r : Int) (lvl H l (H - r)).length (by omega) (lvl H l (H - r)) [] j (by simp)
    rw [List.nil_append, List.nil_append, show (([] : List Nat).length : Int) = 0 from rfl] at e
    rw [e, w64 (by omega) (by omega), show (r : Int) + 1 = ((r + 1 : Nat) : Int) by omega]
    have ej : (lvl H l (H - r)).length + 1 + j + 1 - ((lvl H l (H - r)).length + 2) = j := by omega
    rw [ej]; rfl
  intro q
  induction q with
  | zero =>
    intro r k hr hk
    have l1 := (lvl_le hl hu (H - r) (by omega)).1
    rw [step r k (by omega) (by omega)]
    obtain ⟨j, hj⟩ : ∃ j, k - ((lvl H l (H - r)).length + 2) = j + 1 := ⟨k - ((lvl H l (H - r)).length + 2) - 1, by omega⟩
    rw [hj]
    simp only [steiner_tree.l1]
    rw [if_neg (by omega), show r + 1 = H + 1 by omega, tl_all]
  | succ q ih =>
    intro r k hr hk
    have l1 := (lvl_le hl hu (H - r) (by omega)).1
    have this : (q + 1 + 1) * C = (q + 1) * C + C := by rw [Nat.add_mul, Nat.one_mul]
    rw [step r k (by omega) (by omega)]
    have e := lvl_compact hl (d := H - (r + 1)) (by omega)
    rw [show H - (r + 1) + 1 = H - r by omega] at e
    rw [e]
    refine ih (r + 1) _ (by omega) ?_
    omega
theorem tree_eq (h : Int) {l : List Nat} (hb : ∀ x ∈ l, x < 18446744073709551616) (hn : l.length < 4611686018427387904) {k : Nat} (hk : 40000 ≤ k) (hk2 : l.length + 2 ≤ k) :
    steiner_tree.f k h (ints l) = some (if Lst h l then (ints (trs h.toNat l (h.toNat + 1)), 0) else ([], 1)) := by
  unfold steiner_tree.f
  rw [lCheck_eq h hb hn hk2]; simp only [bnd]
  by_cases c : Lst h l
  · obtain ⟨hh, n1, hl, hu⟩ := c
    have c : Lst h l := ⟨hh, n1, hl, hu⟩
    have hH := hh
    rw [hi_iff] at hH
    rw [if_pos c, if_pos rfl, if_pos c, if_pos (by omega), ints_len, if_pos (by omega), Int.toNat_natCast]
    obtain ⟨j, rfl⟩ : ∃ j, k = l.length + 1 + j := ⟨k - (l.length + 1), by omega⟩
    have e := tree_l0 h hh [] l [] j (by simpa using hl) (by simpa using n1)
    rw [List.nil_append, List.map_nil, List.nil_append, show (([] : List Nat).length : Int) = 0 from rfl] at e
    have e0 : ints (List.replicate l.length 0) = List.replicate l.length 0 := by simp [ints]
    rw [e0] at e
    rw [e, ← lvl_h_len hl hu, w64 (by omega) (by omega), show h + 1 = ((h.toNat + 1 : Nat) : Int) by omega]
    obtain ⟨C, hC⟩ : ∃ C : Nat, C = 1030 := ⟨_, rfl⟩
    have hm : (h.toNat + 1) * C ≤ 33 * C := Nat.mul_le_mul_right _ (by omega)
    have r := tree_l1 (H := h.toNat) (by omega) hl hu n1 C (by omega) h.toNat 0 j (by omega) (by omega)
    rw [Nat.sub_zero, show tl h.toNat l 0 = [] from rfl] at r
    exact r
  · rw [if_neg c, if_neg (by omega), if_neg c]
theorem u64or {n b : Nat} (hn : n < 9223372036854775808) (hb : b < 2) : Go.bits .or .u64 (IntKind.u64.wrap ((n : Int) * 2)) (IntKind.u64.wrap (b : Int)) = ((2 * n + b : Nat) : Int) := by
  rw [wu64 (by omega) (by omega), wu64 (by omega) (by omega), show (n : Int) * 2 = ((2 * n : Nat) : Int) by omega]
  have e := Go.bits_or_u64_nat (2 * n) b (by omega) (by omega)
  rw [e]
  congr 1
  have := Nat.two_pow_add_eq_or_of_lt (i := 1) (b := b) (by omega) n
  simpa using this.symm
theorem andNot1 {b : Nat} (hb : b < 2) : Go.bits .andNot .i64 (b : Int) 1 = 0 := by
  rcases (show b = 0 ∨ b = 1 by omega) with rfl | rfl <;> decide
theorem Child_eq {h n b : Nat} (d : Nd h n) (hb : b < 2) {k : Nat} (hk : 3 ≤ k) : node_Child.f k (h : Int) (n : Int) (b : Int) = some (if n.log2 < h then (((2 * n + b : Nat) : Int), 0) else (0, 4)) := by
  obtain ⟨k, rfl⟩ : ∃ m, k = m + 2 := ⟨k - 2, by omega⟩
  have lt := d.lt33
  unfold node_Child.f
  rw [check_eq _ (by omega), Int.toNat_natCast, if_pos d]; simp only [bnd]
  rw [if_pos trivial, andNot1 hb]
  have e : ((0 : Int) != 0) = false := by decide
  rw [e]
  simp only [node_Child.j0]
  rw [if_neg (by simp), depth_eq d.2.2.1 (by omega)]; simp only [bnd]
  have := d.2.2.2
  by_cases c : n.log2 < h
  · rw [if_neg (by omega), if_pos c, u64or (by omega) hb]
  · rw [if_pos (by omega), if_neg c]
def outs (h : Nat) (l : List Nat) (n : Nat) : List Nat := if n.log2 < h then (ch n).filter fun c => !inT h l c else []
theorem hgs_outs (h : Nat) (l t : List Nat) : hgs h l t = t.flatMap (outs h l) := rfl
theorem nd_trs {H : Nat} (hH : 1 ≤ H ∧ H ≤ 32) {l : List Nat} {n : Nat} (hn : n ∈ trs H l (H + 1)) : Nd H n ∧ inT H l n = true := by
  obtain ⟨a, b, c⟩ := mem_trs.1 hn
  exact ⟨⟨hH.1, hH.2, a, by omega⟩, c⟩
theorem child_l0 {H : Nat} (hH : 1 ≤ H ∧ H ≤ 32) {l : List Nat} (step : Nat → List Int → Int → List Int → Option (List Int)) (F : List Nat → Nat → List Nat) (T : List Nat) (hT : T = trs H l (H + 1)) (hlen : T.length < 1000000)
    (hs : ∀ j acc n, n ∈ T → acc.length ≤ 4000000 → 3 ≤ j → step j (ints acc) (n : Int) (ints (outs H l n)) = some (ints (F acc n)) ∧ (F acc n).length ≤ acc.length + 2) :
    ∀ (q i k : Nat) (acc : List Nat), i + q = T.length → 4 * q + T.length + 12 ≤ k → acc.length ≤ 2 * i → steiner_children.l0 step k (H : Int) (ints T) (i : Int) (ints acc) = some (ints ((T.drop i).foldl F acc), 0) := by
  have hu : Up T := by rw [hT]; exact trs_up _ _ _
  intro q
  induction q with
  | zero =>
    intro i k acc hi hk ha
    obtain ⟨k, rfl⟩ : ∃ m, k = m + 1 := ⟨k - 1, by omega⟩
    simp only [steiner_children.l0]
    rw [if_neg (by rw [ints_len]; omega), List.drop_of_length_le (by omega)]; rfl
  | succ q ih =>
    intro i k acc hi hk ha
    have hiT : i < T.length := by omega
    have d1 : T.drop i = T[i] :: T.drop (i + 1) := List.drop_eq_getElem_cons hiT
    have hnT : T[i] ∈ T := List.getElem_mem hiT
    rw [d1, List.foldl_cons]
    rw [show k = (k - 1) + 1 by omega]
    simp only [steiner_children.l0]
    rw [if_pos (by rw [ints_len]; omega), if_pos (by omega), ints_rd hiT]
    generalize T[i] = n at *
    have nd := nd_trs hH (by rw [← hT]; exact hnT)
    have lt := nd.1.lt33
    have hn0 := nd.1.2.2.1
    have fin : ∀ j, k - 4 ≤ j → (step j (ints acc) (n : Int) (ints (outs H l n))).bind (fun y => steiner_children.l0 step j (H : Int) (ints T) (wrap64 ((i : Int) + 1)) y) = some (ints ((T.drop (i + 1)).foldl F (F acc n)), 0) := by
      intro j hj
      obtain ⟨s1, s2⟩ := hs j acc n hnT (by omega) (by omega)
      rw [s1]; simp only [bnd]
      rw [w64 (by omega) (by omega), show (i : Int) + 1 = ((i + 1 : Nat) : Int) by omega]
      exact ih (i + 1) j _ (by omega) (by omega) (by omega)
    have mem : n.log2 < H → ∀ b, b < 2 → (decide (2 * n + b ∈ T) = inT H l (2 * n + b)) := by
      intro hd b hb
      have lg := log2_dbl hn0
      have lb : (2 * n + b).log2 = n.log2 + 1 := by
        rcases (show b = 0 ∨ b = 1 by omega) with rfl | rfl
        · rw [Nat.add_zero]; omega
        · omega
      rw [Bool.eq_iff_iff, decide_eq_true_iff, hT, mem_trs]
      constructor
      · intro z; exact z.2.2
      · intro z; exact ⟨by omega, by omega, z⟩
    have l1 : ∀ (b : Nat) (y : List Nat) (j : Nat), b < 2 → k - 4 ≤ j → y.length ≤ 4 → steiner_children.l1 step (j + 1) (H : Int) (ints T) (n : Int) (ints y) (i : Int) (b : Int) (ints acc) =
        if n.log2 < H then (if inT H l (2 * n + b) = true then steiner_children.l1 step j (H : Int) (ints T) (n : Int) (ints y) (i : Int) ((b + 1 : Nat) : Int) (ints acc) else steiner_children.l1 step j (H : Int) (ints T) (n : Int) (ints (y ++ [2 * n + b])) (i : Int) ((b + 1 : Nat) : Int) (ints acc))
        else (step j (ints acc) (n : Int) (ints y)).bind (fun y => steiner_children.l0 step j (H : Int) (ints T) (wrap64 ((i : Int) + 1)) y) := by
      intro b y j hb hj hy
      simp only [steiner_children.l1]
      rw [if_pos (by omega), Child_eq nd.1 hb (by omega)]; simp only [bnd]
      by_cases c : n.log2 < H
      · rw [if_pos c]; dsimp only
        rw [if_pos rfl, search_eq hu (2 * n + b) (by omega) (by omega)]; simp only [bnd]
        rw [mem c b hb, w64 (x := (b : Int) + 1) (by omega) (by omega), show (b : Int) + 1 = ((b + 1 : Nat) : Int) by omega, if_pos c, if_pos (show (ints y).length < 17592186044416 by rw [ints_len]; omega), ints_one, ints_app]
      · rw [if_neg c]; dsimp only
        rw [if_neg (by omega), if_neg c]
    have l1e : ∀ (y : List Nat) (j : Nat), steiner_children.l1 step (j + 1) (H : Int) (ints T) (n : Int) (ints y) (i : Int) ((2 : Nat) : Int) (ints acc) = (step j (ints acc) (n : Int) (ints y)).bind (fun y => steiner_children.l0 step j (H : Int) (ints T) (wrap64 ((i : Int) + 1)) y) := by
      intro y j
      simp only [steiner_children.l1]
      rw [if_neg (by omega)]
    have e0 : steiner_children.l1 step (k - 1) (H : Int) (ints T) (n : Int) ([] : List Int) (i : Int) 0 (ints acc) = steiner_children.l1 step ((k - 2) + 1) (H : Int) (ints T) (n : Int) (ints []) (i : Int) ((0 : Nat) : Int) (ints acc) := by
      rw [show k - 2 + 1 = k - 1 by omega]; rfl
    rw [e0, l1 0 [] (k - 2) (by omega) (by omega) (by simp)]
    by_cases c : n.log2 < H
    · have eo : outs H l n = (if inT H l (2 * n) = true then [] else [2 * n]) ++ (if inT H l (2 * n + 1) = true then [] else [2 * n + 1]) := by
        unfold outs ch
        rw [if_pos c]
        cases h1 : inT H l (2 * n) <;> cases h2 : inT H l (2 * n + 1) <;> simp [h1, h2]
      rw [eo] at fin
      rw [if_pos c, show k - 2 = (k - 3) + 1 by omega]
      simp only [Nat.add_zero, Nat.zero_add]
      cases h1 : inT H l (2 * n)
      · rw [if_neg (by simp), l1 1 _ (k - 3) (by omega) (by omega) (by simp), if_pos c, show k - 3 = (k - 4) + 1 by omega]
        cases h2 : inT H l (2 * n + 1)
        · rw [if_neg (by simp), l1e]
          have := fin (k - 4) (Nat.le_refl _)
          simpa [h1, h2] using this
        · rw [if_pos rfl, l1e]
          have := fin (k - 4) (Nat.le_refl _)
          simpa [h1, h2] using this
      · rw [if_pos rfl, l1 1 _ (k - 3) (by omega) (by omega) (by simp), if_pos c, show k - 3 = (k - 4) + 1 by omega]
        cases h2 : inT H l (2 * n + 1)
        · rw [if_neg (by simp), l1e]
          have := fin (k - 4) (Nat.le_refl _)
          simpa [h1, h2] using this
        · rw [if_pos rfl, l1e]
          have := fin (k - 4) (Nat.le_refl _)
          simpa [h1, h2, ints] using this
    · rw [if_neg c]
      have := fin (k - 2) (by omega)
      unfold outs at this
      rw [if_neg c] at this
      exact this
theorem trs_len {H : Nat} {l : List Nat} (hl : ∀ i ∈ l, i < 2 ^ H) (hu : Up l) : ∀ d, d ≤ H + 1 → (trs H l d).length ≤ d * l.length
  | 0, _ => by simp [trs]
  | d + 1, hd => by
    have := trs_len hl hu d (by omega)
    have := (lvl_le hl hu d (by omega)).1
    rw [trs, List.length_append, Nat.add_mul]; omega
theorem children_eq {h : Int} {l : List Nat} (c : Lst h l) (step : Nat → List Int → Int → List Int → Option (List Int)) (F : List Nat → Nat → List Nat)
    (hs : ∀ j acc n, n ∈ trs h.toNat l (h.toNat + 1) → acc.length ≤ 4000000 → 3 ≤ j → step j (ints acc) (n : Int) (ints (outs h.toNat l n)) = some (ints (F acc n)) ∧ (F acc n).length ≤ acc.length + 2) {k : Nat} (hk : 200000 ≤ k) :
    steiner_children.f step k h (ints l) = some (ints ((trs h.toNat l (h.toNat + 1)).foldl F []), 0) := by
  obtain ⟨hh, n1, hl, hu⟩ := c
  have c : Lst h l := ⟨hh, n1, hl, hu⟩
  have hH := hh
  rw [hi_iff] at hH
  have tl := trs_len hl hu (h.toNat + 1) (Nat.le_refl _)
  have tm : (h.toNat + 1) * l.length ≤ 33 * 1024 := Nat.mul_le_mul (by omega) n1
  have hb : ∀ x ∈ l, x < 18446744073709551616 := fun x hx => by
    have := hl x hx
    have := pow_le_h (h := h.toNat) (by omega)
    omega
  unfold steiner_children.f
  rw [tree_eq h hb (by omega) (by omega) (by omega), if_pos c]; simp only [bnd]
  have e : ((h.toNat : Nat) : Int) = h := by omega
  have := child_l0 (H := h.toNat) (l := l) (by omega) step F _ rfl (by omega) hs (trs h.toNat l (h.toNat + 1)).length 0 k [] (by omega) (by omega) (by simp)
  rw [e] at this
  exact this
theorem children_bad {h : Int} {l : List Nat} (hb : ∀ x ∈ l, x < 18446744073709551616) (hn : l.length < 4611686018427387904) (c : ¬ Lst h l) (step : Nat → List Int → Int → List Int → Option (List Int)) {k : Nat} (hk : 40000 ≤ k) (hk2 : l.length + 2 ≤ k) :
    steiner_children.f step k h (ints l) = some ([], 1) := by
  unfold steiner_children.f
  rw [tree_eq h hb hn hk hk2, if_neg c]; rfl
theorem Hang_eq (h : Int) {l : List Nat} (hb : ∀ x ∈ l, x < 18446744073709551616) (hn : l.length < 4611686018427387904) {k : Nat} (hk : 200000 ≤ k) (hk2 : l.length + 2 ≤ k) :
    steiner_Hang.f k h (ints l) = some (if Lst h l then (ints (hng h.toNat l), 0) else ([], 1)) := by
  unfold steiner_Hang.f
  rw [lCheck_eq h hb hn hk2]; simp only [bnd]
  by_cases c : Lst h l
  · rw [if_pos c, if_pos rfl, if_pos c, ints_len]
    by_cases l0 : l = []
    · subst l0; rw [if_pos (by rfl)]; simp [hng, ints]
    · have : l.length ≠ 0 := fun z => l0 (List.length_eq_zero_iff.1 z)
      rw [if_neg (by omega)]
      have e := children_eq c steiner_Hang1.f (fun acc n => acc ++ outs h.toNat l n) (fun j acc n hn ha hj => by
        have lo : (outs h.toNat l n).length ≤ 2 := by
          unfold outs; split
          · refine Nat.le_trans (List.length_filter_le _ _) (by simp [ch])
          · simp
        refine ⟨?_, by rw [List.length_append]; omega⟩
        unfold steiner_Hang1.f
        rw [if_pos (by rw [ints_len, ints_len]; omega), ints_app]) hk
      rw [e]
      have fl : ∀ (t acc : List Nat), t.foldl (fun acc n => acc ++ outs h.toNat l n) acc = acc ++ t.flatMap (outs h.toNat l) := by
        intro t
        induction t with
        | nil => intro acc; simp
        | cons a t ih => intro acc; rw [List.foldl_cons, ih, List.flatMap_cons, List.append_assoc]
      rw [fl, List.nil_append, ← hgs_outs, hgs_last]
      unfold hng; rw [if_neg l0]
  · rw [if_neg c, if_neg (by omega), children_bad hb hn c _ (by omega) hk2, if_neg c]
theorem Is_eq (h : Int) {l : List Nat} (hb : ∀ x ∈ l, x < 18446744073709551616) (hn : l.length < 4611686018427387904) {n : Nat} (h1 : n < 18446744073709551616) {k : Nat} (hk : l.length + 3 ≤ k) :
    steiner_Is.f k h (ints l) (n : Int) = some (if Lst h l ∧ Nd h.toNat n then (inT h.toNat l n, 0) else (false, 1)) := by
  unfold steiner_Is.f
  rw [lBelow_eq h hb hn h1 hk]; simp only [bnd]
  by_cases c : Lst h l ∧ Nd h.toNat n
  · rw [if_pos c, if_pos c, ints_len]
    congr 2
    rw [Bool.eq_iff_iff, decide_eq_true_iff, ← blw_ne, ne_eq, ← List.length_eq_zero_iff]; omega
  · rw [if_neg c, if_neg c]; rfl
theorem Meet_eq {h a b : Nat} (da : Nd h a) (db : Nd h b) (e : a.log2 = b.log2) {k : Nat} (hk : 2 ≤ k) : node_Meet.f k (h : Int) (a : Int) (b : Int) = some ((mt a b : Int), 0) := by
  obtain ⟨k, rfl⟩ : ∃ m, k = m + 1 := ⟨k - 1, by omega⟩
  have la := da.lt33
  have lb := db.lt33
  have h32 := da.2.1
  have hlog := da.2.2.2
  have bt := both_eq (h : Int) (a := a) (b := b) (by omega) (by omega) k
  simp only [Int.toNat_natCast] at bt
  have dd : Nd h a ∧ Nd h b := ⟨da, db⟩
  rw [if_pos dd] at bt
  have x0 : Go.bits .xor .u64 (a : Int) (b : Int) = ((a ^^^ b : Nat) : Int) := Go.bits_xor_u64_nat a b (by omega) (by omega)
  have xl : a ^^^ b < 18446744073709551616 := Nat.xor_lt_two_pow (n := 64) (by omega) (by omega)
  have s0 := shr_eq a (k := 0) (by omega)
  have s1 := shr_eq b (k := 0) (by omega)
  rw [Nat.pow_zero, Nat.div_one] at s0 s1
  have szl := sz_log2 da.2.2.1 db.2.2.1 e
  unfold node_Meet.f
  rw [bt]; simp only [bnd]
  rw [if_pos (by trivial), depth_eq da.2.2.1 (by omega), depth_eq db.2.2.1 (by omega)]; simp only [bnd]
  rw [← e, mn_cast, Nat.min_self, Int.sub_self]
  have w0 : wrap64 0 = 0 := w64 (by omega) (by omega)
  rw [w0, if_pos (by omega), if_pos (by omega)]
  rw [show (0 : Int) = ((0 : Nat) : Int) from rfl, s0, s1, x0, len64 xl]; simp only [bnd]
  rw [if_pos (by omega), shr_eq a (by omega)]; rfl
theorem rd_fst {l : List Nat} (h : l ≠ []) : rd (ints l) 0 = (fst1 l : Int) := by
  have : 0 < l.length := List.length_pos_iff.2 h
  have e := ints_rd this
  rw [show ((0 : Nat) : Int) = 0 from rfl] at e
  rw [e]; cases l with
  | nil => exact absurd rfl h
  | cons a t => rfl
theorem rd_lst {l : List Nat} (h : l ≠ []) (hn : l.length < 4611686018427387904) : rd (ints l) (wrap64 ((l.length : Int) - 1)) = (lst1 l : Int) := by
  have : 0 < l.length := List.length_pos_iff.2 h
  rw [w64 (by omega) (by omega), show (l.length : Int) - 1 = ((l.length - 1 : Nat) : Int) by omega, ints_rd (by omega)]
  unfold lst1
  rw [List.getLastD_eq_getLast?, List.getLast?_eq_some_getLast h, List.getLast_eq_getElem]; rfl
theorem Down_eq (h : Int) {l : List Nat} (hb : ∀ x ∈ l, x < 18446744073709551616) (hn : l.length < 4611686018427387904) {n : Nat} (h1 : n < 18446744073709551616) {k : Nat} (hk : l.length + 3 ≤ k) :
    steiner_Down.f k h (ints l) (n : Int) = some (if Lst h l ∧ Nd h.toNat n then (if inT h.toNat l n = true then ((dwn h.toNat l n : Int), 0) else (0, 4)) else (0, 1)) := by
  unfold steiner_Down.f
  rw [lBelow_eq h hb hn h1 hk]; simp only [bnd]
  by_cases c : Lst h l ∧ Nd h.toNat n
  · rw [if_pos c, if_pos c]; dsimp only
    rw [if_pos (by trivial), ints_len]
    have hl := c.1.2.2.1
    have hh := c.1.1
    have hH := hh
    rw [hi_iff] at hH
    by_cases t : inT h.toNat l n = true
    · have hne := blw_ne.2 t
      have hl2 : (blw h.toNat l n).length ≤ l.length := List.length_filter_le _ _
      have hp : 0 < (blw h.toNat l n).length := List.length_pos_iff.2 hne
      have f1 := hl _ (mem_blw.1 (fst_mem hne)).1
      have g1 := hl _ (mem_blw.1 (lst_mem hne)).1
      have hpw := pow_le_h (h := h.toNat) (by omega)
      have n1 : Nd h.toNat (2 ^ h.toNat + fst1 (blw h.toNat l n)) := ⟨by omega, by omega, leaf_ne _ _, by rw [leaf_log f1]; omega⟩
      have n2 : Nd h.toNat (2 ^ h.toNat + lst1 (blw h.toNat l n)) := ⟨by omega, by omega, leaf_ne _ _, by rw [leaf_log g1]; omega⟩
      have me := Meet_eq n1 n2 (by rw [leaf_log f1, leaf_log g1]) (k := k) (by omega)
      have e : ((h.toNat : Nat) : Int) = h := by omega
      rw [e] at me
      rw [if_pos t, if_neg (by omega), if_pos (by omega), rd_fst hne, nLeaf_eq h (by omega)]; simp only [bnd]
      rw [if_pos hh, if_pos f1, if_pos f1, if_pos (by rw [w64 (by omega) (by omega)]; omega), if_pos (by rw [w64 (by omega) (by omega)]; omega), rd_lst hne (by omega), nLeaf_eq h (by omega)]; simp only [bnd]
      rw [if_pos hh, if_pos g1, if_pos g1]; dsimp only
      rw [if_pos rfl, if_pos (by trivial), me]; rfl
    · have hne : blw h.toNat l n = [] := blw_nil.2 (by simpa using t)
      rw [if_neg t, hne]; rfl
  · rw [if_neg c, if_neg c]; rfl
theorem whl_len (T : List Nat) : (whl T).length = T.length := by simp [whl]
theorem each_l (T : List Nat) : ∀ (B A : List Nat) (k : Nat), T = A ++ B → T.length ≤ 1000000 →
    api_Subset_80.l0 (B.length + 1 + k) (sbs (whl A) ++ List.replicate B.length z24) (ints T) (T.length : Int) (A.length : Int) = some (sbs (whl T)) := by
  intro B
  induction B with
  | nil =>
    intro A k hT hn
    rw [show ([] : List Nat).length + 1 + k = k + 1 by simp; omega]
    simp only [api_Subset_80.l0]
    rw [List.append_nil] at hT
    rw [if_neg (by rw [hT]; omega), hT]; simp
  | cons b B ih =>
    intro A k hT hn
    have hl : T.length = A.length + (B.length + 1) := by rw [hT]; simp
    rw [show (b :: B).length + 1 + k = (B.length + 1 + k) + 1 by simp; omega]
    simp only [api_Subset_80.l0]
    have e1 : T = (A ++ [b]) ++ B := by rw [hT]; simp
    have er : rd (ints T) (A.length : Int) = (b : Int) := by rw [hT]; exact rd_mid A b B
    have es : (sbs (whl A) ++ List.replicate (b :: B).length z24).set A.length (⟨(b : Int), 0⟩ : S24) = sbs (whl (A ++ [b])) ++ List.replicate B.length z24 := by
      rw [List.length_cons, List.replicate_succ, List.set_append_right _ _ (by simp [sbs, whl])]
      simp [sbs, whl]
    rw [if_pos (by omega), if_pos (by omega), if_pos (by rw [ints_len]; omega), if_pos (by simp [sbs, whl]; omega), er, Int.toNat_natCast, es, w64 (by omega) (by omega), show (A.length : Int) + 1 = ((A ++ [b]).length : Int) by simp]
    exact ih (A ++ [b]) k e1 hn
theorem each_eq (T : List Nat) (hn : T.length ≤ 1000000) {k : Nat} (hk : T.length < k) : api_Subset_80.f k (ints T) = some (sbs (whl T)) := by
  obtain ⟨j, rfl⟩ : ∃ j, k = T.length + 1 + j := ⟨k - (T.length + 1), by omega⟩
  unfold api_Subset_80.f
  rw [if_pos (by omega), ints_len, if_pos (by omega), Int.toNat_natCast]
  have := each_l T T [] j rfl hn
  rw [show (([] : List Nat).length : Int) = 0 from rfl, show sbs (whl []) = [] from rfl, List.nil_append] at this
  exact this
theorem hng_len_le {H : Nat} (hH : H ≤ 32) {l : List Nat} (hl : ∀ i ∈ l, i < 2 ^ H) (hu : Up l) (n1 : l.length ≤ 1024) : (hng H l).length ≤ 40000 := by
  by_cases l0 : l = []
  · subst l0; simp [hng]
  · have t1 := (tree_len hl hu l0).1
    have tl := trs_len hl hu (H + 1) (Nat.le_refl _)
    have tm : (H + 1) * l.length ≤ 33 * 1024 := Nat.mul_le_mul (by omega) (by omega)
    omega
theorem WCover_eq (h : Int) {l : List Nat} (hb : ∀ x ∈ l, x < 18446744073709551616) (hn : l.length < 4611686018427387904) {k : Nat} (hk : 200000 ≤ k) (hk2 : l.length + 2 ≤ k) :
    whole_Cover.f k h (ints l) = some (if Lst h l then (sbs (whl (hng h.toNat l)), 0) else ([], 1)) := by
  unfold whole_Cover.f
  rw [Hang_eq h hb hn hk hk2]; simp only [bnd]
  by_cases c : Lst h l
  · have hH := c.1
    rw [hi_iff] at hH
    have := hng_len_le (H := h.toNat) (by omega) c.2.2.1 c.2.2.2 c.2.1
    rw [if_pos c, if_pos c]; dsimp only
    rw [each_eq _ (by omega) (by omega)]; rfl
  · rw [if_neg c, if_neg c]; dsimp only
    have := each_eq [] (by simp) (k := k) (by simp; omega)
    rw [show ints [] = ([] : List Int) from rfl] at this
    rw [this]; rfl
def bdn (H m : Nat) : Nat := if m = 0 then 1 else m * (H - m.log2)
theorem sbs_app' (l m : List (Nat × Nat)) : sbs l ++ sbs m = sbs (l ++ m) := by simp [sbs]
theorem sbs_len' (l : List (Nat × Nat)) : (sbs l).length = l.length := by simp [sbs]
theorem ltS_sbs (a b : Nat × Nat) : Go.Proofs.ltOf ordf (⟨(a.1 : Int), (a.2 : Int)⟩ : S24) ⟨(b.1 : Int), (b.2 : Int)⟩ = decide (Lss a b) := by
  rw [ltS_eq]
  congr 1
  rw [lss_iff]
  apply propext
  simp only
  omega
theorem sort_sbs (c : List (Nat × Nat)) : sortS (sbs c) = sbs (srt c) := by
  unfold sortS sbs srt
  rw [List.map_mergeSort (s := leS)]
  intro a _ b _
  unfold lle leS
  rw [ltS_sbs]
section
variable {H : Nat} {l : List Nat} (c : Lst (H : Int) l)
include c
theorem cut_g {m d : Nat} (d0 : d ≠ 0) (dh : d.log2 ≤ H) (fk : d.log2 < H → inT H l (2 * d) = true ∧ inT H l (2 * d + 1) = true) (hm : d.log2 < H → H < d.log2 + 1 + m)
    (ih : ∀ (n k : Nat) (out : List (Nat × Nat)), n ≠ 0 → n.log2 ≤ H → inT H l n = true → H < n.log2 + m → l.length + 10 + 4 * m ≤ k → out.length + (cutl H l m n).length ≤ 1000000 → diff_cut.f k (H : Int) (ints l) (n : Int) (sbs out) = some (sbs (out ++ cutl H l m n), 0))
    (k : Nat) (hk : l.length + 13 + 4 * m ≤ k) (out : List (Nat × Nat)) (ho : out.length + (if d.log2 < H then cutl H l m (2 * d) ++ cutl H l m (2 * d + 1) else []).length ≤ 1000000) :
    diff_cut.g k (H : Int) (ints l) (d : Int) 0 (sbs out) = some (sbs (out ++ (if d.log2 < H then cutl H l m (2 * d) ++ cutl H l m (2 * d + 1) else [])), 0) := by
  have hH := c.1
  rw [hi_iff] at hH
  have nd : Nd H d := ⟨by omega, by omega, d0, dh⟩
  obtain ⟨k, rfl⟩ : ∃ q, k = q + 3 := ⟨k - 3, by omega⟩
  have ch0 := Child_eq nd (b := 0) (by omega) (k := k + 2) (by omega)
  have ch1 := Child_eq nd (b := 1) (by omega) (k := k + 1) (by omega)
  rw [show ((0 : Nat) : Int) = 0 from rfl] at ch0
  rw [show ((1 : Nat) : Int) = 1 from rfl] at ch1
  have lg := log2_dbl d0
  have g2 : ∀ o, diff_cut.g (k + 1) (H : Int) (ints l) (d : Int) (wrap64 (1 + 1)) (sbs o) = some (sbs o, 0) := fun o => by
    rw [w64 (by omega) (by omega), diff_cut.g, if_neg (by omega)]
  rw [diff_cut.g, if_pos (by omega), ch0]; simp only [bnd]
  by_cases h : d.log2 < H
  · rw [if_pos h] at ho
    rw [if_pos h] at ch1
    rw [if_pos h, if_pos h]
    obtain ⟨f1, f2⟩ := fk h
    have hm' := hm h
    rw [List.length_append] at ho
    have i1 := ih (2 * d) (k + 2) out (by omega) (by omega) f1 (by omega) (by omega) (by omega)
    have i2 := ih (2 * d + 1) (k + 1) (out ++ cutl H l m (2 * d)) (by omega) (by omega) f2 (by omega) (by omega) (by rw [List.length_append]; omega)
    dsimp only
    rw [if_neg (by omega), if_pos (by trivial), show 2 * d + 0 = 2 * d from rfl, i1]; simp only [bnd]
    rw [if_pos (by trivial), w64 (by omega) (by omega), show (0 : Int) + 1 = 1 from rfl, diff_cut.g, if_pos (by omega), ch1]; simp only [bnd]
    rw [if_neg (by omega), if_pos (by trivial), i2]; simp only [bnd]
    rw [if_pos (by trivial), g2, List.append_assoc]
  · rw [if_neg h, if_neg h, List.append_nil]
    dsimp only
    rw [if_pos (by trivial)]
theorem cut_eq : ∀ (m n k : Nat) (out : List (Nat × Nat)), n ≠ 0 → n.log2 ≤ H → inT H l n = true → H < n.log2 + m → l.length + 10 + 4 * m ≤ k → out.length + (cutl H l m n).length ≤ 1000000 →
    diff_cut.f k (H : Int) (ints l) (n : Int) (sbs out) = some (sbs (out ++ cutl H l m n), 0)
  | 0, n, k, out, n0, h1, hn, h2, hk, ho => by omega
  | m + 1, n, k, out, n0, h1, hn, h2, hk, ho => by
    have hH := c.1
    rw [hi_iff] at hH
    have hl := c.2.2.1
    have hu := c.2.2.2
    rw [Int.toNat_natCast] at hl
    have hp := pow_le_h (h := H) (by omega)
    have nd : Nd H n := ⟨by omega, by omega, n0, h1⟩
    have hb : ∀ x ∈ l, x < 18446744073709551616 := fun x hx => by have := hl x hx; omega
    have d0 := dwn_ne hl hu hn
    have da := dwn_below hl hu hn
    have dl := dwn_le hl hu hn
    obtain ⟨k, rfl⟩ : ∃ q, k = q + 1 := ⟨k - 1, by omega⟩
    have dw := Down_eq (H : Int) hb (by have := c.2.1; omega) (n := n) (by have := nd.lt33; omega) (k := k) (by omega)
    rw [Int.toNat_natCast, if_pos ⟨c, nd⟩, if_pos hn] at dw
    have fk : (dwn H l n).log2 < H → inT H l (2 * dwn H l n) = true ∧ inT H l (2 * dwn H l n + 1) = true := fun h => by
      have := mem_frk.1 (dwn_fork hl hu hn h); exact this.2.2
    have g := cut_g c d0 dl fk (m := m) (by have := da.1; omega) (fun n k out => cut_eq m n k out) k (by omega)
    rw [cutl] at ho ⊢
    rw [diff_cut.f, dw]; simp only [bnd]
    rw [if_pos (by trivial)]
    generalize hd : dwn H l n = d at *
    by_cases e : d = n
    · rw [if_pos e, List.nil_append] at ho ⊢
      rw [if_pos (by omega), g out ho]
    · rw [if_neg e] at ho ⊢
      simp only [List.length_append, List.length_singleton] at ho
      have e2 : sbs out ++ [(⟨(n : Int), (d : Int)⟩ : S24)] = sbs (out ++ [(n, d)]) := by simp [sbs]
      rw [if_neg (by omega), if_pos (by rw [sbs_len']; omega), e2, g (out ++ [(n, d)]) (by simp only [List.length_append, List.length_singleton]; (try split); all_goals (first | (rename_i z; rw [if_pos z] at ho; simp only [List.length_append] at *; omega) | (rename_i z; rw [if_neg z] at ho; simp at *; omega))), List.append_assoc]
end
theorem dif_len_le {H : Nat} {l : List Nat} (c : Lst (H : Int) l) : (dif H l).length ≤ 2048 := by
  have hl := c.2.2.1
  rw [Int.toNat_natCast] at hl
  have := dif_len hl c.2.2.2
  have := c.2.1
  split at * <;> omega
theorem DCover_eq (h : Int) {l : List Nat} (hb : ∀ x ∈ l, x < 18446744073709551616) (hn : l.length < 4611686018427387904) {k : Nat} (hk : l.length + 200 ≤ k) :
    diff_Cover.f k h (ints l) = some (if Lst h l then (sbs (srt (dif h.toNat l)), 0) else ([], 1)) := by
  unfold diff_Cover.f
  have is := Is_eq h hb hn (n := 1) (by omega) (k := k) (by omega)
  rw [show ((1 : Nat) : Int) = 1 from rfl] at is
  by_cases c : Lst h l
  · have hH := c.1
    rw [hi_iff] at hH
    obtain ⟨H, rfl⟩ : ∃ H : Nat, h = (H : Int) := ⟨h.toNat, by omega⟩
    have hl := c.2.2.1
    have hu := c.2.2.2
    rw [Int.toNat_natCast] at hl ⊢
    have r1 : Nd H 1 := nd_root.2 (by omega)
    rw [Int.toNat_natCast, if_pos ⟨c, r1⟩] at is
    rw [is]; simp only [bnd]
    rw [if_pos (by trivial), if_pos c]
    by_cases l0 : l = []
    · have e : inT H l 1 = false := by rw [← Bool.not_eq_true, inT_root]; simp [l0]
      have e2 : dif H l = [(1, 0)] := by unfold dif; rw [if_pos l0]
      have e3 : srt (dif H l) = [(1, 0)] := by rw [e2]; exact List.mergeSort_singleton _
      rw [e, if_neg (by simp), e3]; rfl
    · have e : inT H l 1 = true := inT_root.2 l0
      have ln := dif_len_le c
      have e2 : dif H l = cutl H l (H + 1) 1 := by unfold dif; rw [if_neg l0]
      have cu := cut_eq c (H + 1) 1 k [] (by omega) (by rw [log2_one]; omega) e (by rw [log2_one]; omega) (by omega) (by rw [← e2]; simp; omega)
      rw [List.nil_append, ← e2, show ((1 : Nat) : Int) = 1 from rfl, show sbs [] = [] from rfl] at cu
      rw [e, if_pos (by trivial), cu]; simp only [bnd]
      rw [if_pos (by trivial), if_pos (by rw [sbs_len']; omega), sort_sbs]
  · rw [if_neg (fun z => c z.1)] at is
    rw [is]; simp only [bnd]
    rw [if_neg (by omega), if_neg c]
def dbn (m : Nat) : Nat := if m = 0 then 1 else 2 * m - 1
def lys (h : Nat) (s : Int) (l : List Nat) : List (Nat × Nat) := if s = 1 then whl (hng h l) else if s = 2 then dfs h l else srt (lay h (dfs h l))
theorem lorder_eq (c : List (Nat × Nat)) (hc : c.length ≤ 1000000) (k : Nat) : layer_Order.f k (sbs c) = some (sbs (srt c)) := by
  unfold layer_Order.f
  rw [if_pos (by rw [sbs_len']; exact hc), sort_sbs]
theorem lcover_l0 {H : Nat} (S : List (Nat × Nat)) (hS : ∀ s ∈ S, Sb H s.1 s.2) (hlen : S.length ≤ 4000) : ∀ (q t k : Nat), t + q = S.length → q + 20 ≤ k →
    layer_Cover.l0 k (H : Int) (sbs (lay H (S.take t))) (sbs S) (S.length : Int) (t : Int) = some (sbs (srt (lay H S)), 0) := by
  intro q
  induction q with
  | zero =>
    intro t k ht hk
    obtain ⟨k, rfl⟩ : ∃ m, k = m + 1 := ⟨k - 1, by omega⟩
    have ll := (lay_len H S).2
    rw [layer_Cover.l0, if_neg (by omega), List.take_of_length_le (by omega), lorder_eq _ (by omega)]; rfl
  | succ q ih =>
    intro t k ht hk
    obtain ⟨k, rfl⟩ : ∃ m, k = m + 1 := ⟨k - 1, by omega⟩
    have htS : t < S.length := by omega
    have sb := hS _ (List.getElem_mem htS)
    have bd := sb_lt sb
    have tk : lay H (S.take (t + 1)) = lay H (S.take t) ++ spl H S[t].1 S[t].2 := by
      unfold lay; rw [List.take_succ_eq_append_getElem htS, List.flatMap_append]; simp
    have nx := ih (t + 1) k (by omega) (by omega)
    have rdt := rdT_sbs htS
    have sl := spl_len H S[t].1 S[t].2
    have l1 := (lay_len H (S.take t)).2
    rw [List.length_take] at l1
    have sp := Split_eq (H : Int) bd.1 bd.2 (k := k) (by omega)
    rw [Int.toNat_natCast, if_pos sb] at sp
    rw [layer_Cover.l0, if_pos (by omega), if_pos (by omega), if_pos (by rw [sbs_len']; omega), rdt]
    dsimp only
    rw [sp]; simp only [bnd]
    rw [if_pos (by trivial), if_pos (by rw [sbs_len']; omega), sbs_app', ← tk, w64 (by omega) (by omega), show (t : Int) + 1 = ((t + 1 : Nat) : Int) by omega]
    exact nx
theorem LCover_eq (h s : Int) {l : List Nat} (hb : ∀ x ∈ l, x < 18446744073709551616) (hn : l.length < 4611686018427387904) {k : Nat} (hk : 200000 ≤ k) (hk2 : l.length + 200 ≤ k) :
    layer_Cover.f k h s (ints l) = some (if Sch s ∧ Lst h l then (sbs (lys h.toNat s l), 0) else ([], 1)) := by
  obtain ⟨k, rfl⟩ : ∃ m, k = m + 1 := ⟨k - 1, by omega⟩
  unfold layer_Cover.f
  have ck := lcheck_eq h s k
  by_cases c0 : Sch s ∧ Hi h
  · rw [if_pos c0] at ck
    rw [ck]; simp only [bnd]
    rw [if_pos (by trivial)]
    obtain ⟨c1, c2⟩ := c0
    by_cases e1 : s = 1
    · have wc := WCover_eq h hb hn (k := k + 1) (by omega) (by omega)
      rw [if_pos e1, wc]; simp only [bnd]
      by_cases c : Lst h l
      · rw [if_pos c, if_pos ⟨c1, c⟩]; unfold lys; rw [if_pos e1]
      · rw [if_neg c, if_neg (fun z => c z.2)]
    · have d := DCover_eq h hb hn (k := k + 1) (by omega)
      rw [if_neg e1]
      by_cases c : Lst h l
      · obtain ⟨H, rfl⟩ : ∃ H : Nat, h = (H : Int) := ⟨h.toNat, by have := c.1; rw [hi_iff] at this; omega⟩
        have hH : 1 ≤ H ∧ H ≤ 32 := by have := c.1; rw [hi_iff] at this; omega
        have hl := c.2.2.1
        have hu := c.2.2.2
        have ln := dif_len_le c
        have ln2 := dfs_len H l
        have e : srt (dif H l) = dfs H l := rfl
        rw [if_pos c, Int.toNat_natCast, e] at d
        rw [d, if_pos ⟨c1, c⟩, Int.toNat_natCast]; simp only [bnd]
        rw [Int.toNat_natCast] at hl
        rw [if_pos (by trivial), layer_Cover.j0]
        by_cases e2 : s = 2
        · rw [if_pos (by rw [beq_iff_eq]; exact e2)]; unfold lys; rw [if_neg e1, if_pos e2]
        · have cv := dfs_cvr hH hl hu
          have main := lcover_l0 (dfs H l) cv.sb (by omega) (dfs H l).length 0 k (by omega) (by omega)
          rw [if_neg (by rw [beq_iff_eq]; exact e2), sbs_len']; unfold lys; rw [if_neg e1, if_neg e2]
          exact main
      · rw [if_neg c] at d
        rw [d, if_neg (fun z => c z.2)]; simp only [bnd]
        rw [if_neg (by omega), layer_Cover.j0, if_pos rfl]
  · have c : ¬ (Sch s ∧ Lst h l) := fun z => c0 ⟨z.1, z.2.1⟩
    rw [if_neg c0] at ck
    rw [ck, if_neg c]; simp only [bnd]
    rw [if_neg (by omega)]
def lbn (H : Nat) (s : Int) (m : Nat) : Nat := if s = 1 then bdn H m else if s = 2 then dbn m else if m = 0 then dbn m else 2 * dbn m
theorem lss_whl {h : Nat} {l : List Nat} : (whl (hng h l)).Pairwise Lss := by
  unfold whl
  rw [List.pairwise_map]
  exact (hng_up h l).imp (fun z => by rw [lss_iff]; exact .inl z)
theorem lys_cvr {h : Nat} (hh : 1 ≤ h ∧ h ≤ 32) {l : List Nat} (hl : ∀ i ∈ l, i < 2 ^ h) (hu : Up l) (s : Int) : Cvr h l (lys h s l) ∧ (lys h s l).Pairwise Lss := by
  unfold lys
  split
  · exact ⟨whl_cvr hh hl hu, lss_whl⟩
  · split
    · exact ⟨dfs_cvr hh hl hu, dfs_lss hh hl hu⟩
    · have := lay_cvr (dfs_cvr hh hl hu)
      exact ⟨this.perm (srt_perm _).symm, srt_strict this.nodup⟩
theorem lys_may {h : Nat} (hh : 1 ≤ h ∧ h ≤ 32) {l : List Nat} (hl : ∀ i ∈ l, i < 2 ^ h) (hu : Up l) {s : Int} (hs : Sch s) : ∀ q ∈ lys h s l, May h s q.1 q.2 := by
  intro q hq
  rw [may_iff]
  unfold lys at hq
  have en : ∀ q ∈ dfs h l, q.2 = 0 → q.1 = 1 := fun q hq z => by
    rcases dfs_end hh hl hu hq with ⟨_, _, e⟩ | ⟨e, _⟩
    · exact e
    · exact absurd z e
  by_cases e1 : s = 1
  · rw [if_pos e1] at hq
    obtain ⟨n, _, rfl⟩ := List.mem_map.1 hq
    exact .inl ⟨e1, rfl⟩
  · rw [if_neg e1] at hq
    by_cases e2 : s = 2
    · rw [if_pos e2] at hq
      refine .inr (.inl ⟨e2, ?_⟩)
      by_cases z : q.2 = 0
      · exact .inr (en q hq z)
      · exact .inl z
    · rw [if_neg e2] at hq
      have hq' := (srt_perm _).mem_iff.1 hq
      exact .inr (.inr ⟨e1, e2, lay_usf (fun r hr => ⟨(dfs_cvr hh hl hu).sb r hr, en r hr⟩) q hq'⟩)
theorem lys_len {h : Nat} (hh : 1 ≤ h ∧ h ≤ 32) {l : List Nat} (hl : ∀ i ∈ l, i < 2 ^ h) (hu : Up l) (s : Int) : (lys h s l).length ≤ lbn h s l.length := by
  have dl : (dfs h l).length ≤ dbn l.length := by
    have ln3 := dif_len hl hu
    rw [dfs_len]
    unfold dbn
    by_cases l0 : l = []
    · rw [if_pos l0] at ln3; rw [if_pos (by rw [l0]; rfl)]; omega
    · rw [if_neg l0] at ln3; rw [if_neg (fun z => l0 (List.length_eq_zero_iff.1 z))]; omega
  unfold lys lbn
  by_cases e1 : s = 1
  · rw [if_pos e1, if_pos e1, whl_len]
    by_cases l0 : l = []
    · subst l0; simp [hng, bdn]
    · have := (hng_bound hl hu l0).1
      unfold bdn
      rw [if_neg (fun z => l0 (List.length_eq_zero_iff.1 z))]; exact this
  · rw [if_neg e1, if_neg e1]
    by_cases e2 : s = 2
    · rw [if_pos e2, if_pos e2]; exact dl
    · rw [if_neg e2, if_neg e2, (srt_perm _).length_eq]
      have ll := (lay_len h (dfs h l)).2
      by_cases m0 : l.length = 0
      · rw [if_pos m0]
        have l0 := List.length_eq_zero_iff.1 m0
        have e : dfs h l = [(1, 0)] := by
          unfold dfs
          have e2 : dif h l = [(1, 0)] := by unfold dif; rw [if_pos l0]
          rw [e2]; exact List.mergeSort_singleton _
        have e3 : lay h (dfs h l) = [(1, 0)] := by
          rw [e]; unfold lay
          rw [List.flatMap_cons, List.flatMap_nil, List.append_nil, spl_one (.inr rfl)]
        rw [e3, m0]; simp [dbn]
      · rw [if_neg m0]; omega
theorem In_l (l : List Nat) (x : Nat) (hn : l.length < 4611686018427387904) : ∀ (q i k : Nat), i + q = l.length → q < k → medlarref02_In.l0 k (x : Int) (ints l) (l.length : Int) (i : Int) = some (decide (x ∈ l.drop i)) := by
  intro q
  induction q with
  | zero =>
    intro i k hi hk
    obtain ⟨k, rfl⟩ : ∃ m, k = m + 1 := ⟨k - 1, by omega⟩
    rw [medlarref02_In.l0, if_neg (by omega), List.drop_of_length_le (by omega)]; simp
  | succ q ih =>
    intro i k hi hk
    obtain ⟨k, rfl⟩ : ∃ m, k = m + 1 := ⟨k - 1, by omega⟩
    rw [medlarref02_In.l0, if_pos (by omega), if_pos (by omega), if_pos (by rw [ints_len]; omega), ints_rd (show i < l.length by omega), List.drop_eq_getElem_cons (show i < l.length by omega)]
    by_cases c : l[i] = x
    · rw [if_pos (by omega)]; simp [c]
    · rw [if_neg (by omega), w64 (by omega) (by omega), show (i : Int) + 1 = ((i + 1 : Nat) : Int) by omega, ih (i + 1) k (by omega) (by omega)]
      congr 1; rw [decide_eq_decide, List.mem_cons]
      constructor
      · intro z; exact .inr z
      · rintro (z | z)
        · exact absurd z.symm c
        · exact z
theorem In_eq (l : List Nat) (x : Nat) (hn : l.length < 4611686018427387904) {k : Nat} (hk : l.length < k) : medlarref02_In.f k (ints l) (x : Int) = some (decide (x ∈ l)) := by
  unfold medlarref02_In.f
  rw [ints_len]
  exact In_l l x hn l.length 0 k (by omega) hk
end Go.Proofs.Ytnbiddloiiljjaa.Med
