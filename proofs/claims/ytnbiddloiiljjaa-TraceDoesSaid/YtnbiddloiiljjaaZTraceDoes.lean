/- Plain facts that the proof of TraceDoes needs. -/
import Derived.Test.YtnbiddloiiljjaaK0
import Derived.Laws.Bits64b
import Derived.Laws.Bits64
import Derived.Test.YtnbiddloiiljjaaMPx0
import Derived.Test.YtnbiddloiiljjaaMPx2
import Derived.Test.YtnbiddloiiljjaaMPx3
import Derived.Test.YtnbiddloiiljjaaMPx4
import Derived.Test.YtnbiddloiiljjaaMPx5
import Derived.Test.YtnbiddloiiljjaaMPx6
import Derived.Test.YtnbiddloiiljjaaMPx7
set_option linter.unusedVariables false
set_option linter.unusedSimpArgs false
set_option linter.unusedSectionVars false
namespace Go.Proofs.Ytnbiddloiiljjaa.Med
open Go.RowKit Go.Proofs.YtnbiddloiiljjaaW.PrintWords Go.Proofs.YtnbiddloiiljjaaW.PrintMore Go.Proofs.Ytnbiddloiiljjaa.MP
theorem bnd {α β : Type} (a : α) (f : α → Option β) : (some a).bind f = f a := by
  have h := Option.bind_some a f
  exact h
theorem w64 {x : Int} (h0 : -9223372036854775808 ≤ x) (h1 : x ≤ 9223372036854775807) : wrap64 x = x := by unfold wrap64; omega
theorem wu64 {x : Int} (h0 : 0 ≤ x) (h1 : x < 18446744073709551616) : IntKind.u64.wrap x = x := by
  have : IntKind.u64.wrap x = x % 18446744073709551616 := by rfl
  omega
theorem wf_u64 {x : Int} (h : (Lit.int .u64 x).wf = true) : ∃ n : Nat, x = (n : Int) ∧ n < 18446744073709551616 := by
  have h0 : IntKind.u64.min = 0 := by decide
  have h1 : IntKind.u64.max = 18446744073709551615 := by decide
  simp [Lit.wf, h0, h1] at h
  exact ⟨x.toNat, by omega, by omega⟩
theorem log2_iff {n d : Nat} (hn : n ≠ 0) : n.log2 = d ↔ 2 ^ d ≤ n ∧ n < 2 ^ (d + 1) := Nat.log2_eq_iff hn
theorem log2_lo {n : Nat} (hn : n ≠ 0) : 2 ^ n.log2 ≤ n := Nat.log2_self_le hn
theorem log2_hi (n : Nat) : n < 2 ^ (n.log2 + 1) := Nat.lt_log2_self
theorem log2_one : Nat.log2 1 = 0 := by decide
theorem pow_pos2 (k : Nat) : 0 < 2 ^ k := Nat.two_pow_pos k
theorem pow_split {a b : Nat} (h : a ≤ b) : 2 ^ b = 2 ^ a * 2 ^ (b - a) := by rw [← Nat.pow_add]; congr 1; omega
theorem pow_mono {a b : Nat} (h : a ≤ b) : 2 ^ a ≤ 2 ^ b := Nat.pow_le_pow_right (by omega) h
theorem pow_lt {a b : Nat} (h : a < b) : 2 ^ a < 2 ^ b := Nat.pow_lt_pow_right (by omega) h
theorem pow_le_32 {d : Nat} (h : d ≤ 33) : 2 ^ d ≤ 8589934592 := pow_mono (b := 33) h
theorem log2_div {n k : Nat} (hn : n ≠ 0) (hk : k ≤ n.log2) : (n / 2 ^ k).log2 = n.log2 - k ∧ n / 2 ^ k ≠ 0 := by
  have h1 := log2_lo hn
  have h2 := log2_hi n
  have hp := pow_pos2 k
  rw [pow_split hk] at h1
  have e : n.log2 + 1 = k + (n.log2 - k + 1) := by omega
  rw [e, Nat.pow_add] at h2
  have g1 : 2 ^ (n.log2 - k) ≤ n / 2 ^ k := (Nat.le_div_iff_mul_le hp).2 (by rw [Nat.mul_comm]; exact h1)
  have g2 : n / 2 ^ k < 2 ^ (n.log2 - k + 1) := Nat.div_lt_of_lt_mul h2
  have g3 : n / 2 ^ k ≠ 0 := by have := pow_pos2 (n.log2 - k); omega
  exact ⟨(log2_iff g3).2 ⟨g1, g2⟩, g3⟩
def anc (n d : Nat) : Nat := n / 2 ^ (n.log2 - d)
theorem anc_log2 {n d : Nat} (hn : n ≠ 0) (hd : d ≤ n.log2) : (anc n d).log2 = d := by
  have := (log2_div hn (k := n.log2 - d) (by omega)).1
  unfold anc; omega
theorem anc_ne {n d : Nat} (hn : n ≠ 0) : anc n d ≠ 0 := (log2_div hn (k := n.log2 - d) (by omega)).2
theorem anc_self (n : Nat) : anc n n.log2 = n := by unfold anc; simp
theorem anc_anc {n d e : Nat} (hn : n ≠ 0) (hd : d ≤ n.log2) (he : e ≤ d) : anc (anc n d) e = anc n e := by
  unfold anc
  rw [show (n / 2 ^ (n.log2 - d)).log2 = d from anc_log2 hn hd, Nat.div_div_eq_div_mul, ← Nat.pow_add]
  congr 2; omega
def Abv (a b : Nat) : Prop := a.log2 ≤ b.log2 ∧ anc b a.log2 = a
instance (a b : Nat) : Decidable (Abv a b) := inferInstanceAs (Decidable (_ ∧ _))
theorem Abv.trans {a b c : Nat} (hc : c ≠ 0) (h : Abv a b) (k : Abv b c) : Abv a c := by
  refine ⟨Nat.le_trans h.1 k.1, ?_⟩
  rw [← anc_anc hc k.1 h.1, k.2]; exact h.2
theorem abv_anc {n d : Nat} (hn : n ≠ 0) (hd : d ≤ n.log2) : Abv (anc n d) n := by
  unfold Abv; rw [anc_log2 hn hd]; exact ⟨hd, rfl⟩
theorem abv_div {a b k : Nat} (hb : b ≠ 0) (hk : k ≤ b.log2) (h : b / 2 ^ k = a) : Abv a b := by
  subst h
  have := (log2_div hb hk).1
  refine ⟨by omega, ?_⟩
  unfold anc; congr 2; omega
theorem Abv.eq_of_log2 {a b : Nat} (h : Abv a b) (e : a.log2 = b.log2) : a = b := by
  have := h.2; rw [e, anc_self] at this; exact this.symm
theorem Abv.total {a b c : Nat} (hc : c ≠ 0) (h : Abv a c) (k : Abv b c) (hab : a.log2 ≤ b.log2) : Abv a b := by
  refine ⟨hab, ?_⟩
  have := anc_anc hc k.1 hab
  rw [k.2] at this; rw [this]; exact h.2
theorem Abv.antisymm {a b : Nat} (h : Abv a b) (k : Abv b a) : a = b := h.eq_of_log2 (Nat.le_antisymm h.1 k.1)
def lf (h n : Nat) : Nat := n * 2 ^ (h - n.log2)
def rt (h n : Nat) : Nat := (n + 1) * 2 ^ (h - n.log2)
theorem rt_eq (h n : Nat) : rt h n = lf h n + 2 ^ (h - n.log2) := by unfold rt lf; rw [Nat.add_mul, Nat.one_mul]
theorem lf_lt_rt (h n : Nat) : lf h n < rt h n := by have := pow_pos2 (h - n.log2); rw [rt_eq]; omega
theorem lf_ge {h n : Nat} (hn : n ≠ 0) (hd : n.log2 ≤ h) : 2 ^ h ≤ lf h n := by
  unfold lf; rw [pow_split hd]; exact Nat.mul_le_mul_right _ (log2_lo hn)
theorem rt_le {h n : Nat} (hd : n.log2 ≤ h) : rt h n ≤ 2 ^ (h + 1) := by
  have e : h + 1 = (n.log2 + 1) + (h - n.log2) := by omega
  unfold rt; rw [e, Nat.pow_add]; exact Nat.mul_le_mul_right _ (log2_hi n)
theorem leaf_log2 {h x : Nat} (h0 : 2 ^ h ≤ x) (h1 : x < 2 ^ (h + 1)) : x.log2 = h := by
  have : x ≠ 0 := by have := pow_pos2 h; omega
  exact (log2_iff this).2 ⟨h0, h1⟩
theorem abv_leaf {h n x : Nat} (hn : n ≠ 0) (hd : n.log2 ≤ h) (h0 : 2 ^ h ≤ x) (h1 : x < 2 ^ (h + 1)) : Abv n x ↔ lf h n ≤ x ∧ x < rt h n := by
  have hx := leaf_log2 h0 h1
  unfold Abv anc lf rt
  rw [hx]
  have hp := pow_pos2 (h - n.log2)
  constructor
  · rintro ⟨_, e⟩
    exact ⟨(Nat.le_div_iff_mul_le hp).1 (by omega), (Nat.div_lt_iff_lt_mul hp).1 (by omega)⟩
  · rintro ⟨a, b⟩
    refine ⟨hd, Nat.le_antisymm ?_ ((Nat.le_div_iff_mul_le hp).2 a)⟩
    have : x / 2 ^ (h - n.log2) < n + 1 := Nat.div_lt_of_lt_mul (by rw [Nat.mul_comm]; exact b)
    omega
theorem abv_span {h a b : Nat} (ha : a ≠ 0) (hb : b ≠ 0) (hd : b.log2 ≤ h) (hab : a.log2 ≤ b.log2) : Abv a b ↔ lf h a ≤ lf h b ∧ rt h b ≤ rt h a := by
  have e1 : h - a.log2 = (b.log2 - a.log2) + (h - b.log2) := by omega
  have hp := pow_pos2 (h - b.log2)
  have hq := pow_pos2 (b.log2 - a.log2)
  unfold lf rt
  rw [e1, Nat.pow_add, ← Nat.mul_assoc, ← Nat.mul_assoc, Nat.mul_le_mul_right_iff hp, Nat.mul_le_mul_right_iff hp]
  unfold Abv anc
  constructor
  · rintro ⟨_, e⟩
    refine ⟨(Nat.le_div_iff_mul_le hq).1 (by omega), ?_⟩
    exact (Nat.div_lt_iff_lt_mul hq).1 (show b / 2 ^ (b.log2 - a.log2) < a + 1 by omega)
  · rintro ⟨x, y⟩
    refine ⟨hab, Nat.le_antisymm ?_ ((Nat.le_div_iff_mul_le hq).2 x)⟩
    have : b / 2 ^ (b.log2 - a.log2) < a + 1 := Nat.div_lt_of_lt_mul (by rw [Nat.mul_comm]; exact y)
    omega
def chn (n : Nat) : List Nat := (List.range (n.log2 + 1)).map (anc n)
theorem chn_len (n : Nat) : (chn n).length = n.log2 + 1 := by simp [chn]
theorem mem_chn {a n : Nat} (hn : n ≠ 0) : a ∈ chn n ↔ Abv a n := by
  unfold chn
  simp only [List.mem_map, List.mem_range]
  constructor
  · rintro ⟨d, hd, rfl⟩; exact abv_anc hn (by omega)
  · rintro ⟨h, e⟩; exact ⟨a.log2, by omega, e⟩
theorem chn_one : chn 1 = [1] := by decide
theorem log2_half {n : Nat} (h : 2 ≤ n) : (n / 2).log2 + 1 = n.log2 := by
  have h1 : 1 ≤ n.log2 := (Nat.le_log2 (by omega)).2 (by simpa using h)
  have := (log2_div (n := n) (k := 1) (by omega) h1).1
  rw [Nat.pow_one] at this; omega
theorem chn_snoc {n : Nat} (h : 2 ≤ n) : chn n = chn (n / 2) ++ [n] := by
  have hl := log2_half h
  unfold chn
  rw [← hl, List.range_succ, List.map_append]
  congr 1
  · apply List.map_congr_left
    intro d hd
    rw [List.mem_range] at hd
    have := anc_anc (n := n) (d := n.log2 - 1) (e := d) (by omega) (by omega) (by omega)
    rw [← this]
    congr 1
    unfold anc; congr 1
    rw [show n.log2 - (n.log2 - 1) = 1 by omega, Nat.pow_one]
  · simp only [List.map_cons, List.map_nil]; rw [hl, anc_self]
def sz (n : Nat) : Nat := if n = 0 then 0 else n.log2 + 1
theorem sz_div {n k : Nat} (h : 2 ^ k ≤ n) : sz n = sz (n / 2 ^ k) + k := by
  have hp := pow_pos2 k
  have hn : n ≠ 0 := by omega
  have hk : k ≤ n.log2 := (Nat.le_log2 hn).2 h
  obtain ⟨a, b⟩ := log2_div hn hk
  unfold sz; rw [if_neg hn, if_neg b, a]; omega
theorem sz_le {n k : Nat} (h : n < 2 ^ k) : sz n ≤ k := by
  unfold sz; split
  · omega
  · rename_i hn; have := (Nat.log2_lt hn).2 h; omega
theorem log2_64 {n : Nat} (hn : n < 18446744073709551616) : n.log2 < 64 := by
  by_cases h : n = 0
  · subst h; decide
  · exact (Nat.log2_lt h).2 hn
def Nd (h n : Nat) : Prop := 1 ≤ h ∧ h ≤ 32 ∧ n ≠ 0 ∧ n.log2 ≤ h
instance (h n : Nat) : Decidable (Nd h n) := inferInstanceAs (Decidable (_ ∧ _))
theorem Nd.lt {h n : Nat} (d : Nd h n) : n < 2 ^ (h + 1) := Nat.lt_of_lt_of_le (log2_hi n) (pow_mono (by have := d.2.2.2; omega))
theorem Nd.lt33 {h n : Nat} (d : Nd h n) : n < 8589934592 := Nat.lt_of_lt_of_le d.lt (pow_le_32 (by have := d.2.1; omega))
theorem nd_root {h : Nat} : Nd h 1 ↔ 1 ≤ h ∧ h ≤ 32 := by unfold Nd; rw [log2_one]; omega
def Hi (h : Int) : Prop := 1 ≤ h ∧ h ≤ 32
instance (h : Int) : Decidable (Hi h) := inferInstanceAs (Decidable (_ ∧ _))
theorem hi_iff (h : Int) : Hi h ↔ 1 ≤ h ∧ h ≤ 32 := Iff.rfl
theorem nd_iff (h n : Nat) : Nd h n ↔ 1 ≤ h ∧ h ≤ 32 ∧ n ≠ 0 ∧ n.log2 ≤ h := Iff.rfl
def Sb (h i j : Nat) : Prop := Nd h i ∧ (j = 0 ∨ (Nd h j ∧ i ≠ j ∧ Abv i j))
instance (h i j : Nat) : Decidable (Sb h i j) := inferInstanceAs (Decidable (_ ∧ _))
def stp (h : Nat) : Nat := if h ≤ 1 then 1 else if h ≤ 4 then 2 else if h ≤ 9 then 3 else if h ≤ 16 then 4 else if h ≤ 25 then 5 else 6
theorem stp_pos (h : Nat) : 1 ≤ stp h ∧ stp h ≤ 6 := by unfold stp; constructor <;> (repeat' split) <;> omega
theorem root_lt : (1 : Nat) < 18446744073709551616 := by omega
theorem nd_root' (h : Int) : Nd h.toNat 1 ↔ Hi h := by rw [nd_root, hi_iff]; omega
def nxt (h i : Nat) : Nat := min ((i / stp h + 1) * stp h) h
def Spc (h i : Nat) : Prop := i % stp h = 0 ∨ i = h
instance (h i : Nat) : Decidable (Spc h i) := inferInstanceAs (Decidable (_ ∨ _))
theorem spc_iff (h i : Nat) : Spc h i ↔ i % stp h = 0 ∨ i = h := Iff.rfl
theorem tmod_cast (i s : Nat) : Int.tmod (i : Int) (s : Int) = ((i % s : Nat) : Int) := by rw [Int.tmod_eq_emod_of_nonneg (by omega)]; rfl
def Usf (h i j : Nat) : Prop := (j = 0 ∧ i = 1) ∨ (j ≠ 0 ∧ (Spc h i.log2 ∨ j.log2 ≤ nxt h i.log2))
instance (h i j : Nat) : Decidable (Usf h i j) := inferInstanceAs (Decidable (_ ∨ _))
theorem usf_iff (h i j : Nat) : Usf h i j ↔ (j = 0 ∧ i = 1) ∨ (j ≠ 0 ∧ (Spc h i.log2 ∨ j.log2 ≤ nxt h i.log2)) := Iff.rfl
theorem usf_0 (h i : Nat) : Usf h i 0 ↔ i = 1 := by rw [usf_iff]; simp
theorem usf_j (h i : Nat) {j : Nat} (h0 : j ≠ 0) : Usf h i j ↔ (Spc h i.log2 ∨ j.log2 ≤ nxt h i.log2) := by rw [usf_iff]; simp [h0]
theorem sb_h {h : Int} {i j : Nat} (s : Sb h.toNat i j) : ((h.toNat : Nat) : Int) = h := by have := s.1.1; omega
def lo (h n : Nat) : Nat := lf h n - 2 ^ h
def hi (h n : Nat) : Nat := rt h n - 1 - 2 ^ h
def wd (h n : Nat) : Nat := 2 ^ (h - n.log2)
theorem wd_pos (h n : Nat) : 0 < wd h n := pow_pos2 _
theorem hi_eq {h n : Nat} (d : Nd h n) : hi h n + 1 = lo h n + wd h n := by
  have := rt_eq h n
  have h1 := lf_ge d.2.2.1 d.2.2.2
  have h2 := wd_pos h n
  unfold hi lo; unfold wd at *; omega
theorem hi_lt {h n : Nat} (d : Nd h n) : hi h n < 2 ^ h := by
  have h1 := rt_le (h := h) (n := n) d.2.2.2
  have h2 := lf_lt_rt h n
  have h3 := lf_ge d.2.2.1 d.2.2.2
  have h4 : 2 ^ (h + 1) = 2 ^ h * 2 := Nat.pow_succ 2 h
  unfold hi; omega
theorem pow_le_h {h : Nat} (hh : h ≤ 32) : 2 ^ h ≤ 4294967296 := pow_mono (b := 32) hh
def spn (h i j : Nat) : List (Nat × Nat) := if j = 0 then [(lo h i, hi h i)] else (if lo h i < lo h j then [(lo h i, lo h j - 1)] else []) ++ (if hi h j < hi h i then [(hi h j + 1, hi h i)] else [])
def In (h i j p : Nat) : Prop := (lo h i ≤ p ∧ p ≤ hi h i) ∧ (j = 0 ∨ ¬ (lo h j ≤ p ∧ p ≤ hi h j))
instance (h i j p : Nat) : Decidable (In h i j p) := inferInstanceAs (Decidable (_ ∧ _))
theorem in_iff (h i j p : Nat) : In h i j p ↔ (lo h i ≤ p ∧ p ≤ hi h i) ∧ (j = 0 ∨ ¬ (lo h j ≤ p ∧ p ≤ hi h j)) := Iff.rfl
theorem abv_lohi {h i j : Nat} (di : Nd h i) (dj : Nd h j) (ab : Abv i j) : lo h i ≤ lo h j ∧ hi h j ≤ hi h i := by
  have := (abv_span di.2.2.1 dj.2.2.1 dj.2.2.2 ab.1).1 ab
  have h1 := lf_ge di.2.2.1 di.2.2.2
  have h2 := lf_ge dj.2.2.1 dj.2.2.2
  unfold lo hi; omega
theorem mem_spn {h i j : Nat} (s : Sb h i j) (p : Nat) : (∃ x ∈ spn h i j, x.1 ≤ p ∧ p ≤ x.2) ↔ In h i j p := by
  rw [in_iff]
  by_cases h0 : j = 0
  · simp [spn, h0]
  · obtain ⟨dj, ne, ab⟩ := s.2.resolve_left h0
    have a := abv_lohi s.1 dj ab
    have q2 := hi_eq dj
    have w2 := wd_pos h j
    unfold spn; rw [if_neg h0]
    by_cases c1 : lo h i < lo h j <;> by_cases c2 : hi h j < hi h i <;> simp [c1, c2, h0] <;> omega
def Rise (m : Nat) : Nat → List (Nat × Nat) → Prop
  | _, [] => True
  | from_, x :: l => from_ ≤ x.1 ∧ x.1 ≤ x.2 ∧ x.2 < m ∧ Rise m (x.2 + 1) l
theorem Rise.mono {m : Nat} {l : List (Nat × Nat)} {a b : Nat} (h : Rise m a l) (hb : b ≤ a) : Rise m b l := by
  cases l with
  | nil => trivial
  | cons x l => exact ⟨Nat.le_trans hb h.1, h.2⟩
theorem spn_rise {h i j : Nat} (s : Sb h i j) : Rise (2 ^ h) 0 (spn h i j) := by
  have q1 := hi_eq s.1
  have w1 := wd_pos h i
  have l1 := hi_lt s.1
  by_cases h0 : j = 0
  · simp [spn, h0, Rise]; omega
  · obtain ⟨dj, ne, ab⟩ := s.2.resolve_left h0
    have a := abv_lohi s.1 dj ab
    have q2 := hi_eq dj
    have w2 := wd_pos h j
    unfold spn; rw [if_neg h0]
    by_cases c1 : lo h i < lo h j <;> by_cases c2 : hi h j < hi h i <;> simp [c1, c2, Rise] <;> omega
def tot : List (Nat × Nat) → Nat
  | [] => 0
  | x :: l => (x.2 - x.1 + 1) + tot l
theorem spn_tot {h i j : Nat} (s : Sb h i j) : tot (spn h i j) + (if j = 0 then 0 else wd h j) = wd h i := by
  have q1 := hi_eq s.1
  have w1 := wd_pos h i
  by_cases h0 : j = 0
  · simp [spn, h0, tot]; omega
  · obtain ⟨dj, ne, ab⟩ := s.2.resolve_left h0
    have a := abv_lohi s.1 dj ab
    have q2 := hi_eq dj
    have w2 := wd_pos h j
    unfold spn; rw [if_neg h0, if_neg h0]
    by_cases c1 : lo h i < lo h j <;> by_cases c2 : hi h j < hi h i <;> simp [c1, c2, tot] <;> omega
theorem wd_lt {h i j : Nat} (s : Sb h i j) (h0 : j ≠ 0) : wd h j < wd h i := by
  obtain ⟨dj, ne, ab⟩ := s.2.resolve_left h0
  have : i.log2 < j.log2 := Nat.lt_of_le_of_ne ab.1 (fun e => ne (ab.eq_of_log2 e))
  unfold wd
  exact pow_lt (by have := dj.2.2.2; omega)
theorem abv_lo_hi {h n p : Nat} (d : Nd h n) (hp : p < 2 ^ h) : Abv n (2 ^ h + p) ↔ lo h n ≤ p ∧ p ≤ hi h n := by
  have g1 := lf_ge d.2.2.1 d.2.2.2
  have g3 := lf_lt_rt h n
  have hs : 2 ^ (h + 1) = 2 ^ h * 2 := Nat.pow_succ 2 h
  rw [abv_leaf d.2.2.1 d.2.2.2 (by omega) (by omega)]
  unfold lo hi; omega
theorem sb_lt {h i j : Nat} (s : Sb h i j) : i < 18446744073709551616 ∧ j < 18446744073709551616 := by
  refine ⟨by have := s.1.lt33; omega, ?_⟩
  rcases s.2 with z | z
  · omega
  · have := z.1.lt33; omega
def Lfi (h : Int) (p : Nat) : Prop := Hi h ∧ p < 2 ^ h.toNat
instance (h : Int) (p : Nat) : Decidable (Lfi h p) := inferInstanceAs (Decidable (_ ∧ _))
theorem lfi_iff (h : Int) (p : Nat) : Lfi h p ↔ Hi h ∧ p < 2 ^ h.toNat := Iff.rfl
theorem Rise.at {m : Nat} : ∀ {l : List (Nat × Nat)} {a i : Nat} (h : Rise m a l) (hi : i < l.length), l[i].1 ≤ l[i].2 ∧ l[i].2 < m ∧ a ≤ l[i].1 ∧ (∀ (h0 : 0 < i), l[i - 1].2 < l[i].1) ∧ Rise m (l[i].2 + 1) (l.drop (i + 1))
  | [], _, _, _, hi => by simp at hi
  | x :: l, a, 0, r, _ => by
    obtain ⟨r1, r2, r3, r4⟩ := r
    simp only [List.getElem_cons_zero, List.drop_succ_cons, List.drop_zero]
    exact ⟨r2, r3, r1, fun h => absurd h (by omega), r4⟩
  | x :: l, a, i + 1, r, hi => by
    obtain ⟨r1, r2, r3, r4⟩ := r
    have hi' : i < l.length := by simpa using hi
    obtain ⟨p1, p2, p3, p4, p5⟩ := Rise.at r4 hi'
    simp only [List.getElem_cons_succ, List.drop_succ_cons]
    refine ⟨p1, p2, by omega, fun _ => ?_, p5⟩
    cases i with
    | zero => simp; omega
    | succ i => simpa using p4 (by omega)
theorem two_in {h i m j : Nat} (s1 : Sb h i m) (s2 : Sb h m j) (m0 : m ≠ 0) (j0 : j ≠ 0) (p : Nat) :
    (In h i m p ∧ ¬ In h m j p ∧ In h i j p) ∨ (¬ In h i m p ∧ In h m j p ∧ In h i j p) ∨ (¬ In h i m p ∧ ¬ In h m j p ∧ ¬ In h i j p) := by
  obtain ⟨dm, _, a1⟩ := s1.2.resolve_left m0
  obtain ⟨dj, _, a2⟩ := s2.2.resolve_left j0
  have b1 := abv_lohi s1.1 dm a1
  have b2 := abv_lohi dm dj a2
  simp only [in_iff]
  omega
theorem two_sb {h i m j : Nat} (s1 : Sb h i m) (s2 : Sb h m j) (m0 : m ≠ 0) (j0 : j ≠ 0) : Sb h i j := by
  obtain ⟨dm, n1, a1⟩ := s1.2.resolve_left m0
  obtain ⟨dj, n2, a2⟩ := s2.2.resolve_left j0
  refine ⟨s1.1, .inr ⟨dj, fun e => ?_, Abv.trans dj.2.2.1 a1 a2⟩⟩
  subst e
  exact n1 (a1.antisymm a2)
theorem two_tot {h i m j : Nat} (s1 : Sb h i m) (s2 : Sb h m j) (m0 : m ≠ 0) (j0 : j ≠ 0) : tot (spn h i m) + tot (spn h m j) = tot (spn h i j) := by
  have t1 := spn_tot s1
  have t2 := spn_tot s2
  have t3 := spn_tot (two_sb s1 s2 m0 j0)
  rw [if_neg m0] at t1
  rw [if_neg j0] at t2 t3
  omega
def Sch (s : Int) : Prop := 1 ≤ s ∧ s ≤ 3
instance (s : Int) : Decidable (Sch s) := inferInstanceAs (Decidable (_ ∧ _))
theorem sch_iff (s : Int) : Sch s ↔ 1 ≤ s ∧ s ≤ 3 := Iff.rfl
def May (h : Nat) (s : Int) (i j : Nat) : Prop := (s = 1 ∧ j = 0) ∨ (s = 2 ∧ (j ≠ 0 ∨ i = 1)) ∨ (s ≠ 1 ∧ s ≠ 2 ∧ Usf h i j)
instance (h : Nat) (s : Int) (i j : Nat) : Decidable (May h s i j) := inferInstanceAs (Decidable (_ ∨ _))
theorem may_iff (h : Nat) (s : Int) (i j : Nat) : May h s i j ↔ (s = 1 ∧ j = 0) ∨ (s = 2 ∧ (j ≠ 0 ∨ i = 1)) ∨ (s ≠ 1 ∧ s ≠ 2 ∧ Usf h i j) := Iff.rfl
def sib (n : Nat) : Nat := n ^^^ 1
theorem sib_eq (n : Nat) : sib n = if n % 2 = 0 then n + 1 else n - 1 := by
  unfold sib
  have h1 : (n ^^^ 1) / 2 = n / 2 := by rw [Nat.xor_div_two]; simp
  have h2 : (n ^^^ 1) % 2 = (n + 1) % 2 := by
    have h3 : (n ^^^ 1) % 2 ^ 1 = n % 2 ^ 1 ^^^ 1 % 2 ^ 1 := Nat.xor_mod_two_pow
    rw [Nat.pow_one] at h3
    rw [h3]
    rcases Nat.mod_two_eq_zero_or_one n with z | z
    · rw [z]; have : (0 ^^^ 1 % 2 : Nat) = 1 := by decide
      omega
    · rw [z]; have : (1 ^^^ 1 % 2 : Nat) = 0 := by decide
      omega
  split <;> omega
theorem sib_half (n : Nat) : sib n / 2 = n / 2 := by rw [sib_eq]; split <;> omega
theorem sib_pos {n : Nat} (h : 2 ≤ n) : 2 ≤ sib n := by rw [sib_eq]; split <;> omega
theorem sib_log2 {n : Nat} (h : 2 ≤ n) : (sib n).log2 = n.log2 := by
  have h1 := log2_half h
  have h2 := log2_half (sib_pos h)
  rw [sib_half] at h2; omega
theorem in_abv {h i j p : Nat} (s : Sb h i j) (hp : p < 2 ^ h) : In h i j p ↔ Abv i (2 ^ h + p) ∧ (j = 0 ∨ ¬ Abv j (2 ^ h + p)) := by
  rw [in_iff, abv_lo_hi s.1 hp]
  by_cases h0 : j = 0
  · simp [h0]
  · rw [abv_lo_hi (s.2.resolve_left h0).1 hp]
def Up (l : List Nat) : Prop := l.Pairwise (· < ·)
theorem Up.tail {a : Nat} {l : List Nat} (h : Up (a :: l)) : Up l := (List.pairwise_cons.1 h).2
theorem Up.lt {a : Nat} {l : List Nat} (h : Up (a :: l)) {x : Nat} (hx : x ∈ l) : a < x := (List.pairwise_cons.1 h).1 x hx
theorem Up.filter {l : List Nat} (h : Up l) (p : Nat → Bool) : Up (l.filter p) := List.Pairwise.filter p h
def inT (h : Nat) (l : List Nat) (n : Nat) : Bool := l.any fun i => decide (Abv n (2 ^ h + i))
theorem leaf_ne (h i : Nat) : 2 ^ h + i ≠ 0 := by have := pow_pos2 h; omega
theorem leaf_log {h i : Nat} (hi : i < 2 ^ h) : (2 ^ h + i).log2 = h := leaf_log2 (by omega) (by rw [Nat.pow_succ]; omega)
theorem log2_dbl {n : Nat} (hn : n ≠ 0) : (2 * n).log2 = n.log2 + 1 ∧ (2 * n + 1).log2 = n.log2 + 1 := by
  have a := log2_half (n := 2 * n) (by omega)
  have b := log2_half (n := 2 * n + 1) (by omega)
  rw [show 2 * n / 2 = n by omega] at a
  rw [show (2 * n + 1) / 2 = n by omega] at b
  omega
theorem abv_half {n : Nat} (hn : 2 ≤ n) : Abv (n / 2) n := abv_div (k := 1) (by omega) (by have := log2_half hn; omega) (by rw [Nat.pow_one])
theorem abv_dbl {n : Nat} (hn : n ≠ 0) : Abv n (2 * n) ∧ Abv n (2 * n + 1) := by
  have a := abv_half (n := 2 * n) (by omega)
  have b := abv_half (n := 2 * n + 1) (by omega)
  rw [show 2 * n / 2 = n by omega] at a
  rw [show (2 * n + 1) / 2 = n by omega] at b
  exact ⟨a, b⟩
theorem abv_child {n x : Nat} (hx : x ≠ 0) (hn : Abv n x) (hd : n.log2 < x.log2) : Abv (2 * n) x ∨ Abv (2 * n + 1) x := by
  have l1 := anc_log2 hx (show n.log2 + 1 ≤ x.log2 by omega)
  have n1 := anc_ne (d := n.log2 + 1) hx
  have a1 := abv_anc hx (show n.log2 + 1 ≤ x.log2 by omega)
  have e : anc x (n.log2 + 1) / 2 = n := by
    have two := pow_mono (show 1 ≤ (anc x (n.log2 + 1)).log2 by omega)
    have lo := log2_lo n1
    have hh := abv_half (n := anc x (n.log2 + 1)) (by omega)
    have ll := log2_half (n := anc x (n.log2 + 1)) (by omega)
    have := (hh.trans hx a1).total hx hn (by omega)
    exact this.eq_of_log2 (by omega)
  rcases Nat.mod_two_eq_zero_or_one (anc x (n.log2 + 1)) with z | z
  · left; rw [show 2 * n = anc x (n.log2 + 1) by omega]; exact a1
  · right; rw [show 2 * n + 1 = anc x (n.log2 + 1) by omega]; exact a1
def lvl (h : Nat) (l : List Nat) (d : Nat) : List Nat := (List.range' (2 ^ d) (2 ^ d)).filter (inT h l)
def Fit (h : Nat) (s : Int) (i j : Nat) : Prop := (s = 1 ∨ s = 2) ∧ Sb h i j ∧ May h s i j
instance (h : Nat) (s : Int) (i j : Nat) : Decidable (Fit h s i j) := inferInstanceAs (Decidable (_ ∧ _))
theorem fit_may {h : Nat} {s : Int} {i j : Nat} (f : Fit h s i j) : (s = 1 ∧ j = 0) ∨ (s = 2 ∧ (j ≠ 0 ∨ i = 1)) := by
  rcases f.2.2 with z | z | z
  · exact .inl z
  · exact .inr z
  · exact absurd f.1 (by omega)
theorem fit_1 {h : Nat} {i : Nat} (d : Nd h i) : Fit h 1 i 0 := ⟨.inl rfl, ⟨d, .inl rfl⟩, .inl ⟨rfl, rfl⟩⟩
theorem fit_2 {h : Nat} {i j : Nat} (s : Sb h i j) (j0 : j ≠ 0) : Fit h 2 i j := ⟨.inr rfl, s, .inr (.inl ⟨rfl, .inl j0⟩)⟩
def hva (s : Int) (i j : Nat) : Nat × Nat := if s = 1 then (2 * i, 0) else if j = 0 then (1, 2) else if anc j (i.log2 + 1) = j then (sib j, 2 * sib j) else (i, anc j (i.log2 + 1))
def hvb (s : Int) (i j : Nat) : Nat × Nat := if s = 1 then (2 * i + 1, 0) else if j = 0 then (1, 3) else if anc j (i.log2 + 1) = j then (sib j, 2 * sib j + 1) else (anc j (i.log2 + 1), j)
def msr (h : Nat) (s : Int) (q : Nat × Nat) : Nat := if s = 1 then h - q.1.log2 else if q.2 = 0 then 2 * h + 1 else 2 * (h - q.1.log2) - (if q.2.log2 = q.1.log2 + 1 then 1 else 0)
theorem msr_le (h : Nat) (s : Int) (q : Nat × Nat) : msr h s q ≤ 2 * h + 1 := by unfold msr; (repeat' split) <;> omega
theorem msr_1 (h i j : Nat) : msr h 1 (i, j) = h - i.log2 := by unfold msr; rw [if_pos rfl]
theorem msr_0 (h i : Nat) : msr h 2 (i, 0) = 2 * h + 1 := by unfold msr; rw [if_neg (by omega), if_pos rfl]
theorem msr_j (h i : Nat) {j : Nat} (j0 : j ≠ 0) : msr h 2 (i, j) = 2 * (h - i.log2) - (if j.log2 = i.log2 + 1 then 1 else 0) := by unfold msr; rw [if_neg (by omega), if_neg j0]
theorem kid_abv {h n p : Nat} (n0 : n ≠ 0) (lt : n.log2 < h) (hp : p < 2 ^ h) : (Abv n (2 ^ h + p) ↔ Abv (2 * n) (2 ^ h + p) ∨ Abv (2 * n + 1) (2 ^ h + p)) ∧ ¬ (Abv (2 * n) (2 ^ h + p) ∧ Abv (2 * n + 1) (2 ^ h + p)) := by
  have x0 := leaf_ne h p
  have lx := leaf_log hp
  obtain ⟨a, b⟩ := abv_dbl n0
  obtain ⟨la, lb⟩ := log2_dbl n0
  refine ⟨⟨fun z => abv_child x0 z (by omega), fun z => z.elim (fun z => a.trans x0 z) (fun z => b.trans x0 z)⟩, fun ⟨y, z⟩ => ?_⟩
  have := (y.total x0 z (by omega)).eq_of_log2 (by omega)
  omega
theorem nd_kid {h n : Nat} (d : Nd h n) (lt : n.log2 < h) : Nd h (2 * n) ∧ Nd h (2 * n + 1) := by
  have n0 := d.2.2.1
  obtain ⟨la, lb⟩ := log2_dbl n0
  exact ⟨⟨d.1, d.2.1, by omega, by omega⟩, ⟨d.1, d.2.1, by omega, by omega⟩⟩
theorem sb_kid {h n : Nat} (d : Nd h n) (lt : n.log2 < h) : Sb h n (2 * n) ∧ Sb h n (2 * n + 1) := by
  have n0 := d.2.2.1
  obtain ⟨a, b⟩ := abv_dbl n0
  obtain ⟨da, db⟩ := nd_kid d lt
  exact ⟨⟨d, .inr ⟨da, by omega, a⟩⟩, ⟨d, .inr ⟨db, by omega, b⟩⟩⟩
theorem wd_kid {h n : Nat} (d : Nd h n) (lt : n.log2 < h) : wd h (2 * n) + wd h (2 * n + 1) = wd h n ∧ wd h (2 * n) = wd h (2 * n + 1) := by
  obtain ⟨la, lb⟩ := log2_dbl d.2.2.1
  unfold wd
  rw [la, lb, show h - n.log2 = (h - (n.log2 + 1)) + 1 by omega, Nat.pow_succ]
  omega
theorem tot_0 {h n : Nat} (d : Nd h n) : tot (spn h n 0) = wd h n := by have := spn_tot (h := h) (i := n) (j := 0) ⟨d, .inl rfl⟩; rw [if_pos rfl] at this; omega
theorem tot_j {h i j : Nat} (s : Sb h i j) (j0 : j ≠ 0) : tot (spn h i j) + wd h j = wd h i := by have := spn_tot s; rw [if_neg j0] at this; exact this
theorem wd_one {h n : Nat} (t : wd h n ≠ 1) : n.log2 < h := by
  rcases Nat.lt_or_ge n.log2 h with z | z
  · exact z
  · exact absurd (by unfold wd; rw [show h - n.log2 = 0 by omega]; try rfl) t
theorem in_0 {h n p : Nat} (d : Nd h n) (hp : p < 2 ^ h) : In h n 0 p ↔ Abv n (2 ^ h + p) := by rw [in_abv ⟨d, .inl rfl⟩ hp]; simp
theorem in_j {h i j p : Nat} (s : Sb h i j) (j0 : j ≠ 0) (hp : p < 2 ^ h) : In h i j p ↔ Abv i (2 ^ h + p) ∧ ¬ Abv j (2 ^ h + p) := by rw [in_abv s hp]; simp [j0]
def Hlv (h : Nat) (q a b : Nat × Nat) : Prop := (∀ p, p < 2 ^ h → (In h q.1 q.2 p ↔ In h a.1 a.2 p ∨ In h b.1 b.2 p) ∧ ¬ (In h a.1 a.2 p ∧ In h b.1 b.2 p)) ∧ tot (spn h a.1 a.2) + tot (spn h b.1 b.2) = tot (spn h q.1 q.2)
theorem hlv_kids {h n : Nat} (d : Nd h n) (lt : n.log2 < h) {q : Nat × Nat} (hq : ∀ p, p < 2 ^ h → (In h q.1 q.2 p ↔ Abv n (2 ^ h + p))) (ht : tot (spn h q.1 q.2) = wd h n) : Hlv h q (n, 2 * n) (n, 2 * n + 1) := by
  obtain ⟨sa, sb⟩ := sb_kid d lt
  have n0 := d.2.2.1
  have w := wd_kid d lt
  have ta := tot_j sa (by omega)
  have tb := tot_j sb (by omega)
  refine ⟨fun p hp => ?_, by show tot (spn h n (2 * n)) + tot (spn h n (2 * n + 1)) = _; rw [ht]; omega⟩
  have k := kid_abv n0 lt hp
  show (In h q.1 q.2 p ↔ In h n (2 * n) p ∨ In h n (2 * n + 1) p) ∧ ¬ (In h n (2 * n) p ∧ In h n (2 * n + 1) p)
  rw [hq p hp, in_j sa (by omega) hp, in_j sb (by omega) hp]
  generalize Abv n (2 ^ h + p) = A at *
  generalize Abv (2 * n) (2 ^ h + p) = B at *
  generalize Abv (2 * n + 1) (2 ^ h + p) = C at *
  obtain ⟨k1, k2⟩ := k
  by_cases b : B
  · by_cases c : C
    · exact absurd ⟨b, c⟩ k2
    · have a : A := k1.2 (.inl b)
      simp [a, b, c]
  · by_cases c : C
    · have a : A := k1.2 (.inr c)
      simp [a, b, c]
    · have a : ¬ A := fun z => (k1.1 z).elim b c
      simp [a, b, c]
theorem hv {h : Nat} {s : Int} {i j : Nat} (f : Fit h s i j) (t : tot (spn h i j) ≠ 1) : Fit h s (hva s i j).1 (hva s i j).2 ∧ Fit h s (hvb s i j).1 (hvb s i j).2 ∧ Hlv h (i, j) (hva s i j) (hvb s i j) ∧ msr h s (hva s i j) < msr h s (i, j) ∧ msr h s (hvb s i j) < msr h s (i, j) := by
  have sb := f.2.1
  have di := sb.1
  have i0 := di.2.2.1
  rcases fit_may f with ⟨rfl, rfl⟩ | ⟨rfl, fj⟩
  · have lt := wd_one (h := h) (n := i) (by rw [← tot_0 di]; exact t)
    obtain ⟨da, db⟩ := nd_kid di lt
    obtain ⟨la, lb⟩ := log2_dbl i0
    have w := wd_kid di lt
    have ea : hva 1 i 0 = (2 * i, 0) := rfl
    have eb : hvb 1 i 0 = (2 * i + 1, 0) := rfl
    rw [ea, eb]
    refine ⟨fit_1 da, fit_1 db, ⟨fun p hp => ?_, ?_⟩, ?_, ?_⟩
    · show (In h i 0 p ↔ In h (2 * i) 0 p ∨ In h (2 * i + 1) 0 p) ∧ ¬ (In h (2 * i) 0 p ∧ In h (2 * i + 1) 0 p)
      rw [in_0 di hp, in_0 da hp, in_0 db hp]
      exact kid_abv i0 lt hp
    · show tot (spn h (2 * i) 0) + tot (spn h (2 * i + 1) 0) = tot (spn h i 0)
      rw [tot_0 di, tot_0 da, tot_0 db]; exact w.1
    · rw [msr_1, msr_1]; omega
    · rw [msr_1, msr_1]; omega
  · by_cases j0 : j = 0
    · subst j0
      have i1 : i = 1 := fj.resolve_left (by omega)
      subst i1
      have lt : (1 : Nat).log2 < h := by rw [log2_one]; exact di.1
      obtain ⟨sa, sb'⟩ := sb_kid di lt
      obtain ⟨la, lb⟩ := log2_dbl i0
      have ea : hva 2 1 0 = (1, 2 * 1) := rfl
      have eb : hvb 2 1 0 = (1, 2 * 1 + 1) := rfl
      rw [ea, eb]
      refine ⟨fit_2 sa (by omega), fit_2 sb' (by omega), hlv_kids di lt (fun p hp => in_0 di hp) (tot_0 di), ?_, ?_⟩
      · rw [msr_0, msr_j _ _ (by omega)]; omega
      · rw [msr_0, msr_j _ _ (by omega)]; omega
    · obtain ⟨dj, ne, ab⟩ := sb.2.resolve_left j0
      have lij : i.log2 < j.log2 := by
        rcases Nat.lt_or_ge i.log2 j.log2 with z | z
        · exact z
        · exact absurd (ab.eq_of_log2 (by have := ab.1; omega)) ne
      have lc := anc_log2 dj.2.2.1 (show i.log2 + 1 ≤ j.log2 by omega)
      by_cases c : anc j (i.log2 + 1) = j
      · have lj : j.log2 = i.log2 + 1 := by rw [c] at lc; exact lc
        have ltj : j.log2 < h := by
          have tj := tot_j sb j0
          refine wd_one (fun z => t ?_)
          have : wd h i = 2 * wd h j := by
            unfold wd; rw [lj, show h - i.log2 = (h - (i.log2 + 1)) + 1 by have := dj.2.2.2; omega, Nat.pow_succ]; omega
          omega
        have j2 : 2 ≤ j := by
          have := log2_lo dj.2.2.1
          have := pow_mono (show 1 ≤ j.log2 by omega)
          omega
        have jh : j / 2 = i := by
          have l2 := log2_half j2
          have := (abv_half j2).total dj.2.2.1 ab (by omega)
          exact this.eq_of_log2 (by omega)
        have lo := sib_log2 j2
        have s2 := sib_pos j2
        have ds : Nd h (sib j) := ⟨dj.1, dj.2.1, by omega, by have := dj.2.2.2; omega⟩
        have lt : (sib j).log2 < h := by omega
        obtain ⟨sa, sb'⟩ := sb_kid ds lt
        obtain ⟨la, lb⟩ := log2_dbl ds.2.2.1
        have ea : hva 2 i j = (sib j, 2 * sib j) := by unfold hva; rw [if_neg (by omega), if_neg j0, if_pos c]
        have eb : hvb 2 i j = (sib j, 2 * sib j + 1) := by unfold hvb; rw [if_neg (by omega), if_neg j0, if_pos c]
        have tj := tot_j sb j0
        rw [ea, eb]
        have wsj : wd h (sib j) = wd h j := by unfold wd; rw [lo]
        have wi : wd h i = 2 * wd h j := by
          unfold wd; rw [lj, show h - i.log2 = (h - (i.log2 + 1)) + 1 by have := dj.2.2.2; omega, Nat.pow_succ]; omega
        refine ⟨fit_2 sa (by omega), fit_2 sb' (by omega), hlv_kids ds lt (fun p hp => ?_) ?_, ?_, ?_⟩
        · rw [in_j sb j0 hp]
          have k := kid_abv i0 (show i.log2 < h by omega) hp
          have cs : (j = 2 * i ∧ sib j = 2 * i + 1) ∨ (j = 2 * i + 1 ∧ sib j = 2 * i) := by
            rw [sib_eq]
            rcases Nat.mod_two_eq_zero_or_one j with z | z
            · left; rw [if_pos z]; omega
            · right; rw [if_neg (by omega)]; omega
          rcases cs with ⟨e1, e2⟩ | ⟨e1, e2⟩
          · rw [e2, e1]
            exact ⟨fun z => (k.1.1 z.1).resolve_left z.2, fun z => ⟨k.1.2 (.inr z), fun y => k.2 ⟨y, z⟩⟩⟩
          · rw [e2, e1]
            exact ⟨fun z => (k.1.1 z.1).resolve_right z.2, fun z => ⟨k.1.2 (.inl z), fun y => k.2 ⟨z, y⟩⟩⟩
        · show tot (spn h i j) = _
          omega
        · rw [msr_j _ _ j0, msr_j _ _ (by omega), if_pos lj, if_pos la]; omega
        · rw [msr_j _ _ j0, msr_j _ _ (by omega), if_pos lj, if_pos lb]; omega
      · have c0 := anc_ne (d := i.log2 + 1) dj.2.2.1
        have ac := abv_anc dj.2.2.1 (show i.log2 + 1 ≤ j.log2 by omega)
        have ai : Abv i (anc j (i.log2 + 1)) := ab.total dj.2.2.1 ac (by omega)
        have dc : Nd h (anc j (i.log2 + 1)) := ⟨di.1, di.2.1, c0, by have := dj.2.2.2; omega⟩
        have lne : j.log2 ≠ i.log2 + 1 := fun z => c (by rw [← z, anc_self])
        have s1 : Sb h i (anc j (i.log2 + 1)) := ⟨di, .inr ⟨dc, fun e => by rw [← e] at lc; omega, ai⟩⟩
        have s2 : Sb h (anc j (i.log2 + 1)) j := ⟨dc, .inr ⟨dj, c, ac⟩⟩
        have ea : hva 2 i j = (i, anc j (i.log2 + 1)) := by unfold hva; rw [if_neg (by omega), if_neg j0, if_neg c]
        have eb : hvb 2 i j = (anc j (i.log2 + 1), j) := by unfold hvb; rw [if_neg (by omega), if_neg j0, if_neg c]
        rw [ea, eb]
        refine ⟨fit_2 s1 c0, fit_2 s2 j0, ⟨fun p hp => ?_, two_tot s1 s2 c0 j0⟩, ?_, ?_⟩
        · show (In h i j p ↔ In h i (anc j (i.log2 + 1)) p ∨ In h (anc j (i.log2 + 1)) j p) ∧ ¬ (In h i (anc j (i.log2 + 1)) p ∧ In h (anc j (i.log2 + 1)) j p)
          rcases two_in s1 s2 c0 j0 p with ⟨a, b, d⟩ | ⟨a, b, d⟩ | ⟨a, b, d⟩ <;> simp [a, b, d]
        · have := dj.2.2.2
          rw [msr_j _ _ c0, msr_j _ _ j0, if_pos lc, if_neg lne]; omega
        · have := dj.2.2.2
          rw [msr_j _ _ j0, msr_j _ _ j0, if_neg lne]; split <;> omega
def lof (h i j : Nat) : Nat := ((spn h i j).headD (0, 0)).1
theorem spn_one {h i j : Nat} (s : Sb h i j) : ((spn h i j).length = 1 ∧ ((spn h i j).headD (0, 0)).1 = ((spn h i j).headD (0, 0)).2) ↔ tot (spn h i j) = 1 := by
  have hr := spn_rise s
  match h' : spn h i j, hr with
  | [], hr => simp [tot]
  | [x], hr =>
    have := hr.1
    simp [tot]
    have := Rise.at hr (i := 0) (by simp)
    simp at this
    omega
  | x :: y :: l, hr =>
    simp [tot]
    have a := Rise.at hr (i := 0) (by simp)
    have b := Rise.at hr (i := 1) (by simp)
    simp at a b
    omega
theorem lof_in {h i j : Nat} (s : Sb h i j) : In h i j (lof h i j) := by
  rw [← mem_spn s]
  have hr := spn_rise s
  have ne : spn h i j ≠ [] := fun z => by
    have t := spn_tot s
    rw [z] at t
    by_cases j0 : j = 0
    · rw [if_pos j0] at t; have := wd_pos h i; simp [tot] at t; omega
    · rw [if_neg j0] at t; have := wd_lt s j0; simp [tot] at t; omega
  unfold lof
  match h' : spn h i j, ne with
  | x :: l, _ =>
    rw [h'] at hr
    have a := Rise.at hr (i := 0) (by simp)
    simp at a
    exact ⟨x, by simp, by simp, by simp; omega⟩
def ints (l : List Nat) : List Int := l.map Int.ofNat
theorem ints_len (l : List Nat) : (ints l).length = l.length := by simp [ints]
theorem ints_rd {l : List Nat} {i : Nat} (h : i < l.length) : rd (ints l) (i : Int) = ((l[i] : Nat) : Int) := by
  unfold rd ints
  simp [List.getD_eq_getElem?_getD, h]
set_option maxRecDepth 100000 in
theorem len8_all : ∀ i : Fin 256, bt (⟨#[0, 1, 2, 2, 3, 3, 3, 3, 4, 4, 4, 4, 4, 4, 4, 4, 5, 5, 5, 5, 5, 5, 5, 5, 5, 5, 5, 5, 5, 5, 5, 5, 6, 6, 6, 6, 6, 6, 6, 6, 6, 6, 6, 6, 6, 6, 6, 6, 6, 6, 6, 6, 6, 6, 6, 6, 6, 6, 6, 6, 6, 6, 6, 6, 7, 7, 7, 7, 7, 7, 7, 7, 7, 7, 7, 7, 7, 7, 7, 7, 7, 7, 7, 7, 7, 7, 7, 7, 7, 7, 7, 7, 7, 7, 7, 7, 7, 7, 7, 7, 7, 7, 7, 7, 7, 7, 7, 7, 7, 7, 7, 7, 7, 7, 7, 7, 7, 7, 7, 7, 7, 7, 7, 7, 7, 7, 7, 7, 8, 8, 8, 8, 8, 8, 8, 8, 8, 8, 8, 8, 8, 8, 8, 8, 8, 8, 8, 8, 8, 8, 8, 8, 8, 8, 8, 8, 8, 8, 8, 8, 8, 8, 8, 8, 8, 8, 8, 8, 8, 8, 8, 8, 8, 8, 8, 8, 8, 8, 8, 8, 8, 8, 8, 8, 8, 8, 8, 8, 8, 8, 8, 8, 8, 8, 8, 8, 8, 8, 8, 8, 8, 8, 8, 8, 8, 8, 8, 8, 8, 8, 8, 8, 8, 8, 8, 8, 8, 8, 8, 8, 8, 8, 8, 8, 8, 8, 8, 8, 8, 8, 8, 8, 8, 8, 8, 8, 8, 8, 8, 8, 8, 8, 8, 8, 8, 8, 8, 8, 8, 8, 8, 8, 8, 8, 8, 8]⟩ : ByteArray) (i.val : Int) = (sz i.val : Int) := by decide +kernel
set_option maxRecDepth 100000 in
theorem len8 {i : Nat} (h : i < 256) : bt (⟨#[0, 1, 2, 2, 3, 3, 3, 3, 4, 4, 4, 4, 4, 4, 4, 4, 5, 5, 5, 5, 5, 5, 5, 5, 5, 5, 5, 5, 5, 5, 5, 5, 6, 6, 6, 6, 6, 6, 6, 6, 6, 6, 6, 6, 6, 6, 6, 6, 6, 6, 6, 6, 6, 6, 6, 6, 6, 6, 6, 6, 6, 6, 6, 6, 7, 7, 7, 7, 7, 7, 7, 7, 7, 7, 7, 7, 7, 7, 7, 7, 7, 7, 7, 7, 7, 7, 7, 7, 7, 7, 7, 7, 7, 7, 7, 7, 7, 7, 7, 7, 7, 7, 7, 7, 7, 7, 7, 7, 7, 7, 7, 7, 7, 7, 7, 7, 7, 7, 7, 7, 7, 7, 7, 7, 7, 7, 7, 7, 8, 8, 8, 8, 8, 8, 8, 8, 8, 8, 8, 8, 8, 8, 8, 8, 8, 8, 8, 8, 8, 8, 8, 8, 8, 8, 8, 8, 8, 8, 8, 8, 8, 8, 8, 8, 8, 8, 8, 8, 8, 8, 8, 8, 8, 8, 8, 8, 8, 8, 8, 8, 8, 8, 8, 8, 8, 8, 8, 8, 8, 8, 8, 8, 8, 8, 8, 8, 8, 8, 8, 8, 8, 8, 8, 8, 8, 8, 8, 8, 8, 8, 8, 8, 8, 8, 8, 8, 8, 8, 8, 8, 8, 8, 8, 8, 8, 8, 8, 8, 8, 8, 8, 8, 8, 8, 8, 8, 8, 8, 8, 8, 8, 8, 8, 8, 8, 8, 8, 8, 8, 8, 8, 8, 8, 8, 8, 8]⟩ : ByteArray) (i : Int) = (sz i : Int) := len8_all ⟨i, h⟩
set_option maxRecDepth 100000 in
theorem len64_j (k n c : Nat) (hn : n < 4294967296) (hc : c ≤ 32) : bits_Len64.j0 (k + 1) (n : Int) (c : Int) = some ((c + sz n : Nat) : Int) := by
  have h32 : sz n ≤ 32 := sz_le hn
  simp only [bits_Len64.j0]
  by_cases h1 : 65536 ≤ n
  · have e1 := sz_div (n := n) (k := 16) h1
    rw [if_pos (by omega)]
    by_cases h2 : 256 ≤ n / 65536
    · have e2 := sz_div (n := n / 65536) (k := 8) h2
      have i1 : n / 65536 / 256 < 256 := by omega
      have e3 : ((n : Int) / 65536 / 256) % 256 = ((n / 65536 / 256 : Nat) : Int) := by omega
      rw [if_pos (by omega), e3, if_pos (by omega), if_pos (by omega), len8 i1]
      have e1' : sz n = sz (n / 65536) + 16 := e1
      have e2' : sz (n / 65536) = sz (n / 65536 / 256) + 8 := e2
      rw [w64 (x := (c : Int) + 16) (by omega) (by omega), w64 (x := (c : Int) + 16 + 8) (by omega) (by omega), w64 (x := (sz (n / 65536 / 256) : Int)) (by omega) (by omega), w64 (by omega) (by omega)]
      congr 1; omega
    · have i1 : n / 65536 < 256 := by omega
      have e3 : ((n : Int) / 65536) % 256 = ((n / 65536 : Nat) : Int) := by omega
      have e1' : sz n = sz (n / 65536) + 16 := e1
      rw [if_neg (by omega), e3, if_pos (by omega), if_pos (by omega), len8 i1]
      rw [w64 (x := (c : Int) + 16) (by omega) (by omega), w64 (x := (sz (n / 65536) : Int)) (by omega) (by omega), w64 (by omega) (by omega)]
      congr 1; omega
  · rw [if_neg (by omega)]
    by_cases h2 : 256 ≤ n
    · have e2 : sz n = sz (n / 256) + 8 := sz_div (n := n) (k := 8) h2
      have i1 : n / 256 < 256 := by omega
      have e3 : ((n : Int) / 256) % 256 = ((n / 256 : Nat) : Int) := by omega
      rw [if_pos (by omega), e3, if_pos (by omega), if_pos (by omega), len8 i1]
      rw [w64 (x := (c : Int) + 8) (by omega) (by omega), w64 (x := (sz (n / 256) : Int)) (by omega) (by omega), w64 (by omega) (by omega)]
      congr 1; omega
    · have e3 : (n : Int) % 256 = (n : Int) := by omega
      rw [if_neg (by omega), e3, if_pos (by omega), if_pos (by omega), len8 (by omega)]
      rw [w64 (x := (sz n : Int)) (by omega) (by omega), w64 (by omega) (by omega)]
      congr 1
theorem len64 {n : Nat} (hn : n < 18446744073709551616) (k : Nat) : bits_Len64.f (k + 1) (n : Int) = some (sz n : Int) := by
  unfold bits_Len64.f
  by_cases h : 4294967296 ≤ n
  · have e : sz n = sz (n / 4294967296) + 32 := sz_div (n := n) (k := 32) h
    have := len64_j k (n / 4294967296) 32 (by omega) (by omega)
    rw [if_pos (by omega), show (n : Int) / 4294967296 = ((n / 4294967296 : Nat) : Int) by omega, show (32 : Int) = ((32 : Nat) : Int) by rfl, this]
    congr 2; omega
  · have := len64_j k n 0 (by omega) (by omega)
    rw [if_neg (by omega), show (0 : Int) = ((0 : Nat) : Int) by rfl, this]
    simp
theorem depth_eq {n : Nat} (h0 : n ≠ 0) (hn : n < 18446744073709551616) (k : Nat) : node_depth.f (k + 1) (n : Int) = some (n.log2 : Int) := by
  have := sz_le (k := 64) hn
  unfold node_depth.f
  rw [len64 hn]; simp only [Option.bind_some]
  rw [w64 (by omega) (by omega)]
  unfold sz; rw [if_neg h0]; congr 1; omega
theorem high_eq (h : Int) : node_high.f h = some (decide (Hi h)) := by
  unfold node_high.f
  by_cases h1 : h ≥ 1
  · rw [if_pos h1]; congr 1; rw [decide_eq_decide, hi_iff]; omega
  · rw [if_neg h1]; congr 1; symm; rw [decide_eq_false_iff_not, hi_iff]; omega
theorem check_eq (h : Int) {n : Nat} (hn : n < 18446744073709551616) (k : Nat) : node_Check.f (k + 1) h (n : Int) = some (if Nd h.toNat n then 0 else 1) := by
  unfold node_Check.f
  rw [high_eq]; simp only [Option.bind_some]
  by_cases h1 : Hi h
  · rw [decide_eq_true h1, if_pos rfl]
    rw [hi_iff] at h1
    by_cases h2 : n = 0
    · rw [if_pos (by omega), if_neg (by rw [nd_iff]; omega)]
    · rw [if_neg (by omega), depth_eq h2 hn]; simp only [Option.bind_some]
      by_cases h3 : (n.log2 : Int) > h
      · rw [if_pos h3, if_neg (by rw [nd_iff]; omega)]
      · rw [if_neg h3, if_pos (by rw [nd_iff]; omega)]
  · rw [decide_eq_false h1, if_neg (by simp), if_neg (by rw [nd_iff]; rw [hi_iff] at h1; omega)]
theorem both_eq (h : Int) {a b : Nat} (ha : a < 18446744073709551616) (hb : b < 18446744073709551616) (k : Nat) :
    node_both.f (k + 1) h (a : Int) (b : Int) = some (if Nd h.toNat a ∧ Nd h.toNat b then 0 else 1) := by
  unfold node_both.f
  rw [check_eq h ha, check_eq h hb]; simp only [Option.bind_some]
  by_cases h1 : Nd h.toNat a <;> by_cases h2 : Nd h.toNat b <;> simp [h1, h2]
theorem shr_eq (n : Nat) {k : Nat} (hk : k ≤ 64) : shr .u64 (n : Int) (k : Int) = ((n / 2 ^ k : Nat) : Int) := by
  unfold shr
  have : min ((k : Int)).toNat (IntKind.bits .u64) = k := by
    show min ((k : Int)).toNat 64 = k
    omega
  rw [this]; push_cast; rfl
theorem above_eq {a b : Nat} (ha0 : a ≠ 0) (hb0 : b ≠ 0) (ha : a < 18446744073709551616) (hb : b < 18446744073709551616) (k : Nat) :
    node_above.f (k + 1) (a : Int) (b : Int) = some (decide (Abv a b)) := by
  have h1 := log2_64 ha
  have h2 := log2_64 hb
  unfold node_above.f
  rw [depth_eq ha0 ha, depth_eq hb0 hb]; simp only [Option.bind_some]
  unfold Abv anc
  by_cases h : a.log2 ≤ b.log2
  · rw [if_pos (by omega), w64 (by omega) (by omega), if_pos (by omega), show ((b.log2 : Int) - a.log2) = ((b.log2 - a.log2 : Nat) : Int) by omega, shr_eq _ (by omega)]
    congr 1
    simp only [h, true_and]
    by_cases e : b / 2 ^ (b.log2 - a.log2) = a
    · rw [decide_eq_true e, e]; simp
    · rw [decide_eq_false e, beq_eq_false_iff_ne]; omega
  · rw [if_neg (by omega)]; congr 1; simp [h]
theorem Above_eq (h : Int) {a b : Nat} (ha : a < 18446744073709551616) (hb : b < 18446744073709551616) (k : Nat) :
    node_Above.f (k + 1) h (a : Int) (b : Int) = some (if Nd h.toNat a ∧ Nd h.toNat b then (decide (Abv a b), 0) else (false, 1)) := by
  unfold node_Above.f
  rw [both_eq h ha hb]; simp only [Option.bind_some]
  by_cases h1 : Nd h.toNat a ∧ Nd h.toNat b
  · rw [if_pos h1, if_pos rfl, above_eq h1.1.2.2.1 h1.2.2.2.1 ha hb, if_pos h1]; rfl
  · rw [if_neg h1, if_neg (by omega), if_neg h1]
theorem Depth_eq (h : Int) {n : Nat} (hn : n < 18446744073709551616) (k : Nat) : node_Depth.f (k + 1) h (n : Int) = some (if Nd h.toNat n then ((n.log2 : Int), 0) else (0, 1)) := by
  unfold node_Depth.f
  rw [check_eq h hn]; simp only [Option.bind_some]
  by_cases h1 : Nd h.toNat n
  · rw [if_pos h1, if_pos rfl, depth_eq h1.2.2.1 hn, if_pos h1]; rfl
  · rw [if_neg h1, if_neg (by omega), if_neg h1]
theorem Up_eq (h : Int) {n : Nat} (hn : n < 18446744073709551616) (d : Int) (k : Nat) :
    node_Up.f (k + 1) h (n : Int) d = some (if Nd h.toNat n then (if 0 ≤ d ∧ d ≤ n.log2 then ((anc n d.toNat : Int), 0) else (0, 4)) else (0, 1)) := by
  have h2 := log2_64 hn
  unfold node_Up.f
  rw [check_eq h hn]; simp only [Option.bind_some]
  by_cases h1 : Nd h.toNat n
  · rw [if_pos h1, if_pos rfl, if_pos h1]
    by_cases h3 : d < 0
    · rw [if_pos h3, if_neg (by omega)]
    · rw [if_neg h3, depth_eq h1.2.2.1 hn]; simp only [Option.bind_some]
      by_cases h4 : d > n.log2
      · rw [if_pos h4, if_neg (by omega)]
      · rw [if_neg h4, w64 (by omega) (by omega), if_pos (by omega), if_pos (by omega), show ((n.log2 : Int) - d) = ((n.log2 - d.toNat : Nat) : Int) by omega, shr_eq _ (by omega)]
        rfl
  · rw [if_neg h1, if_neg (by omega), if_neg h1]
theorem sCheck_eq (h : Int) {i j : Nat} (hi : i < 18446744073709551616) (hj : j < 18446744073709551616) (k : Nat) :
    sub_Check.f (k + 1) h (i : Int) (j : Int) = some (if Sb h.toNat i j then 0 else 1) := by
  unfold sub_Check.f
  by_cases h0 : j = 0
  · subst h0
    rw [if_pos (by rfl), check_eq h hi]; simp only [Option.bind_some]
    by_cases h1 : Nd h.toNat i
    · rw [if_pos h1, if_pos ⟨h1, .inl rfl⟩]
    · rw [if_neg h1, if_neg (fun z => h1 z.1)]
  · rw [if_neg (by omega), Above_eq h hi hj]; simp only [Option.bind_some]
    by_cases h1 : Nd h.toNat i ∧ Nd h.toNat j
    · rw [if_pos h1]; simp only [if_true]
      by_cases h2 : Abv i j
      · rw [decide_eq_true h2, if_pos rfl]
        by_cases h3 : i = j
        · rw [if_pos (by omega), if_neg (by rintro ⟨_, z | ⟨_, z, _⟩⟩ <;> omega)]
        · rw [if_neg (by omega), if_pos ⟨h1.1, .inr ⟨h1.2, h3, h2⟩⟩]
      · rw [decide_eq_false h2, if_neg (by simp), if_neg (fun z => z.2.elim (fun y => h0 y) (fun y => h2 y.2.2))]
    · rw [if_neg h1, if_neg (by simp), if_neg (fun z => z.2.elim (fun y => h0 y) (fun y => h1 ⟨z.1, y.1⟩))]
theorem checkRoot_eq (h : Int) (k : Nat) : node_Check.f (k + 1) h 1 = some (if Hi h then 0 else 1) := by
  have := check_eq h root_lt k
  rw [show ((1 : Nat) : Int) = 1 by rfl] at this
  rw [this]
  by_cases h1 : Hi h
  · rw [if_pos h1, if_pos ((nd_root' h).2 h1)]
  · rw [if_neg h1, if_neg (fun z => h1 ((nd_root' h).1 z))]
theorem stepL_eq : ∀ h : Fin 33, 1 ≤ h.val → sub_Step.l0 8 (h.val : Int) 1 = some ((stp h.val : Int), 0) := by decide +kernel
theorem Step_eq (h : Int) {k : Nat} (hk : 10 ≤ k) : sub_Step.f k h = some (if Hi h then ((stp h.toNat : Int), 0) else (0, 1)) := by
  obtain ⟨k, rfl⟩ : ∃ m, k = m + 1 := ⟨k - 1, by omega⟩
  unfold sub_Step.f
  rw [checkRoot_eq]; simp only [Option.bind_some]
  by_cases h1 : Hi h
  · rw [if_pos h1, if_pos rfl, if_pos h1]
    rw [hi_iff] at h1
    have := stepL_eq ⟨h.toNat, by omega⟩ (by show 1 ≤ h.toNat; omega)
    have e : ((h.toNat : Nat) : Int) = h := by omega
    simp only [e] at this
    exact at_rounds (g := fun k => sub_Step.l0 k h 1) (fun k => (sub_Step.mono_l k) _ _) (show 8 ≤ k + 1 by omega) this
  · rw [if_neg h1, if_neg (by omega), if_neg h1]
theorem mn_cast (a b : Nat) : mn (a : Int) (b : Int) = ((min a b : Nat) : Int) := by unfold mn; split <;> omega
theorem nxt_cast (h i : Nat) (hi : i ≤ 32) (hh : h ≤ 32) : mn (wrap64 (wrap64 (wrap64 (Int.tdiv (i : Int) (stp h : Int)) + 1) * (stp h : Int))) (h : Int) = (nxt h i : Int) := by
  obtain ⟨s0, s1⟩ := stp_pos h
  have hd : i / stp h ≤ 32 := Nat.le_trans (Nat.div_le_self _ _) hi
  have hm : (i / stp h + 1) * stp h ≤ 33 * 6 := Nat.mul_le_mul (by omega) s1
  rw [Int.tdiv_eq_ediv_of_nonneg (by omega), ← Int.natCast_ediv]
  unfold nxt
  generalize i / stp h = r at hd hm
  rw [w64 (x := (r : Int)) (by omega) (by omega), show (r : Int) + 1 = ((r + 1 : Nat) : Int) by omega, w64 (x := ((r + 1 : Nat) : Int)) (by omega) (by omega), ← Int.natCast_mul]
  generalize (r + 1) * stp h = q at hm
  rw [w64 (by omega) (by omega), mn_cast]
theorem depths_eq {h i j : Nat} (hs : Sb h i j) (hj : j < 18446744073709551616) {k : Nat} (hk : 10 ≤ k) :
    sub_depths.f k (h : Int) (i : Int) (j : Int) = some ((i.log2 : Int), (if j = 0 then 0 else (j.log2 : Int)), (nxt h i.log2 : Int), decide (Spc h i.log2), 0) := by
  obtain ⟨hi, hj'⟩ := hs
  have hl := hi.2.2.2
  have h32 := hi.2.1
  obtain ⟨s0, s1⟩ := stp_pos h
  have hilt := hi.lt33
  have hH : Hi (h : Int) := by rw [hi_iff]; have := hi.1; omega
  have hsp : ∀ (b : Bool), b = decide ((i.log2 : Int) = h) → (if ((i.log2 % stp h : Nat) : Int) = 0 then true else b) = decide (Spc h i.log2) := by
    intro b hb
    by_cases c : i.log2 % stp h = 0
    · rw [if_pos (by omega)]; symm; rw [decide_eq_true_iff]; exact .inl c
    · rw [if_neg (by omega), hb, decide_eq_decide, spc_iff]; omega
  have hbe : (((i.log2 : Int)) == (h : Int)) = decide ((i.log2 : Int) = h) := by
    by_cases c : (i.log2 : Int) = h
    · rw [decide_eq_true c]; simp [c]
    · rw [decide_eq_false c]; simp [c]
  obtain ⟨k, rfl⟩ : ∃ m, k = m + 1 := ⟨k - 1, by omega⟩
  unfold sub_depths.f
  rw [Step_eq _ (by omega), if_pos hH]; simp only [Option.bind_some, Int.toNat_natCast]
  rw [if_pos trivial, Depth_eq _ (by omega), Int.toNat_natCast, if_pos hi]; simp only [Option.bind_some]
  rw [if_pos trivial]
  by_cases h0 : j = 0
  · subst h0
    rw [if_pos (by rfl), if_neg (by omega), nxt_cast h i.log2 (by omega) h32, tmod_cast]
    simp only [if_true]
    rw [← hsp _ hbe]
    split <;> simp
  · obtain ⟨hj1, _, _⟩ := hj'.resolve_left h0
    rw [if_neg (by omega), Depth_eq _ hj, Int.toNat_natCast, if_pos hj1]; simp only [Option.bind_some]
    rw [if_neg (by omega), nxt_cast h i.log2 (by omega) h32, tmod_cast, if_neg h0]
    rw [← hsp _ hbe]
    split <;> simp
theorem Useful_eq (h : Int) {i j : Nat} (hi : i < 18446744073709551616) (hj : j < 18446744073709551616) {k : Nat} (hk : 10 ≤ k) :
    sub_Useful.f k h (i : Int) (j : Int) = some (if Sb h.toNat i j then (decide (Usf h.toNat i j), 0) else (false, 1)) := by
  obtain ⟨k, rfl⟩ : ∃ m, k = m + 1 := ⟨k - 1, by omega⟩
  unfold sub_Useful.f
  rw [sCheck_eq h hi hj]; simp only [Option.bind_some]
  by_cases h1 : Sb h.toNat i j
  · have e := sb_h h1
    rw [if_pos h1, if_pos rfl, if_pos h1]
    by_cases h0 : j = 0
    · subst h0
      rw [if_pos (by rfl)]; congr 2
      by_cases c : i = 1
      · rw [decide_eq_true ((usf_0 _ _).2 c), c]; rfl
      · rw [decide_eq_false (fun z => c ((usf_0 _ _).1 z)), beq_eq_false_iff_ne]; omega
    · have := depths_eq h1 hj (k := k + 1) (by omega)
      rw [e] at this
      rw [if_neg (by omega), this]; simp only [Option.bind_some, if_true]
      rw [if_neg h0]
      have hu := usf_j h.toNat i h0
      by_cases c : Spc h.toNat i.log2
      · rw [decide_eq_true c, if_pos rfl, decide_eq_true (hu.2 (.inl c))]
      · rw [decide_eq_false c, if_neg (by simp)]; congr 2; rw [decide_eq_decide, hu]
        constructor
        · intro z; right; omega
        · rintro (z | z)
          · exact absurd z c
          · omega
  · rw [if_neg h1, if_neg (by omega), if_neg h1]
def sbs (l : List (Nat × Nat)) : List S24 := l.map fun p => ⟨(p.1 : Int), (p.2 : Int)⟩
theorem shl_eq {n k : Nat} (hk : k ≤ 64) (hb : n * 2 ^ k < 18446744073709551616) : shl .u64 (n : Int) (k : Int) = ((n * 2 ^ k : Nat) : Int) := by
  unfold shl
  have : min ((k : Int)).toNat (IntKind.bits .u64) = k := by
    show min ((k : Int)).toNat 64 = k
    omega
  have e : (n : Int) * 2 ^ k = ((n * 2 ^ k : Nat) : Int) := by push_cast; rfl
  rw [this, e, wu64 (by omega) (by omega)]
theorem nLeaves_eq (h : Int) {n : Nat} (hn : n < 18446744073709551616) (k : Nat) :
    node_Leaves.f (k + 1) h (n : Int) = some (if Nd h.toNat n then ((lo h.toNat n : Int), (hi h.toNat n : Int), 0) else (0, 0, 1)) := by
  unfold node_Leaves.f
  rw [check_eq h hn]; simp only [Option.bind_some]
  by_cases h1 : Nd h.toNat n
  · have hh := h1
    rw [nd_iff] at hh
    have e : ((h.toNat : Nat) : Int) = h := by omega
    rw [if_pos h1, if_pos rfl, if_pos h1, depth_eq h1.2.2.1 hn]; simp only [Option.bind_some]
    generalize hH : h.toNat = H at *
    subst e
    have hlf := lf_ge h1.2.2.1 h1.2.2.2
    have hrt := rt_le (h := H) (n := n) h1.2.2.2
    have hlr := lf_lt_rt H n
    have hp33 : 2 ^ (H + 1) ≤ 8589934592 := pow_le_32 (by omega)
    have hpH : 2 ^ H ≤ 4294967296 := pow_le_h (by omega)
    have hpw : 2 ^ (H - n.log2) ≤ 4294967296 := pow_le_h (by omega)
    have hre := rt_eq H n
    rw [w64 (x := (H : Int) - n.log2) (by omega) (by omega), show (H : Int) - n.log2 = ((H - n.log2 : Nat) : Int) by omega, if_pos (by omega), if_pos (by omega)]
    have e1 : shl .u64 (n : Int) ((H - n.log2 : Nat) : Int) = (lf H n : Int) := shl_eq (by omega) (show lf H n < _ by omega)
    have e2 : shl .u64 1 (H : Int) = ((2 ^ H : Nat) : Int) := by
      have := shl_eq (n := 1) (k := H) (by omega) (by omega)
      rw [Nat.one_mul] at this; exact this
    have e3 : shl .u64 1 ((H - n.log2 : Nat) : Int) = ((2 ^ (H - n.log2) : Nat) : Int) := by
      have := shl_eq (n := 1) (k := H - n.log2) (by omega) (by omega)
      rw [Nat.one_mul] at this; exact this
    rw [e1, e2, e3]
    have f1 : (lf H n : Int) - ((2 ^ H : Nat) : Int) = (lo H n : Int) := by unfold lo; omega
    rw [f1]
    have g1 : lo H n < 8589934592 := by unfold lo; omega
    have g2 := hi_eq h1
    unfold wd at g2
    rw [wu64 (x := (lo H n : Int)) (by omega) (by omega), wu64 (x := (lo H n : Int) + _) (by omega) (by omega), wu64 (by omega) (by omega)]
    congr 3; omega
  · rw [if_neg h1, if_neg (by omega), if_neg h1]
theorem both_eq' (h : Int) {i j : Nat} (hi' : i < 18446744073709551616) (hj : j < 18446744073709551616) (k : Nat) :
    sub_both.f (k + 1) h (i : Int) (j : Int) = some (if Sb h.toNat i j then ((lo h.toNat i : Int), (hi h.toNat i : Int), (if j = 0 then 0 else (lo h.toNat j : Int)), (if j = 0 then 0 else (hi h.toNat j : Int)), 0) else (0, 0, 0, 0, 1)) := by
  unfold sub_both.f
  rw [sCheck_eq h hi' hj]; simp only [Option.bind_some]
  by_cases h1 : Sb h.toNat i j
  · rw [if_pos h1, if_pos rfl, nLeaves_eq h hi', if_pos h1.1]; simp only [Option.bind_some, if_true]
    by_cases h0 : j = 0
    · subst h0; rw [if_pos (by rfl)]; simp [h1]
    · rw [if_neg (by omega), nLeaves_eq h hj, if_pos (h1.2.resolve_left h0).1]; simp only [Option.bind_some]
      simp [h1, h0]
  · rw [if_neg h1, if_neg (by omega), if_neg h1]
def sps (l : List (Nat × Nat)) : List S69 := l.map fun p => ⟨(p.1 : Int), (p.2 : Int)⟩
theorem sLeaves_eq (h : Int) {i j : Nat} (hi' : i < 18446744073709551616) (hj : j < 18446744073709551616) (k : Nat) :
    sub_Leaves.f (k + 1) h (i : Int) (j : Int) = some (if Sb h.toNat i j then (sps (spn h.toNat i j), 0) else ([], 1)) := by
  unfold sub_Leaves.f
  rw [both_eq' h hi' hj]; simp only [Option.bind_some]
  by_cases h1 : Sb h.toNat i j
  · rw [if_pos h1, if_pos h1]; simp only [if_true]
    by_cases h0 : j = 0
    · subst h0; rw [if_pos (by rfl)]; simp [spn, sps]
    · have dj := (h1.2.resolve_left h0).1
      have hp : 2 ^ h.toNat ≤ 4294967296 := pow_le_h (by have := h1.1.2.1; omega)
      have l1 := hi_lt h1.1
      have l2 := hi_lt dj
      have q2 := hi_eq dj
      have w2 := wd_pos h.toNat j
      simp only [if_neg h0]
      rw [if_neg (by omega)]
      unfold spn; rw [if_neg h0]
      by_cases c1 : lo h.toNat i < lo h.toNat j
      · rw [if_pos (by omega), if_pos (by simp), if_pos c1]
        rw [wu64 (x := (lo h.toNat j : Int) - 1) (by omega) (by omega)]
        by_cases c2 : hi h.toNat j < hi h.toNat i
        · rw [if_pos (by omega), if_pos (by simp), if_pos c2, wu64 (by omega) (by omega)]
          simp [sps]; omega
        · rw [if_neg (by omega), if_neg c2]; simp [sps]; omega
      · rw [if_neg (by omega), if_neg c1]
        by_cases c2 : hi h.toNat j < hi h.toNat i
        · rw [if_pos (by omega), if_pos (by simp), if_pos c2, wu64 (by omega) (by omega)]; simp [sps]
        · rw [if_neg (by omega), if_neg c2]; rfl
  · rw [if_neg h1, if_neg (by simp), if_neg h1]
theorem nLeaf_eq (h : Int) {p : Nat} (hp : p < 18446744073709551616) : node_Leaf.f h (p : Int) = some (if Hi h then (if p < 2 ^ h.toNat then ((2 ^ h.toNat + p : Nat) : Int) else 0, if p < 2 ^ h.toNat then 0 else 4) else (0, 1)) := by
  unfold node_Leaf.f
  rw [high_eq]; simp only [Option.bind_some]
  by_cases h1 : Hi h
  · have hh := h1
    rw [hi_iff] at hh
    rw [decide_eq_true h1, if_pos rfl, if_pos (by omega), if_pos h1]
    have e : ((h.toNat : Nat) : Int) = h := by omega
    generalize hH : h.toNat = H at *
    subst e
    rw [shr_eq p (by omega)]
    have hz : 0 < 2 ^ H := pow_pos2 H
    by_cases c : p < 2 ^ H
    · have e1 : shl .u64 1 (H : Int) = ((2 ^ H : Nat) : Int) := by
        have hpH : 2 ^ H ≤ 4294967296 := pow_le_h (by omega)
        have := shl_eq (n := 1) (k := H) (by omega) (by omega)
        rw [Nat.one_mul] at this; exact this
      rw [Nat.div_eq_of_lt c, if_neg (by omega), e1, if_pos c, if_pos c]
      have hpH : 2 ^ H ≤ 4294967296 := pow_le_h (by omega)
      congr 2
      rw [Go.bits_or_u64_nat _ _ (by omega) (by omega)]
      have : 2 ^ H ||| p = 2 ^ H + p := by
        have := Nat.two_pow_add_eq_or_of_lt c 1
        rw [Nat.mul_one] at this; exact this.symm
      rw [this]
    · have : 1 ≤ p / 2 ^ H := (Nat.le_div_iff_mul_le hz).2 (by omega)
      rw [if_pos (by omega), if_neg c, if_neg c]
  · rw [decide_eq_false h1, if_neg (by simp), if_neg h1]
theorem lis_eq (h : Int) {p : Nat} (hp : p < 18446744073709551616) : leaf_is.f h (p : Int) = some (decide (Lfi h p)) := by
  unfold leaf_is.f
  rw [nLeaf_eq h hp]; simp only [Option.bind_some]
  by_cases h1 : Hi h
  · rw [if_pos h1]
    by_cases h2 : p < 2 ^ h.toNat
    · rw [if_pos h2, decide_eq_true ⟨h1, h2⟩]; simp [h2]
    · rw [if_neg h2, decide_eq_false (fun z => h2 z.2)]; simp [h2]
  · rw [if_neg h1, decide_eq_false (fun z => h1 z.1)]; rfl
theorem rdT_sps {l : List (Nat × Nat)} {i : Nat} (h : i < l.length) : rd_T69 (sps l) (i : Int) = ⟨(l[i].1 : Int), (l[i].2 : Int)⟩ := by
  unfold rd_T69 sps
  simp [List.getD_eq_getElem?_getD, h]
theorem sps_len (l : List (Nat × Nat)) : (sps l).length = l.length := by simp [sps]
theorem lHas0_eq (h : Int) {p : Nat} (hp : p < 18446744073709551616) {k : Nat} (hk : 3 ≤ k) : leaf_Has.f k h [] (p : Int) = some (if Lfi h p then (false, 0) else (false, 1)) := by
  obtain ⟨k, rfl⟩ : ∃ m, k = m + 3 := ⟨k - 3, by omega⟩
  unfold leaf_Has.f leaf_find.f leaf_Check.f
  rw [checkRoot_eq]; simp only [Option.bind_some]
  by_cases hh : Hi h
  · rw [if_pos hh]; simp only [if_true, leaf_Check.j0]
    simp only [leaf_Check.l0]
    rw [lis_eq h hp]
    by_cases h1 : Lfi h p
    · rw [if_pos h1]
      simp [h1, slices_BinarySearch_uint64_uint64.f, slices_BinarySearch_uint64_uint64.l0]
    · simp [h1]
  · rw [if_neg hh]; simp [leaf_Check.j0, show ¬ Lfi h p from fun z => hh z.1]
theorem sHas_eq (h : Int) {i j p : Nat} (hi' : i < 18446744073709551616) (hj : j < 18446744073709551616) (hp : p < 18446744073709551616) {k : Nat} (hk : 3 ≤ k) :
    sub_Has.f k h (i : Int) (j : Int) (p : Int) = some (if Sb h.toNat i j ∧ Lfi h p then (decide (In h.toNat i j p), 0) else (false, 1)) := by
  obtain ⟨k, rfl⟩ : ∃ m, k = m + 1 := ⟨k - 1, by omega⟩
  unfold sub_Has.f
  rw [both_eq' h hi' hj, lHas0_eq h hp hk]; simp only [Option.bind_some]
  by_cases h1 : Sb h.toNat i j
  · rw [if_pos h1]; simp only [if_true]
    by_cases h2 : Lfi h p
    · have h12 : Sb h.toNat i j ∧ Lfi h p := ⟨h1, h2⟩
      rw [if_pos h2, if_pos h12]; simp only [if_true]
      congr 2
      rw [Bool.eq_iff_iff, decide_eq_true_iff, in_iff]
      by_cases h0 : j = 0
      · subst h0; simp
      · simp [h0]; omega
    · rw [if_neg h2]; simp [h2]
  · rw [if_neg h1]; simp [h1]
theorem rdT_sbs {l : List (Nat × Nat)} {i : Nat} (h : i < l.length) : rd_T24 (sbs l) (i : Int) = ⟨(l[i].1 : Int), (l[i].2 : Int)⟩ := by
  unfold rd_T24 sbs
  simp [List.getD_eq_getElem?_getD, h]
theorem sbs_len (l : List (Nat × Nat)) : (sbs l).length = l.length := by simp [sbs]
theorem lcheck_eq (h s : Int) (k : Nat) : layer_check.f (k + 1) h s = some (if Sch s ∧ Hi h then 0 else 1) := by
  unfold layer_check.f
  by_cases c1 : s < 1
  · rw [if_pos c1, if_neg (by rw [sch_iff]; omega)]
  · rw [if_neg c1]
    by_cases c2 : s > 3
    · rw [if_pos c2, if_neg (by rw [sch_iff]; omega)]
    · rw [if_neg c2, checkRoot_eq]; simp only [bnd]
      by_cases c3 : Hi h
      · rw [if_pos c3, if_pos ⟨(sch_iff s).2 (by omega), c3⟩]
      · rw [if_neg c3, if_neg (fun z => c3 z.2)]
theorem May_eq (h s : Int) {i j : Nat} (hi' : i < 18446744073709551616) (hj : j < 18446744073709551616) {k : Nat} (hk : 12 ≤ k) :
    layer_May.f k h s (i : Int) (j : Int) = some (if Sch s ∧ Sb h.toNat i j then (decide (May h.toNat s i j), 0) else (false, 1)) := by
  obtain ⟨k, rfl⟩ : ∃ m, k = m + 1 := ⟨k - 1, by omega⟩
  unfold layer_May.f
  rw [lcheck_eq, sCheck_eq h hi' hj]; simp only [bnd]
  by_cases c1 : Sch s ∧ Hi h
  · rw [if_pos c1]; simp only [if_true]
    by_cases c2 : Sb h.toNat i j
    · have c3 : Sch s ∧ Sb h.toNat i j := ⟨c1.1, c2⟩
      rw [if_pos c2, if_pos c3]
      simp only [layer_May.j0]
      rw [if_neg (by simp)]
      by_cases e1 : s = 1
      · rw [if_pos e1]; congr 2
        rw [Bool.eq_iff_iff, decide_eq_true_iff, may_iff]
        simp [e1]
      · rw [if_neg e1]
        by_cases e2 : s = 2
        · rw [if_pos e2]
          by_cases e3 : j = 0
          · subst e3
            rw [if_pos (by rfl)]; congr 2
            rw [Bool.eq_iff_iff, decide_eq_true_iff, may_iff]
            simp [e2]; omega
          · rw [if_neg (by omega)]; congr 2
            symm; rw [decide_eq_true_iff, may_iff]
            simp [e2, e3]
        · rw [if_neg e2, Useful_eq h hi' hj (by omega), if_pos c2]; simp only [bnd]
          congr 2
          rw [decide_eq_decide, may_iff]
          simp [e1, e2]
    · rw [if_neg c2, if_neg (fun z => c2 z.2)]; simp [layer_May.j0]
  · have c3 : ¬ (Sch s ∧ Sb h.toNat i j) := by
      rintro ⟨a, b⟩
      refine c1 ⟨a, ?_⟩
      have := b.1; rw [nd_iff] at this; rw [hi_iff]; omega
    rw [if_neg c1, if_neg c3]; simp [layer_May.j0]
theorem ints_of (l : List Int) (h : ∀ x ∈ l, (Lit.int .u64 x).wf = true) : ∃ m : List Nat, l = ints m ∧ ∀ x ∈ m, x < 18446744073709551616 := by
  refine ⟨l.map Int.toNat, ?_, ?_⟩
  · unfold ints
    rw [List.map_map]
    symm
    rw [List.map_congr_left (g := id)]
    · simp
    · intro x hx
      obtain ⟨n, rfl, _⟩ := wf_u64 (h x hx)
      simp
  · intro x hx
    obtain ⟨y, hy, rfl⟩ := List.mem_map.1 hx
    obtain ⟨n, rfl, hn⟩ := wf_u64 (h y hy)
    simpa using hn
def Lst (h : Int) (l : List Nat) : Prop := Hi h ∧ l.length ≤ 1024 ∧ (∀ i ∈ l, i < 2 ^ h.toNat) ∧ Up l
instance (l : List Nat) : Decidable (Up l) := inferInstanceAs (Decidable (l.Pairwise (· < ·)))
instance (h : Int) (l : List Nat) : Decidable (Lst h l) := inferInstanceAs (Decidable (_ ∧ _))
def okf (H : Nat) : Option Nat → List Nat → Bool
  | _, [] => true
  | p, i :: l => decide (i < 2 ^ H) && (match p with | none => true | some q => decide (q < i)) && okf H (some i) l
theorem okf_some (H : Nat) : ∀ (l : List Nat) (q : Nat), okf H (some q) l = true ↔ (∀ i ∈ l, i < 2 ^ H) ∧ Up l ∧ ∀ i ∈ l, q < i
  | [], q => by simp [okf, Up]
  | i :: l, q => by
    simp only [okf, Bool.and_eq_true, decide_eq_true_iff, okf_some H l i]
    constructor
    · rintro ⟨⟨a, b⟩, c, d, e⟩
      refine ⟨?_, List.pairwise_cons.2 ⟨e, d⟩, ?_⟩
      · intro x hx; rcases List.mem_cons.1 hx with rfl | hx
        · exact a
        · exact c x hx
      · intro x hx; rcases List.mem_cons.1 hx with rfl | hx
        · exact b
        · have := e x hx; omega
    · rintro ⟨a, b, c⟩
      exact ⟨⟨a i (by simp), c i (by simp)⟩, fun x hx => a x (by simp [hx]), b.tail, fun x hx => b.lt hx⟩
theorem okf_none (H : Nat) (l : List Nat) : okf H none l = true ↔ (∀ i ∈ l, i < 2 ^ H) ∧ Up l := by
  cases l with
  | nil => simp [okf, Up]
  | cons i l =>
    simp only [okf, Bool.and_eq_true, decide_eq_true_iff, okf_some H l i, and_true]
    constructor
    · rintro ⟨a, c, d, e⟩
      refine ⟨?_, List.pairwise_cons.2 ⟨e, d⟩⟩
      intro x hx; rcases List.mem_cons.1 hx with rfl | hx
      · exact a
      · exact c x hx
    · rintro ⟨a, b⟩
      exact ⟨a i (by simp), fun x hx => a x (by simp [hx]), b.tail, fun x hx => b.lt hx⟩
def bef (l : List Nat) (i : Nat) : Option Nat := if i = 0 then none else l[i - 1]?
theorem bef_succ {l : List Nat} {i : Nat} (hi : i < l.length) : bef l (i + 1) = some l[i] := by unfold bef; rw [if_neg (by omega)]; simp [hi]
theorem lCheck_l (h : Int) (hh : Hi h) (l : List Nat) (hb : ∀ x ∈ l, x < 18446744073709551616) (hn : l.length < 4611686018427387904) : ∀ (q i k : Nat), i + q = l.length → q < k →
    leaf_Check.l0 k h (ints l) (ints l) (l.length : Int) (i : Int) = some (if okf h.toNat (bef l i) (l.drop i) = true then 0 else 1) := by
  intro q
  induction q with
  | zero =>
    intro i k hi hk
    obtain ⟨k, rfl⟩ : ∃ m, k = m + 1 := ⟨k - 1, by omega⟩
    simp only [leaf_Check.l0]
    rw [if_neg (by omega), List.drop_of_length_le (by omega)]; simp [okf]
  | succ q ih =>
    intro i k hi hk
    obtain ⟨k, rfl⟩ : ∃ m, k = m + 1 := ⟨k - 1, by omega⟩
    have d1 : l.drop i = l[i] :: l.drop (i + 1) := List.drop_eq_getElem_cons (by omega)
    have lb := hb l[i] (List.getElem_mem (by omega))
    have r := ih (i + 1) k (by omega) (by omega)
    rw [bef_succ (by omega)] at r
    simp only [leaf_Check.l0]
    rw [if_pos (by omega), if_pos (by omega), if_pos (by rw [ints_len]; omega), ints_rd (show i < l.length by omega), lis_eq h lb]; simp only [bnd]
    rw [w64 (x := (i : Int) + 1) (by omega) (by omega), show (i : Int) + 1 = ((i + 1 : Nat) : Int) by omega, r, d1]
    by_cases c : l[i] < 2 ^ h.toNat
    · rw [decide_eq_true (show Lfi h l[i] from ⟨hh, c⟩), if_pos rfl]
      by_cases i0 : i = 0
      · subst i0
        rw [if_neg (by omega)]
        simp only [okf, bef, if_true, decide_eq_true c, Bool.true_and, Bool.and_true]
      · have ei : (i : Int) - 1 = ((i - 1 : Nat) : Int) := by omega
        rw [if_pos (by omega), w64 (x := (i : Int) - 1) (by omega) (by omega), ei, if_pos (by omega), if_pos (by rw [ints_len]; omega), ints_rd (show i - 1 < l.length by omega)]
        have eb : bef l i = some l[i - 1] := by unfold bef; rw [if_neg i0]; simp [show i - 1 < l.length by omega]
        rw [eb]
        by_cases g : l[i - 1] < l[i]
        · rw [if_neg (by omega)]
          simp only [okf, decide_eq_true c, decide_eq_true g, Bool.true_and, Bool.and_true]
        · rw [if_pos (by omega)]
          simp [okf, g]
    · rw [decide_eq_false (show ¬ Lfi h l[i] from fun z => c z.2), if_neg (by simp)]
      simp [okf, c]
theorem lCheck_eq (h : Int) {l : List Nat} (hb : ∀ x ∈ l, x < 18446744073709551616) (hn : l.length < 4611686018427387904) {k : Nat} (hk : l.length + 2 ≤ k) :
    leaf_Check.f k h (ints l) = some (if Lst h l then 0 else 1) := by
  obtain ⟨k, rfl⟩ : ∃ m, k = m + 1 := ⟨k - 1, by omega⟩
  unfold leaf_Check.f
  rw [checkRoot_eq]; simp only [bnd]
  by_cases hh : Hi h
  · rw [if_pos hh, if_pos rfl, ints_len]
    simp only [leaf_Check.j0]
    by_cases c : l.length ≤ 1024
    · rw [decide_eq_false (by omega), if_neg (by simp), ints_len]
      have := lCheck_l h hh l hb hn l.length 0 k (by omega) (by omega)
      rw [show ((0 : Nat) : Int) = 0 from rfl, List.drop_zero, show bef l 0 = none from rfl] at this
      rw [this]
      by_cases o : okf h.toNat none l = true
      · have o' := (okf_none _ _).1 o
        rw [if_pos o, if_pos (show Lst h l from ⟨hh, c, o'.1, o'.2⟩)]
      · rw [if_neg o, if_neg (show ¬ Lst h l from fun z => o ((okf_none _ _).2 ⟨z.2.2.1, z.2.2.2⟩))]
    · rw [decide_eq_true (by omega), if_pos rfl, if_neg (show ¬ Lst h l from fun z => c z.2.1)]
  · rw [if_neg hh, if_neg (by omega)]
    simp only [leaf_Check.j0, if_true]
    rw [if_neg (show ¬ Lst h l from fun z => hh z.1)]
theorem xor_sib {n : Nat} (hn : n < 8589934592) : Go.bits .xor .u64 (n : Int) 1 = (sib n : Int) := by
  have := Go.bits_xor_u64_nat n 1 (by omega) (by omega)
  exact this
def Bdd (l : List (Nat × Nat)) : Prop := ∀ q ∈ l, q.1 < 18446744073709551616 ∧ q.2 < 18446744073709551616
theorem bdd_sb {h : Nat} {l : List (Nat × Nat)} (hl : ∀ q ∈ l, Sb h q.1 q.2) : Bdd l := fun q hq => sb_lt (hl q hq)
theorem or_one {n : Nat} (hn : n < 9223372036854775808) : Go.bits .or .u64 (IntKind.u64.wrap ((n : Int) * 2)) 1 = ((2 * n + 1 : Nat) : Int) := by
  rw [wu64 (by omega) (by omega), show (n : Int) * 2 = ((2 * n : Nat) : Int) by omega, show (1 : Int) = ((1 : Nat) : Int) from rfl]
  have e := Go.bits_or_u64_nat (2 * n) 1 (by omega) (by omega)
  rw [e]
  congr 1
  have := Nat.two_pow_add_eq_or_of_lt (i := 1) (b := 1) (by omega) n
  simpa using this.symm
theorem fits_eq (h s : Int) {i j : Nat} (hi' : i < 18446744073709551616) (hj : j < 18446744073709551616) {k : Nat} (hk : 12 ≤ k) : trace_fits.f k h s (i : Int) (j : Int) = some (decide (Fit h.toNat s i j)) := by
  unfold trace_fits.f
  rw [May_eq h s hi' hj hk]; simp only [bnd]
  by_cases c : Sch s ∧ Sb h.toNat i j
  · rw [if_pos c, if_pos (by trivial)]; dsimp only
    by_cases m : May h.toNat s i j
    · rw [decide_eq_true m, if_pos rfl]
      congr 1
      rw [sch_iff] at c
      by_cases s3 : s = 3
      · rw [s3, decide_eq_false (fun z => by have := z.1; omega)]; simp
      · rw [decide_eq_true ⟨by omega, c.2, m⟩]; simp [s3]
    · rw [decide_eq_false m, if_neg (by simp), decide_eq_false (fun z => m z.2.2)]
  · rw [if_neg c, if_neg (by omega), decide_eq_false (fun z => c ⟨by rw [sch_iff]; have := z.1; omega, z.2.1⟩)]
theorem only_eq (h : Int) {i j : Nat} (hi' : i < 18446744073709551616) (hj : j < 18446744073709551616) {k : Nat} (hk : 1 ≤ k) (s : Sb h.toNat i j) : trace_only.f k h (i : Int) (j : Int) = some (if tot (spn h.toNat i j) = 1 then ((lof h.toNat i j : Int), true) else (0, false)) := by
  obtain ⟨k, rfl⟩ : ∃ m, k = m + 1 := ⟨k - 1, by omega⟩
  unfold trace_only.f
  rw [sLeaves_eq h hi' hj k, if_pos s]; simp only [bnd]
  rw [if_pos (by trivial), sps_len]
  have o := spn_one s
  unfold lof
  generalize spn h.toNat i j = x at *
  match x with
  | [] => rw [if_neg (by simp), if_neg (by rw [← o]; simp)]
  | [(a, b)] =>
    have r : rd_T69 (sps [(a, b)]) 0 = ⟨(a : Int), (b : Int)⟩ := rfl
    rw [if_pos (by simp), if_pos (by simp), r]; dsimp only
    simp only [List.length_cons, List.length_nil, List.headD_cons] at o ⊢
    by_cases e : a = b
    · rw [if_pos (by rw [e]), if_pos (o.1 ⟨trivial, e⟩)]
    · rw [if_neg (by omega), if_neg (fun z => e (o.2 z).2)]
  | p :: q :: t => rw [if_neg (by simp only [List.length_cons]; omega), if_neg (by rw [← o]; simp)]
theorem Halves_eq (h s : Int) {i j : Nat} (hi' : i < 18446744073709551616) (hj : j < 18446744073709551616) {k : Nat} (hk : 12 ≤ k) :
    trace_Halves.f k h s (i : Int) (j : Int) = some (if Fit h.toNat s i j then (if tot (spn h.toNat i j) = 1 then ([], 4) else (sbs [hva s i j, hvb s i j], 0)) else ([], 1)) := by
  unfold trace_Halves.f
  rw [fits_eq h s hi' hj hk]; simp only [bnd]
  by_cases f : Fit h.toNat s i j
  · rw [decide_eq_true f, if_pos rfl, if_pos f, only_eq h hi' hj (by omega) f.2.1]; simp only [bnd]
    by_cases t : tot (spn h.toNat i j) = 1
    · rw [if_pos t, if_pos t, if_pos rfl]
    · obtain ⟨fa, fb, _, _, _⟩ := hv f t
      have sa := fa.2.1.1.lt33
      have sb := fb.2.1.1.lt33
      have di := f.2.1.1
      have li := di.lt33
      rw [if_neg t, if_neg t, if_neg (by simp)]
      rcases fit_may f with ⟨rfl, rfl⟩ | ⟨rfl, fj⟩
      · rw [show hva 1 i 0 = (2 * i, 0) from rfl] at sa ⊢
        rw [show hvb 1 i 0 = (2 * i + 1, 0) from rfl] at sb ⊢
        dsimp only at sa sb
        have w : IntKind.u64.wrap ((i : Int) * 2) = ((2 * i : Nat) : Int) := by rw [wu64 (by omega) (by omega)]; omega
        have o := or_one (n := i) (by omega)
        rw [if_pos rfl, o, w]; rfl
      · rw [if_neg (by omega)]
        by_cases j0 : j = 0
        · subst j0
          have i1 : i = 1 := fj.resolve_left (by omega)
          subst i1
          rw [if_pos (by omega)]; rfl
        · obtain ⟨dj, ne, ab⟩ := f.2.1.2.resolve_left j0
          have lij : i.log2 < j.log2 := by
            rcases Nat.lt_or_ge i.log2 j.log2 with z | z
            · exact z
            · exact absurd (ab.eq_of_log2 (by have := ab.1; omega)) ne
          have l32 := dj.2.2.2
          have h32 := dj.2.1
          obtain ⟨k, rfl⟩ : ∃ m, k = m + 1 := ⟨k - 1, by omega⟩
          rw [if_neg (by omega), Depth_eq h hi' k, if_pos di]; simp only [bnd]
          rw [if_pos (by trivial), w64 (by omega) (by omega), Up_eq h hj _ k, if_pos dj, if_pos (by omega)]; simp only [bnd]
          rw [if_pos (by trivial), show ((i.log2 : Int) + 1).toNat = i.log2 + 1 by omega]
          by_cases c : anc j (i.log2 + 1) = j
          · have ea : hva 2 i j = (sib j, 2 * sib j) := by unfold hva; rw [if_neg (by omega), if_neg j0, if_pos c]
            have eb : hvb 2 i j = (sib j, 2 * sib j + 1) := by unfold hvb; rw [if_neg (by omega), if_neg j0, if_pos c]
            rw [ea] at sa ⊢
            rw [eb] at sb ⊢
            dsimp only at sa sb
            have w : IntKind.u64.wrap ((sib j : Int) * 2) = ((2 * sib j : Nat) : Int) := by rw [wu64 (by omega) (by omega)]; omega
            have o := or_one (n := sib j) (by omega)
            rw [c, if_pos rfl, xor_sib dj.lt33, o, w]; rfl
          · have ea : hva 2 i j = (i, anc j (i.log2 + 1)) := by unfold hva; rw [if_neg (by omega), if_neg j0, if_neg c]
            have eb : hvb 2 i j = (anc j (i.log2 + 1), j) := by unfold hvb; rw [if_neg (by omega), if_neg j0, if_neg c]
            rw [if_neg (by omega), ea, eb]; rfl
  · rw [decide_eq_false f, if_neg (by simp), if_neg f]
def asks (pl : Bool) (h : Nat) (T : List Nat) (S : List Bool) (n : Nat) (l : List (Nat × Nat)) : Bool := if pl = true then S.getD n false else T.any fun t => l.any fun q => decide (In h q.1 q.2 t)
theorem any_eq {f : S24 → Option Bool} {g : Nat × Nat → Bool} : ∀ {l : List (Nat × Nat)}, (∀ q ∈ l, f ⟨(q.1 : Int), (q.2 : Int)⟩ = some (g q)) → trace_any.f f (sbs l) = some (l.any g) := by
  intro l
  induction l with
  | nil => intro _; rfl
  | cons q l ih =>
    intro hq
    show ((f ⟨(q.1 : Int), (q.2 : Int)⟩).bind fun b => if b = true then some true else trace_any.f f (sbs l)) = _
    rw [hq q (by simp), ih (fun r hr => hq r (by simp [hr]))]; simp only [bnd]
    cases hg : g q <;> simp [hg]
theorem asks1_eq (h : Int) {t : Nat} (ht : Lfi h t) {k : Nat} (hk : 3 ≤ k) : ∀ {l : List (Nat × Nat)}, (∀ q ∈ l, Sb h.toNat q.1 q.2) → trace_asks1.f k h (t : Int) (sbs l) = some (l.any fun q => decide (In h.toNat q.1 q.2 t)) := by
  have tl : t < 18446744073709551616 := by have := ht.2; have := pow_le_h (h := h.toNat) (by have := ht.1; rw [hi_iff] at this; omega); omega
  intro l
  induction l with
  | nil => intro _; rfl
  | cons q l ih =>
    intro hq
    have b := sb_lt (hq q (by simp))
    show ((sub_Has.f k h (q.1 : Int) (q.2 : Int) (t : Int)).bind fun p => if p.2 = 0 then (if p.1 = true then some true else trace_asks1.f k h (t : Int) (sbs l)) else trace_asks1.f k h (t : Int) (sbs l)) = _
    rw [sHas_eq h b.1 b.2 tl hk, if_pos ⟨hq q (by simp), ht⟩, ih (fun r hr => hq r (by simp [hr]))]; simp only [bnd]
    rw [if_pos (by trivial)]
    by_cases c : In h.toNat q.1 q.2 t
    · rw [if_pos (by simpa using c)]; simp [c]
    · rw [if_neg (by simpa using c)]; simp [c]
theorem asks_eq (h : Int) {l : List (Nat × Nat)} (hl : ∀ q ∈ l, Sb h.toNat q.1 q.2) {k : Nat} (hk : 3 ≤ k) : ∀ {T : List Nat}, (∀ t ∈ T, Lfi h t) → trace_asks.f k h (sbs l) (ints T) = some (T.any fun t => l.any fun q => decide (In h.toNat q.1 q.2 t)) := by
  intro T
  induction T with
  | nil => intro _; rfl
  | cons t T ih =>
    intro ht
    show ((trace_asks1.f k h (t : Int) (sbs l)).bind fun b => if b = true then some true else trace_asks.f k h (sbs l) (ints T)) = _
    rw [asks1_eq h (ht t (by simp)) hk hl, ih (fun r hr => ht r (by simp [hr]))]; simp only [bnd]
    cases hg : (l.any fun q => decide (In h.toNat q.1 q.2 t)) <;> simp [hg]
theorem rdOf_getD (S : List Bool) (n : Nat) : rdOf false S (n : Int) = S.getD n false := by
  unfold rdOf
  first | (simp; done) | (split <;> simp_all)
theorem Ask_eq (h : Int) (pl : Bool) {T : List Nat} (hb : ∀ x ∈ T, x < 18446744073709551616) (hn : T.length ≤ 1000000) (S : List Bool) (n : Int) {l : List (Nat × Nat)} (bl : Bdd l) (hl : l.length ≤ 1000000) {k : Nat} (hk : T.length + 20 ≤ k) :
    trace_Ask.f k h pl (ints T) S n (sbs l) = some (if Lst h T ∧ 0 ≤ n ∧ ∀ q ∈ l, Sb h.toNat q.1 q.2 then (asks pl h.toNat T S n.toNat l, 0) else (false, 1)) := by
  obtain ⟨k, rfl⟩ : ∃ m, k = m + 1 := ⟨k - 1, by omega⟩
  unfold trace_Ask.f
  rw [lCheck_eq h hb (by omega) (k := k + 1) (by omega)]; simp only [bnd]
  by_cases c : Lst h T
  · rw [if_pos c, if_pos (by trivial)]
    by_cases c1 : n < 0
    · rw [if_pos c1, if_neg (fun z => by omega)]
    · rw [if_neg c1, if_pos ⟨by rw [sbs_len]; exact hl, by rw [ints_len]; exact hn⟩, any_eq (g := fun q => !decide (Sb h.toNat q.1 q.2)) (fun q hq => by
        rw [sCheck_eq h (bl q hq).1 (bl q hq).2 k]; simp only [bnd]
        by_cases z : Sb h.toNat q.1 q.2 <;> simp [z])]; simp only [bnd]
      by_cases c2 : ∀ q ∈ l, Sb h.toNat q.1 q.2
      · have e : (l.any fun q => !decide (Sb h.toNat q.1 q.2)) = false := by simpa using fun a b hab => c2 (a, b) hab
        obtain ⟨n, rfl⟩ : ∃ m : Nat, n = (m : Int) := ⟨n.toNat, by omega⟩
        have pp : Lst h T ∧ 0 ≤ (n : Int) ∧ ∀ q ∈ l, Sb h.toNat q.1 q.2 := ⟨c, by omega, c2⟩
        rw [e, if_neg (by simp), if_pos pp, Int.toNat_natCast]
        unfold asks
        cases pl with
        | true =>
          rw [if_pos rfl, if_pos rfl]
          by_cases c3 : (n : Int) < (S.length : Int)
          · rw [if_pos c3, rdOf_getD]
          · rw [if_neg c3, List.getD_eq_getElem?_getD, List.getElem?_eq_none (by omega)]; rfl
        | false =>
          rw [if_neg (by simp), if_neg (by simp), asks_eq h c2 (by omega) (fun t ht => ⟨c.1, c.2.2.1 t ht⟩)]; rfl
      · have e : (l.any fun q => !decide (Sb h.toNat q.1 q.2)) = true := by
          simp only [List.any_eq_true, Bool.not_eq_true', decide_eq_false_iff_not]
          refine Classical.byContradiction fun z => c2 fun q hq => Classical.byContradiction fun y => z ⟨q, hq, y⟩
        rw [e, if_pos rfl, if_neg (fun z => c2 z.2.2)]
  · rw [if_neg c, if_neg (by omega), if_neg (fun z => c z.1)]
theorem yes_eq (h : Int) (pl : Bool) {T : List Nat} (c : Lst h T) (S : List Bool) (n : Nat) {l : List (Nat × Nat)} (hs : ∀ q ∈ l, Sb h.toNat q.1 q.2) (hl : l.length ≤ 1000000) {k : Nat} (hk : T.length + 20 ≤ k) :
    trace_yes.f k h pl (ints T) S (n : Int) (sbs l) = some (asks pl h.toNat T S n l) := by
  have hb : ∀ x ∈ T, x < 18446744073709551616 := fun x hx => by have := c.2.2.1 x hx; have := pow_le_h (h := h.toNat) (by have := c.1; rw [hi_iff] at this; omega); omega
  unfold trace_yes.f
  rw [Ask_eq h pl hb (by have := c.2.1; omega) S n (bdd_sb hs) hl hk, if_pos ⟨c, by omega, hs⟩]; simp only [bnd]
  rw [if_pos (by trivial), Int.toNat_natCast]
def gap (Y : Nat → List (Nat × Nat) → Bool) (l : List (Nat × Nat)) : Nat → Nat → Nat → Nat → Nat × Nat
  | 0, n, lo, hi => (lo, n)
  | m + 1, n, lo, hi => if 1 < hi - lo then (if Y n (l.drop ((lo + hi) / 2)) = true then gap Y l m (n + 1) ((lo + hi) / 2) hi else gap Y l m (n + 1) lo ((lo + hi) / 2)) else (lo, n)
theorem gap_eqv (Y : Nat → List (Nat × Nat) → Bool) (l : List (Nat × Nat)) : ∀ (m m' n lo hi : Nat), hi - lo ≤ m + 1 → hi - lo ≤ m' + 1 → gap Y l m n lo hi = gap Y l m' n lo hi := by
  intro m
  induction m with
  | zero =>
    intro m' n lo hi h1 h2
    cases m' with
    | zero => rfl
    | succ m' => rw [gap, gap, if_neg (by omega)]
  | succ m ih =>
    intro m' n lo hi h1 h2
    cases m' with
    | zero => rw [gap, gap, if_neg (by omega)]
    | succ m' =>
      rw [gap, gap]
      by_cases c : 1 < hi - lo
      · rw [if_pos c, if_pos c]
        by_cases d : Y n (l.drop ((lo + hi) / 2)) = true
        · rw [if_pos d, if_pos d, ih m' _ _ _ (by omega) (by omega)]
        · rw [if_neg d, if_neg d, ih m' _ _ _ (by omega) (by omega)]
      · rw [if_neg c, if_neg c]
theorem sz_half {x : Nat} (h : 1 ≤ x) : sz x = sz (x / 2) + 1 := by
  by_cases c : x = 1
  · subst c; decide
  · have := sz_div (n := x) (k := 1) (by rw [Nat.pow_one]; omega)
    rw [Nat.pow_one] at this; exact this
theorem sz_mono {a b : Nat} (h : a ≤ b) : sz a ≤ sz b := by
  unfold sz
  by_cases a0 : a = 0
  · rw [if_pos a0]; omega
  · rw [if_neg a0, if_neg (by omega)]
    have h1 := log2_lo a0
    have h2 := log2_hi b
    rcases Nat.lt_or_ge b.log2 a.log2 with z | z
    · have := pow_mono (show b.log2 + 1 ≤ a.log2 by omega); omega
    · omega
theorem gap_rng (Y : Nat → List (Nat × Nat) → Bool) (l : List (Nat × Nat)) : ∀ (m n lo hi : Nat), lo < hi → hi - lo ≤ m + 1 → lo ≤ (gap Y l m n lo hi).1 ∧ (gap Y l m n lo hi).1 < hi ∧ n ≤ (gap Y l m n lo hi).2 ∧ (gap Y l m n lo hi).2 ≤ n + sz (hi - lo - 1) := by
  intro m
  induction m with
  | zero => intro n lo hi h1 h2; rw [gap]; dsimp only; omega
  | succ m ih =>
    intro n lo hi h1 h2
    rw [gap]
    by_cases c : 1 < hi - lo
    · rw [if_pos c]
      have e := sz_half (x := hi - lo - 1) (by omega)
      by_cases d : Y n (l.drop ((lo + hi) / 2)) = true
      · rw [if_pos d]
        obtain ⟨a1, a2, a3, a4⟩ := ih (n + 1) ((lo + hi) / 2) hi (by omega) (by omega)
        have := sz_mono (show hi - (lo + hi) / 2 - 1 ≤ (hi - lo - 1) / 2 by omega)
        exact ⟨by omega, a2, by omega, by omega⟩
      · rw [if_neg d]
        obtain ⟨a1, a2, a3, a4⟩ := ih (n + 1) lo ((lo + hi) / 2) (by omega) (by omega)
        have := sz_mono (show (lo + hi) / 2 - lo - 1 ≤ (hi - lo - 1) / 2 by omega)
        exact ⟨by omega, by omega, by omega, by omega⟩
    · rw [if_neg c]; dsimp only; omega
theorem sbs_drop (l : List (Nat × Nat)) (n : Nat) : (sbs l).drop n = sbs (l.drop n) := by simp [sbs]
theorem gap_eq (h : Int) (pl : Bool) {T : List Nat} (c : Lst h T) (S : List Bool) {l : List (Nat × Nat)} (hs : ∀ q ∈ l, Sb h.toNat q.1 q.2) (hl : l.length ≤ 1000000) {k : Nat} (hk : T.length + 20 ≤ k) : ∀ (m n lo hi : Nat), hi - lo ≤ m + 1 → hi ≤ l.length → n + (hi - lo) ≤ 2000000 →
    trace_gap.g k h pl (ints T) S (sbs l) (m + 1) (n : Int) lo hi = some ((gap (asks pl h.toNat T S) l m n lo hi).1, ((gap (asks pl h.toNat T S) l m n lo hi).2 : Int)) := by
  intro m
  induction m with
  | zero => intro n lo hi h1 h2 h3; rw [trace_gap.g, if_neg (by omega), gap]
  | succ m ih =>
    intro n lo hi h1 h2 h3
    rw [trace_gap.g, gap]
    by_cases d : 1 < hi - lo
    · rw [if_pos d, if_pos d, sbs_drop, yes_eq h pl c S n (fun q hq => hs q (List.mem_of_mem_drop hq)) (by rw [List.length_drop]; omega) hk]; simp only [bnd]
      rw [w64 (by omega) (by omega), show (n : Int) + 1 = ((n + 1 : Nat) : Int) by omega]
      by_cases y : asks pl h.toNat T S n (l.drop ((lo + hi) / 2)) = true
      · rw [if_pos y, if_pos y, ih _ _ _ (by omega) (by omega) (by omega)]
      · rw [if_neg y, if_neg y, ih _ _ _ (by omega) (by omega) (by omega)]
    · rw [if_neg d, if_neg d]
def dsc (Y : Nat → List (Nat × Nat) → Bool) (h : Nat) (s : Int) : Nat → Nat → Nat × Nat → Nat × Nat
  | 0, n, q => (lof h q.1 q.2, n)
  | m + 1, n, q => if tot (spn h q.1 q.2) = 1 then (lof h q.1 q.2, n) else if Y n [hva s q.1 q.2] = true then dsc Y h s m (n + 1) (hva s q.1 q.2) else dsc Y h s m (n + 1) (hvb s q.1 q.2)
theorem dsc_eqv (Y : Nat → List (Nat × Nat) → Bool) {h : Nat} {s : Int} : ∀ (m m' n : Nat) (q : Nat × Nat), Fit h s q.1 q.2 → msr h s q ≤ m → msr h s q ≤ m' → dsc Y h s m n q = dsc Y h s m' n q := by
  intro m
  induction m with
  | zero =>
    intro m' n q f h1 h2
    cases m' with
    | zero => rfl
    | succ m' =>
      rw [dsc, dsc]
      by_cases t : tot (spn h q.1 q.2) = 1
      · rw [if_pos t]
      · exact absurd (hv f t).2.2.2.1 (by show ¬ msr h s _ < msr h s q; omega)
  | succ m ih =>
    intro m' n q f h1 h2
    by_cases t : tot (spn h q.1 q.2) = 1
    · cases m' with
      | zero => rw [dsc, dsc, if_pos t]
      | succ m' => rw [dsc, dsc, if_pos t, if_pos t]
    · obtain ⟨fa, fb, _, la, lb⟩ := hv f t
      replace la : msr h s (hva s q.1 q.2) < msr h s q := la
      replace lb : msr h s (hvb s q.1 q.2) < msr h s q := lb
      cases m' with
      | zero => omega
      | succ m' =>
        rw [dsc, dsc, if_neg t, if_neg t]
        by_cases y : Y n [hva s q.1 q.2] = true
        · rw [if_pos y, if_pos y, ih m' _ _ fa (by omega) (by omega)]
        · rw [if_neg y, if_neg y, ih m' _ _ fb (by omega) (by omega)]
theorem d_eq (h : Int) {s : Int} (pl : Bool) {T : List Nat} (c : Lst h T) (S : List Bool) {k : Nat} (hk : T.length + 20 ≤ k) : ∀ (m n : Nat) (q : Nat × Nat), Fit h.toNat s q.1 q.2 → msr h.toNat s q ≤ m → n + msr h.toNat s q ≤ 2000000 →
    trace_Trace.d k h s pl (ints T) S (m + 1) (n : Int) (q.1 : Int) (q.2 : Int) = some (true, ((dsc (asks pl h.toNat T S) h.toNat s m n q).1 : Int), ((dsc (asks pl h.toNat T S) h.toNat s m n q).2 : Int), 0) := by
  have fin : ∀ (n : Nat) (q : Nat × Nat) (m : Nat), Fit h.toNat s q.1 q.2 → tot (spn h.toNat q.1 q.2) = 1 → trace_Trace.d k h s pl (ints T) S (m + 1) (n : Int) (q.1 : Int) (q.2 : Int) = some (true, (lof h.toNat q.1 q.2 : Int), (n : Int), 0) := by
    intro n q m f t
    have b := sb_lt f.2.1
    rw [trace_Trace.d, Halves_eq h s b.1 b.2 (by omega), if_pos f, if_pos t]; simp only [bnd]
    rw [if_neg (by omega), only_eq h b.1 b.2 (by omega) f.2.1, if_pos t]; simp only [bnd]
  intro m
  induction m with
  | zero =>
    intro n q f h1 h2
    by_cases t : tot (spn h.toNat q.1 q.2) = 1
    · rw [fin n q 0 f t, dsc]
    · exact absurd (hv f t).2.2.2.1 (by show ¬ msr h.toNat s _ < msr h.toNat s q; omega)
  | succ m ih =>
    intro n q f h1 h2
    by_cases t : tot (spn h.toNat q.1 q.2) = 1
    · rw [fin n q _ f t, dsc, if_pos t]
    · obtain ⟨fa, fb, hl, la, lb⟩ := hv f t
      replace la : msr h.toNat s (hva s q.1 q.2) < msr h.toNat s q := la
      replace lb : msr h.toNat s (hvb s q.1 q.2) < msr h.toNat s q := lb
      have b := sb_lt f.2.1
      have r0 := rdT_sbs (l := [hva s q.1 q.2, hvb s q.1 q.2]) (i := 0) (by simp)
      have r1 := rdT_sbs (l := [hva s q.1 q.2, hvb s q.1 q.2]) (i := 1) (by simp)
      rw [show ((0 : Nat) : Int) = 0 from rfl] at r0
      rw [show ((1 : Nat) : Int) = 1 from rfl] at r1
      rw [trace_Trace.d, Halves_eq h s b.1 b.2 (by omega), if_pos f, if_neg t]; simp only [bnd]
      rw [if_pos (by trivial), if_pos (by rw [sbs_len]; rfl), r0, r1]
      have ye := yes_eq h pl c S n (l := [hva s q.1 q.2]) (fun r hr => by rw [List.mem_singleton.1 hr]; exact fa.2.1) (by simp) hk
      rw [show sbs [hva s q.1 q.2] = [(⟨((hva s q.1 q.2).1 : Int), ((hva s q.1 q.2).2 : Int)⟩ : S24)] from rfl] at ye
      simp only [List.getElem_cons_zero, List.getElem_cons_succ]
      rw [ye]; simp only [bnd]
      rw [w64 (by omega) (by omega), show (n : Int) + 1 = ((n + 1 : Nat) : Int) by omega, dsc, if_neg t]
      by_cases y : asks pl h.toNat T S n [hva s q.1 q.2] = true
      · rw [if_pos y, if_pos y]; exact ih _ _ fa (by omega) (by omega)
      · rw [if_neg y, if_neg y]; exact ih _ _ fb (by omega) (by omega)
def vdc (Y : Nat → List (Nat × Nat) → Bool) (h : Nat) (s : Int) (l : List (Nat × Nat)) : Nat × Nat := dsc Y h s (2 * h + 1) (gap Y l l.length 2 0 l.length).2 (l.getD (gap Y l l.length 2 0 l.length).1 (0, 0))
def vrd (Y : Nat → List (Nat × Nat) → Bool) (h : Nat) (s : Int) (l : List (Nat × Nat)) : Bool × Int × Int × Int := if Y 0 l = true then (if Y 1 [] = true then (false, 0, 2, 0) else (true, ((vdc Y h s l).1 : Int), ((vdc Y h s l).2 : Int), 0)) else (false, 0, 1, 0)
def Trc (h s : Int) (T : List Nat) (l : List (Nat × Nat)) : Prop := Lst h T ∧ 1 ≤ l.length ∧ l.length ≤ 32768 ∧ ∀ q ∈ l, Fit h.toNat s q.1 q.2
instance (h s : Int) (T : List Nat) (l : List (Nat × Nat)) : Decidable (Trc h s T l) := inferInstanceAs (Decidable (_ ∧ _))
theorem Trace_eq (h s : Int) (pl : Bool) {T : List Nat} (hb : ∀ x ∈ T, x < 18446744073709551616) (hn : T.length ≤ 1000000) (S : List Bool) {l : List (Nat × Nat)} (bl : Bdd l) {k : Nat} (hk : T.length + 100 ≤ k) (hk2 : l.length + 2 ≤ k) :
    trace_Trace.f k h s (sbs l) pl (ints T) S = some (if Trc h s T l then vrd (asks pl h.toNat T S) h.toNat s l else (false, 0, 0, 1)) := by
  unfold trace_Trace.f
  rw [lCheck_eq h hb (by omega) (k := k) (by omega)]; simp only [bnd]
  by_cases c : Lst h T
  · rw [if_pos c, if_pos (by trivial), sbs_len]
    by_cases c1 : l.length < 1
    · rw [if_pos (by omega), if_neg (fun z => by have := z.2.1; omega)]
    · rw [if_neg (by omega)]
      by_cases c2 : l.length > 32768
      · rw [if_pos (by omega), if_neg (fun z => by have := z.2.2.1; omega)]
      · rw [if_neg (by omega), any_eq (g := fun q => !decide (Fit h.toNat s q.1 q.2)) (fun q hq => by rw [fits_eq h s (bl q hq).1 (bl q hq).2 (by omega)]; rfl)]; simp only [bnd]
        by_cases c3 : ∀ q ∈ l, Fit h.toNat s q.1 q.2
        · have e : (l.any fun q => !decide (Fit h.toNat s q.1 q.2)) = false := by simpa using fun a b hab => c3 (a, b) hab
          have hs : ∀ q ∈ l, Sb h.toNat q.1 q.2 := fun q hq => (c3 q hq).2.1
          have hh := c.1
          rw [hi_iff] at hh
          have y0 := yes_eq h pl c S 0 hs (by omega) (k := k) (by omega)
          have y1 := yes_eq h pl c S 1 (l := []) (by simp) (by simp) (k := k) (by omega)
          rw [show ((0 : Nat) : Int) = 0 from rfl] at y0
          rw [show ((1 : Nat) : Int) = 1 from rfl, show sbs [] = [] from rfl] at y1
          rw [e, if_neg (by simp), if_pos ⟨c, by omega, by omega, c3⟩, y0]; simp only [bnd]
          unfold vrd
          by_cases d0 : asks pl h.toNat T S 0 l = true
          · rw [if_pos d0, if_pos d0, y1]; simp only [bnd]
            by_cases d1 : asks pl h.toNat T S 1 [] = true
            · rw [if_pos d1, if_pos d1]
            · obtain ⟨k', rfl⟩ : ∃ m, k = m + 1 := ⟨k - 1, by omega⟩
              have ge := gap_eq h pl c S hs (by omega) (k := k' + 1) (by omega) k' 2 0 l.length (by omega) (by omega) (by omega)
              rw [show ((2 : Nat) : Int) = 2 from rfl] at ge
              have gv := gap_eqv (asks pl h.toNat T S) l k' l.length 2 0 l.length (by omega) (by omega)
              rw [gv] at ge
              obtain ⟨g1, g2, g3, g4⟩ := gap_rng (asks pl h.toNat T S) l l.length 2 0 l.length (by omega) (by omega)
              have z1 := sz_le (n := l.length - 0 - 1) (k := 16) (by omega)
              rw [if_neg d1, if_neg d1, ge]; simp only [bnd]
              unfold vdc
              generalize gap (asks pl h.toNat T S) l l.length 2 0 l.length = g at *
              have fq := c3 _ (List.getElem_mem g2)
              have m1 := msr_le h.toNat s l[g.1]
              have er : l.getD g.1 (0, 0) = l[g.1] := by simp [List.getD, g2]
              rw [if_pos g2, rdT_sbs g2, er]
              dsimp only
              rw [d_eq h pl c S (k := k' + 1) (by omega) k' g.2 l[g.1] fq (by omega) (by omega), dsc_eqv _ k' (2 * h.toNat + 1) g.2 l[g.1] fq (by omega) (by omega)]
          · rw [if_neg d0, if_neg d0]
        · have e : (l.any fun q => !decide (Fit h.toNat s q.1 q.2)) = true := by
            simp only [List.any_eq_true, Bool.not_eq_true', decide_eq_false_iff_not]
            refine Classical.byContradiction fun z => c3 fun q hq => Classical.byContradiction fun y => z ⟨q, hq, y⟩
          rw [e, if_pos rfl, if_neg (fun z => c3 z.2.2.2)]
  · rw [if_neg c, if_neg (by omega), if_neg (fun z => c z.1)]
theorem Bound_eq (h n : Int) {k : Nat} (hk : 3 ≤ k) : trace_Bound.f k h n = some (if Hi h ∧ 1 ≤ n ∧ n ≤ 32768 then ((2 * h.toNat + sz n.toNat + 3 : Nat) : Int) else 0, if Hi h ∧ 1 ≤ n ∧ n ≤ 32768 then 0 else 1) := by
  obtain ⟨k, rfl⟩ : ∃ m, k = m + 2 := ⟨k - 2, by omega⟩
  unfold trace_Bound.f
  have cr := checkRoot_eq h (k + 1)
  rw [cr]; simp only [bnd]
  by_cases c : Hi h
  · rw [if_pos c, if_pos (by trivial)]
    have hh := c
    rw [hi_iff] at hh
    by_cases c1 : n < 1
    · rw [if_pos c1, if_neg (fun z => by omega), if_neg (fun z => by omega)]
    · rw [if_neg c1]
      by_cases c2 : n > 32768
      · rw [if_pos c2, if_neg (fun z => by omega), if_neg (fun z => by omega)]
      · obtain ⟨m, rfl⟩ : ∃ m : Nat, n = (m : Int) := ⟨n.toNat, by omega⟩
        have z1 := sz_le (n := m) (k := 16) (by omega)
        rw [if_neg c2, if_pos ⟨c, by omega, by omega⟩, if_pos ⟨c, by omega, by omega⟩, wu64 (by omega) (by omega)]
        unfold bits_Len.f
        rw [len64 (n := m) (by omega) (k + 1)]; simp only [bnd]
        rw [w64 (x := 2 * h) (by omega) (by omega), w64 (x := 2 * h + (sz m : Int)) (by omega) (by omega), w64 (by omega) (by omega), Int.toNat_natCast]
        congr 2; omega
  · rw [if_neg c, if_neg (by omega), if_neg (fun z => c z.1), if_neg (fun z => c z.1)]
theorem sbs_of (l : List S24) (h : ∀ x ∈ l, (Lit.int .u64 x.f0).wf = true ∧ (Lit.int .u64 x.f1).wf = true) : ∃ m : List (Nat × Nat), l = sbs m ∧ Bdd m := by
  induction l with
  | nil => exact ⟨[], rfl, fun q hq => absurd hq (by simp)⟩
  | cons x l ih =>
    obtain ⟨m, hm, hb⟩ := ih (fun y hy => h y (by simp [hy]))
    obtain ⟨a, ha, la⟩ := wf_u64 (h x (by simp)).1
    obtain ⟨b, hb', lb⟩ := wf_u64 (h x (by simp)).2
    refine ⟨(a, b) :: m, ?_, ?_⟩
    · rw [hm]
      show x :: sbs m = (⟨(a : Int), (b : Int)⟩ : S24) :: sbs m
      rw [← ha, ← hb']
    · intro q hq
      rcases List.mem_cons.1 hq with rfl | hq
      · exact ⟨la, lb⟩
      · exact hb q hq
theorem few_eq (pl : Bool) (T : List Int) (S : List Bool) (l : List S24) : medlarlaw23_few.f pl T S l = some (decide (T.length ≤ 20 ∧ S.length ≤ 300 ∧ l.length ≤ 60)) := by
  unfold medlarlaw23_few.f
  by_cases a : T.length ≤ 20
  · rw [if_pos (by omega)]
    by_cases b : S.length ≤ 300
    · rw [if_pos (by omega)]
      by_cases c : l.length ≤ 60
      · rw [decide_eq_true (by omega), decide_eq_true ⟨a, b, c⟩]
      · rw [decide_eq_false (by omega), decide_eq_false (fun z => c z.2.2)]
    · rw [if_neg (by omega), decide_eq_false (fun z => b z.2.1)]
  · rw [if_neg (by omega), decide_eq_false (fun z => a z.1)]
theorem power_l (d : Nat) (hd : d ≤ 63) : ∀ (m i k : Nat), i + m = d → m < k → medlarref01_power.l0 k ((2 ^ i : Nat) : Int) (d : Int) (i : Int) = some ((2 ^ d : Nat) : Int) := by
  intro m
  induction m with
  | zero =>
    intro i k hi hk
    obtain ⟨k, rfl⟩ : ∃ m, k = m + 1 := ⟨k - 1, by omega⟩
    simp only [medlarref01_power.l0]
    rw [if_neg (by omega)]
    rw [show i = d by omega]
  | succ m ih =>
    intro i k hi hk
    obtain ⟨k, rfl⟩ : ∃ m, k = m + 1 := ⟨k - 1, by omega⟩
    have hp : 2 ^ (i + 1) ≤ 2 ^ 63 := pow_mono (by omega)
    have hs : 2 ^ (i + 1) = 2 * 2 ^ i := by rw [Nat.pow_succ, Nat.mul_comm]
    simp only [medlarref01_power.l0]
    rw [if_pos (by omega), w64 (by omega) (by omega), wu64 (by omega) (by omega), show 2 * ((2 ^ i : Nat) : Int) = ((2 ^ (i + 1) : Nat) : Int) by omega, show (i : Int) + 1 = ((i + 1 : Nat) : Int) by omega]
    exact ih (i + 1) k (by omega) (by omega)
theorem power_eq {d k : Nat} (hd : d ≤ 63) (hk : 64 ≤ k) : medlarref01_power.f k (d : Int) = some ((2 ^ d : Nat) : Int) := by
  unfold medlarref01_power.f
  have := power_l d hd d 0 k (by omega) (by omega)
  simpa using this
theorem nd_lt {h n : Nat} : Nd h n ↔ 1 ≤ h ∧ h ≤ 32 ∧ 1 ≤ n ∧ n < 2 ^ (h + 1) := by
  rw [nd_iff]
  constructor
  · rintro ⟨a, b, c, d⟩; exact ⟨a, b, by omega, (Nat.log2_lt c).1 (by omega)⟩
  · rintro ⟨a, b, c, d⟩; exact ⟨a, b, by omega, by have := (Nat.log2_lt (n := n) (by omega)).2 d; omega⟩
theorem may_eq (h : Int) (n : Nat) {k : Nat} (hk : 64 ≤ k) : medlarref01_May.f k h (n : Int) = some (decide (Nd h.toNat n)) := by
  unfold medlarref01_May.f
  by_cases h1 : h ≥ 1
  · rw [if_pos h1]
    by_cases h2 : h ≤ 32
    · rw [if_pos h2]
      by_cases h3 : (n : Int) ≥ 1
      · rw [if_pos h3, w64 (by omega) (by omega), show h + 1 = ((h.toNat + 1 : Nat) : Int) by omega, power_eq (by omega) hk]
        simp only [Option.bind_some]
        congr 1
        rw [decide_eq_decide, nd_lt]
        have : ((n : Int) < ((2 ^ (h.toNat + 1) : Nat) : Int)) ↔ n < 2 ^ (h.toNat + 1) := Int.ofNat_lt
        rw [this]; omega
      · rw [if_neg h3]; congr 1; symm; rw [decide_eq_false_iff_not, nd_iff]; omega
    · rw [if_neg h2]; congr 1; symm; rw [decide_eq_false_iff_not, nd_iff]; omega
  · rw [if_neg h1]; congr 1; symm; rw [decide_eq_false_iff_not, nd_iff]; omega
theorem tdiv2 (n : Nat) : IntKind.u64.wrap (Int.tdiv (n : Int) 2) = ((n / 2 % 18446744073709551616 : Nat) : Int) := by
  have : IntKind.u64.wrap (Int.tdiv (n : Int) 2) = (Int.tdiv (n : Int) 2) % 18446744073709551616 := rfl
  rw [this, Int.tdiv_eq_ediv_of_nonneg (by omega)]; omega
theorem chain_eq : ∀ (k n : Nat), n ≠ 0 → n < 18446744073709551616 → n.log2 < k → medlarref01_Chain.f k (n : Int) = some (ints (chn n)) := by
  intro k
  induction k with
  | zero => intro n _ _ h; omega
  | succ k ih =>
    intro n h0 hn hk
    simp only [medlarref01_Chain.f]
    by_cases h1 : n = 1
    · subst h1; rw [if_pos (by rfl), chn_one]; rfl
    · have hl := log2_half (n := n) (by omega)
      have := log2_64 hn
      rw [if_neg (by omega), tdiv2, show n / 2 % 18446744073709551616 = n / 2 by omega, ih (n / 2) (by omega) (by omega) (by omega)]
      simp only [Option.bind_some]
      rw [ints_len, chn_len, if_pos (by omega), chn_snoc (n := n) (by omega)]
      simp [ints]
theorem is_l (a : Nat) (l : List Nat) (hl : l.length < 1000) : ∀ (m i k : Nat), i + m = l.length → m < k → medlarref01_Is.l0 k (a : Int) (ints l) (l.length : Int) (i : Int) = some (decide (a ∈ l.drop i)) := by
  intro m
  induction m with
  | zero =>
    intro i k hi hk
    obtain ⟨k, rfl⟩ : ∃ m, k = m + 1 := ⟨k - 1, by omega⟩
    simp only [medlarref01_Is.l0]
    rw [if_neg (by omega), List.drop_of_length_le (by omega)]; simp
  | succ m ih =>
    intro i k hi hk
    obtain ⟨k, rfl⟩ : ∃ m, k = m + 1 := ⟨k - 1, by omega⟩
    simp only [medlarref01_Is.l0]
    rw [if_pos (by omega), if_pos (by omega), if_pos (by rw [ints_len]; omega), ints_rd (by omega), List.drop_eq_getElem_cons (by omega)]
    by_cases h : l[i] = a
    · rw [if_pos (by omega)]; simp [h]
    · rw [if_neg (by omega), w64 (by omega) (by omega), show (i : Int) + 1 = ((i + 1 : Nat) : Int) by omega, ih (i + 1) k (by omega) (by omega)]
      congr 1; rw [decide_eq_decide, List.mem_cons]
      constructor
      · intro x; exact .inr x
      · rintro (x | x)
        · exact absurd x.symm h
        · exact x
theorem is_eq (a : Nat) {b : Nat} (hb0 : b ≠ 0) (hb : b < 18446744073709551616) {k : Nat} (hk : 70 ≤ k) : medlarref01_Is.f k (a : Int) (b : Int) = some (decide (Abv a b)) := by
  have h2 := log2_64 hb
  unfold medlarref01_Is.f
  rw [chain_eq k b hb0 hb (by omega)]; simp only [Option.bind_some]
  rw [ints_len]
  have := is_l a (chn b) (by rw [chn_len]; omega) (chn b).length 0 k (by omega) (by rw [chn_len]; omega)
  rw [show ((0 : Nat) : Int) = 0 by rfl] at this
  rw [this, List.drop_zero]
  congr 1; rw [decide_eq_decide, mem_chn hb0]
theorem rCheck8_eq (h : Int) {i j : Nat} (hi : i < 18446744073709551616) (hj : j < 18446744073709551616) {k : Nat} (hk : 70 ≤ k) :
    medlarref08_Check.f k h (i : Int) (j : Int) = some (if Sb h.toNat i j then 0 else 1) := by
  unfold medlarref08_Check.f
  rw [may_eq h i (by omega)]; simp only [Option.bind_some]
  by_cases h1 : Nd h.toNat i
  · rw [decide_eq_true h1, if_pos rfl]
    by_cases h0 : j = 0
    · rw [if_pos (by omega), if_pos ⟨h1, .inl h0⟩]
    · rw [if_neg (by omega), may_eq h j (by omega)]; simp only [Option.bind_some]
      by_cases h2 : Nd h.toNat j
      · rw [decide_eq_true h2, if_pos rfl]
        by_cases h3 : i = j
        · rw [if_pos (by omega), if_neg (fun z => z.2.elim h0 (fun y => y.2.1 h3))]
        · rw [if_neg (by omega), is_eq i h0 hj hk]; simp only [Option.bind_some]
          by_cases h4 : Abv i j
          · rw [decide_eq_true h4, if_pos rfl, if_pos ⟨h1, .inr ⟨h2, h3, h4⟩⟩]
          · rw [decide_eq_false h4, if_neg (by simp), if_neg (fun z => z.2.elim h0 (fun y => h4 y.2.2))]
      · rw [decide_eq_false h2, if_neg (by simp), if_neg (fun z => z.2.elim h0 (fun y => h2 y.1))]
  · rw [decide_eq_false h1, if_neg (by simp), if_neg (fun z => h1 z.1)]
theorem stepL8_eq : ∀ h : Fin 33, 1 ≤ h.val → medlarref08_Step.l0 8 (h.val : Int) 1 = some ((stp h.val : Int), 0) := by decide +kernel
theorem rStep_eq (h : Int) {k : Nat} (hk : 10 ≤ k) : medlarref08_Step.f k h = some (if Hi h then ((stp h.toNat : Int), 0) else (0, 1)) := by
  obtain ⟨k, rfl⟩ : ∃ m, k = m + 1 := ⟨k - 1, by omega⟩
  unfold medlarref08_Step.f
  by_cases h1 : Hi h
  · rw [if_pos h1]
    rw [hi_iff] at h1
    rw [if_neg (by omega)]; simp only [medlarref08_Step.j0]
    rw [decide_eq_false (by omega), if_neg (by simp)]
    have := stepL8_eq ⟨h.toNat, by omega⟩ (by show 1 ≤ h.toNat; omega)
    have e : ((h.toNat : Nat) : Int) = h := by omega
    simp only [e] at this
    exact at_rounds (g := fun k => medlarref08_Step.l0 k h 1) (fun k => (medlarref08_Step.mono_l k).2 _ _) (show 8 ≤ k by omega) this
  · rw [if_neg h1]
    rw [hi_iff] at h1
    by_cases h2 : h < 1
    · rw [if_pos h2]; simp only [medlarref08_Step.j0, if_true]
    · rw [if_neg h2]; simp only [medlarref08_Step.j0]; rw [decide_eq_true (by omega), if_pos rfl]
theorem special_eq {h : Nat} (h1 : 1 ≤ h) (h2 : h ≤ 32) (d : Nat) {k : Nat} (hk : 10 ≤ k) : medlarref08_special.f k (h : Int) (d : Int) = some (decide (Spc h d)) := by
  unfold medlarref08_special.f
  have hs := stp_pos h
  rw [rStep_eq _ hk, if_pos (by rw [hi_iff]; omega)]; simp only [Option.bind_some, Int.toNat_natCast]
  rw [if_neg (by omega), tmod_cast]
  by_cases c : d % stp h = 0
  · rw [if_pos (by omega), decide_eq_true (.inl c)]
  · rw [if_neg (by omega)]; congr 1
    by_cases e : d = h
    · rw [decide_eq_true (.inr e), e]; simp
    · rw [decide_eq_false (fun z => z.elim c e), beq_eq_false_iff_ne]; omega
theorem rdepth_eq {n : Nat} (h0 : n ≠ 0) (hn : n < 18446744073709551616) {k : Nat} (hk : 70 ≤ k) : medlarref08_depth.f k (n : Int) = some (n.log2 : Int) := by
  have := log2_64 hn
  unfold medlarref08_depth.f
  rw [chain_eq k n h0 hn (by omega)]; simp only [Option.bind_some]
  rw [ints_len, chn_len, w64 (by omega) (by omega)]; congr 1; omega
theorem next_all : ∀ h : Fin 33, ∀ i : Fin 33, 1 ≤ h.val → i.val < h.val → medlarref08_next.l0 20 (h.val : Int) ((i.val + 1 : Nat) : Int) = some (nxt h.val i.val : Int) := by decide +kernel
theorem rnext_eq {h i : Nat} (h1 : 1 ≤ h) (h2 : h ≤ 32) (hi : i < h) {k : Nat} (hk : 20 ≤ k) : medlarref08_next.f k (h : Int) (i : Int) = some (nxt h i : Int) := by
  unfold medlarref08_next.f
  have := next_all ⟨h, by omega⟩ ⟨i, by omega⟩ h1 hi
  simp only at this
  rw [w64 (by omega) (by omega), show (i : Int) + 1 = ((i + 1 : Nat) : Int) by omega]
  exact at_rounds (g := fun k => medlarref08_next.l0 k (h : Int) ((i + 1 : Nat) : Int)) (fun k => (medlarref08_next.mono_l k) _ _) hk this
theorem rUseful_eq (h : Int) {i j : Nat} (hi : i < 18446744073709551616) (hj : j < 18446744073709551616) {k : Nat} (hk : 70 ≤ k) :
    medlarref08_Useful.f k h (i : Int) (j : Int) = some (if Sb h.toNat i j then (decide (Usf h.toNat i j), 0) else (false, 1)) := by
  unfold medlarref08_Useful.f
  rw [rCheck8_eq h hi hj hk]; simp only [Option.bind_some]
  by_cases h1 : Sb h.toNat i j
  · have e := sb_h h1
    rw [if_pos h1, if_pos rfl, if_pos h1]
    by_cases h0 : j = 0
    · subst h0
      rw [if_pos (by rfl)]; congr 2
      by_cases c : i = 1
      · rw [decide_eq_true ((usf_0 _ _).2 c), c]; rfl
      · rw [decide_eq_false (fun z => c ((usf_0 _ _).1 z)), beq_eq_false_iff_ne]; omega
    · have hu := usf_j h.toNat i h0
      rw [if_neg (by omega), rdepth_eq h1.1.2.2.1 hi hk]; simp only [Option.bind_some]
      have hh := h1.1
      rw [nd_iff] at hh
      have hsp := special_eq (h := h.toNat) hh.1 hh.2.1 i.log2 (k := k) (by omega)
      rw [e] at hsp
      rw [hsp]; simp only [Option.bind_some]
      by_cases c : Spc h.toNat i.log2
      · rw [decide_eq_true c, if_pos rfl, decide_eq_true (hu.2 (.inl c))]
      · have hn := rnext_eq (h := h.toNat) (i := i.log2) hh.1 hh.2.1 (Nat.lt_of_le_of_ne hh.2.2.2 (fun z => c (.inr z))) (k := k) (by omega)
        rw [e] at hn
        rw [decide_eq_false c, if_neg (by simp), hn]; simp only [Option.bind_some]
        rw [rdepth_eq h0 hj hk]; simp only [Option.bind_some]
        congr 2; rw [decide_eq_decide, hu]
        constructor
        · intro z; right; omega
        · rintro (z | z)
          · exact absurd z c
          · omega
  · rw [if_neg h1, if_neg (by omega), if_neg h1]
instance decS : DecidableEq S24 := fun a b =>
  if h : a.f0 = b.f0 ∧ a.f1 = b.f1 then .isTrue (by obtain ⟨a0, a1⟩ := a; obtain ⟨b0, b1⟩ := b; obtain ⟨rfl, rfl⟩ := h; rfl) else .isFalse (fun e => h (by rw [e]; exact ⟨rfl, rfl⟩))
theorem same8_l (l m : List S24) (hl : l.length = m.length) (hb : l.length < 4611686018427387904) : ∀ (q i k : Nat), i + q = l.length → q < k →
    medlarref08_Same.l0 k l m (l.length : Int) (i : Int) = some (decide (l.drop i = m.drop i)) := by
  intro q
  induction q with
  | zero =>
    intro i k hi hk
    obtain ⟨k, rfl⟩ : ∃ m, k = m + 1 := ⟨k - 1, by omega⟩
    simp only [medlarref08_Same.l0]
    rw [if_neg (by omega), List.drop_of_length_le (by omega), List.drop_of_length_le (by omega)]; simp
  | succ q ih =>
    intro i k hi hk
    obtain ⟨k, rfl⟩ : ∃ m, k = m + 1 := ⟨k - 1, by omega⟩
    have r1 : rd_T24 l (i : Int) = l[i] := by unfold rd_T24; simp [List.getD_eq_getElem?_getD, show i < l.length by omega]
    have r2 : rd_T24 m (i : Int) = m[i] := by unfold rd_T24; simp [List.getD_eq_getElem?_getD, show i < m.length by omega]
    have d1 : l.drop i = l[i] :: l.drop (i + 1) := List.drop_eq_getElem_cons (by omega)
    have d2 : m.drop i = m[i] :: m.drop (i + 1) := List.drop_eq_getElem_cons (by omega)
    simp only [medlarref08_Same.l0]
    rw [if_pos (by omega), if_pos (by omega), if_pos (by omega), if_pos (by omega), r1, r2, w64 (by omega) (by omega), show (i : Int) + 1 = ((i + 1 : Nat) : Int) by omega, ih (i + 1) k (by omega) (by omega), d1, d2]
    generalize l[i] = x, m[i] = y
    obtain ⟨x0, x1⟩ := x
    obtain ⟨y0, y1⟩ := y
    by_cases e0 : x0 = y0 <;> by_cases e1 : x1 = y1 <;> simp [e0, e1]
theorem same8_eq (l m : List S24) (hb : l.length < 4611686018427387904) {k : Nat} (hk : l.length < k) : medlarref08_Same.f k l m = some (decide (l = m)) := by
  unfold medlarref08_Same.f
  by_cases h : l.length = m.length
  · rw [if_pos (by omega)]
    have := same8_l l m h hb l.length 0 k (by omega) hk
    simpa using this
  · rw [if_neg (by omega)]; congr 1; symm; rw [decide_eq_false_iff_not]; intro e; exact h (by rw [e])
theorem rLeaf_eq (h : Int) {p : Nat} (hp : p < 18446744073709551616) {k : Nat} (hk : 70 ≤ k) : medlarref01_Leaf.f k h (p : Int) = some (if Hi h then (if p < 2 ^ h.toNat then ((2 ^ h.toNat + p : Nat) : Int) else 0, if p < 2 ^ h.toNat then 0 else 4) else (0, 1)) := by
  obtain ⟨k, rfl⟩ : ∃ m, k = m + 1 := ⟨k - 1, by omega⟩
  unfold medlarref01_Leaf.f
  by_cases h1 : Hi h
  · have hh := h1
    rw [hi_iff] at hh
    have e : ((h.toNat : Nat) : Int) = h := by omega
    have pw := power_eq (d := h.toNat) (k := k) (by omega) (by omega)
    rw [e] at pw
    have hp2 : 2 ^ h.toNat ≤ 4294967296 := pow_mono (b := 32) (by omega)
    rw [if_neg (by omega)]; simp only [medlarref01_Leaf.j0]
    rw [decide_eq_false (by omega), if_neg (by simp), pw]; simp only [bnd]
    rw [if_pos h1]
    by_cases c : p < 2 ^ h.toNat
    · rw [if_neg (by omega), if_pos c, if_pos c, wu64 (by omega) (by omega)]; congr 2
    · rw [if_pos (by omega), if_neg c, if_neg c]
  · rw [if_neg h1]
    rw [hi_iff] at h1
    by_cases h2 : h < 1
    · rw [if_pos h2]; simp [medlarref01_Leaf.j0]
    · rw [if_neg h2]; simp only [medlarref01_Leaf.j0]; rw [decide_eq_true (by omega), if_pos rfl]
theorem rLeaves_l {H n : Nat} (d : Nd H n) : ∀ (m t k : Nat), n.log2 + t + m = H → m + 70 ≤ k →
    medlarref01_Leaves.l0 k (H : Int) ((n * 2 ^ t : Nat) : Int) (((n + 1) * 2 ^ t - 1 : Nat) : Int) = some ((lo H n : Int), (hi H n : Int), 0) := by
  have d32 := d.2.1
  have p33 : 2 ^ (H + 1) ≤ 8589934592 := pow_le_32 (by omega)
  have pH : 2 ^ H ≤ 4294967296 := pow_le_h d32
  have hlo := log2_lo d.2.2.1
  have hhi := log2_hi n
  intro m
  induction m with
  | zero =>
    intro t k ht hk
    obtain ⟨k, rfl⟩ : ∃ m, k = m + 1 := ⟨k - 1, by omega⟩
    have e : t = H - n.log2 := by omega
    have e1 : n * 2 ^ t = lf H n := by subst e; rfl
    have e2 : (n + 1) * 2 ^ t = rt H n := by subst e; rfl
    have g1 := lf_ge d.2.2.1 d.2.2.2
    have g2 := rt_le d.2.2.2
    have g3 := lf_lt_rt H n
    simp only [medlarref01_Leaves.l0]
    rw [power_eq (by omega) (by omega)]; simp only [bnd]
    rw [e1, e2, if_neg (by omega)]
    unfold lo hi
    rw [wu64 (by omega) (by omega), wu64 (by omega) (by omega)]
    rw [show (lf H n : Int) - ((2 ^ H : Nat) : Int) = ((lf H n - 2 ^ H : Nat) : Int) by omega, show ((rt H n - 1 : Nat) : Int) - ((2 ^ H : Nat) : Int) = ((rt H n - 1 - 2 ^ H : Nat) : Int) by omega]
  | succ m ih =>
    intro t k ht hk
    obtain ⟨k, rfl⟩ : ∃ m, k = m + 1 := ⟨k - 1, by omega⟩
    have hp := pow_pos2 t
    have b1 : (n + 1) * 2 ^ t ≤ 2 ^ (n.log2 + 1) * 2 ^ t := Nat.mul_le_mul_right _ hhi
    rw [← Nat.pow_add] at b1
    have b2 : 2 ^ (n.log2 + 1 + t) ≤ 2 ^ H := pow_mono (by omega)
    have c1 : n * 2 ^ t < 2 ^ H := by
      have : n * 2 ^ t < (n + 1) * 2 ^ t := by rw [Nat.add_mul]; omega
      omega
    have c2 : 0 < (n + 1) * 2 ^ t := Nat.mul_pos (by omega) hp
    have s1 : n * 2 ^ (t + 1) = 2 * (n * 2 ^ t) := by rw [Nat.pow_succ, ← Nat.mul_assoc, Nat.mul_comm]
    have s2 : (n + 1) * 2 ^ (t + 1) = 2 * ((n + 1) * 2 ^ t) := by rw [Nat.pow_succ, ← Nat.mul_assoc, Nat.mul_comm]
    have r := ih (t + 1) k (by omega) (by omega)
    rw [s1, s2] at r
    generalize n * 2 ^ t = A at *
    generalize (n + 1) * 2 ^ t = B at *
    simp only [medlarref01_Leaves.l0]
    rw [power_eq (by omega) (by omega)]; simp only [bnd]
    rw [if_pos (by omega), wu64 (x := 2 * (A : Int)) (by omega) (by omega), wu64 (x := 2 * ((B - 1 : Nat) : Int)) (by omega) (by omega), wu64 (by omega) (by omega)]
    rw [show 2 * (A : Int) = ((2 * A : Nat) : Int) by omega, show 2 * ((B - 1 : Nat) : Int) + 1 = ((2 * B - 1 : Nat) : Int) by omega]
    exact r
theorem rNLeaves_eq (h : Int) {n : Nat} (hn : n < 18446744073709551616) {k : Nat} (hk : 110 ≤ k) :
    medlarref01_Leaves.f k h (n : Int) = some (if Nd h.toNat n then ((lo h.toNat n : Int), (hi h.toNat n : Int), 0) else (0, 0, 1)) := by
  unfold medlarref01_Leaves.f
  rw [may_eq h n (by omega)]; simp only [bnd]
  by_cases h1 : Nd h.toNat n
  · have e : ((h.toNat : Nat) : Int) = h := by have := h1.1; omega
    have r := rLeaves_l h1 (h.toNat - n.log2) 0 k (by have := h1.2.2.2; omega) (by have := h1.2.1; omega)
    rw [e] at r
    simp only [Nat.pow_zero, Nat.mul_one, Nat.add_sub_cancel] at r
    rw [decide_eq_true h1, if_pos rfl, if_pos h1, r]
  · rw [decide_eq_false h1, if_neg (by simp), if_neg h1]
theorem rSLeaves_eq (h : Int) {i j : Nat} (hi' : i < 18446744073709551616) (hj : j < 18446744073709551616) {k : Nat} (hk : 110 ≤ k) :
    medlarref08_Leaves.f k h (i : Int) (j : Int) = some (if Sb h.toNat i j then (sps (spn h.toNat i j), 0) else ([], 1)) := by
  unfold medlarref08_Leaves.f
  rw [rCheck8_eq h hi' hj (by omega)]; simp only [bnd]
  by_cases h1 : Sb h.toNat i j
  · rw [if_pos h1, if_pos rfl, if_pos h1, rNLeaves_eq h hi' hk, if_pos h1.1]; simp only [bnd]
    by_cases h0 : j = 0
    · subst h0; rw [if_pos (by rfl)]; simp [spn, sps]
    · have dj := (h1.2.resolve_left h0).1
      have hp : 2 ^ h.toNat ≤ 4294967296 := pow_le_h (by have := h1.1.2.1; omega)
      have l1 := hi_lt h1.1
      have l2 := hi_lt dj
      have q2 := hi_eq dj
      have w2 := wd_pos h.toNat j
      rw [if_neg (by omega), rNLeaves_eq h hj hk, if_pos dj]; simp only [bnd]
      unfold spn; rw [if_neg h0]
      by_cases c1 : lo h.toNat i < lo h.toNat j
      · rw [if_pos (by omega), if_pos (by simp), if_pos c1]
        rw [wu64 (x := (lo h.toNat j : Int) - 1) (by omega) (by omega)]
        by_cases c2 : hi h.toNat j < hi h.toNat i
        · rw [if_pos (by omega), if_pos (by simp), if_pos c2, wu64 (by omega) (by omega)]
          simp [sps]; omega
        · rw [if_neg (by omega), if_neg c2]; simp [sps]; omega
      · rw [if_neg (by omega), if_neg c1]
        by_cases c2 : hi h.toNat j < hi h.toNat i
        · rw [if_pos (by omega), if_pos (by simp), if_pos c2, wu64 (by omega) (by omega)]; simp [sps]
        · rw [if_neg (by omega), if_neg c2]; rfl
  · rw [if_neg h1, if_neg (by simp), if_neg h1]
theorem rHas_eq (h : Int) {i j p : Nat} (hi' : i < 18446744073709551616) (hj : j < 18446744073709551616) (hp : p < 18446744073709551616) {k : Nat} (hk : 110 ≤ k) :
    medlarref08_Has.f k h (i : Int) (j : Int) (p : Int) = some (if Sb h.toNat i j ∧ Lfi h p then (decide (In h.toNat i j p), 0) else (false, 1)) := by
  obtain ⟨k, rfl⟩ : ∃ m, k = m + 1 := ⟨k - 1, by omega⟩
  unfold medlarref08_Has.f
  rw [rLeaf_eq h hp (by omega), rCheck8_eq h hi' hj (by omega)]; simp only [bnd]
  by_cases h1 : Sb h.toNat i j
  · rw [if_pos h1]; simp only [if_true]
    by_cases h2 : Lfi h p
    · have h2' := h2
      obtain ⟨hh, hpp⟩ := h2
      have h12 : Sb h.toNat i j ∧ Lfi h p := ⟨h1, h2'⟩
      have hp2 : 2 ^ h.toNat ≤ 4294967296 := pow_le_h (by have := h1.1.2.1; omega)
      have ne : 2 ^ h.toNat + p ≠ 0 := by omega
      rw [if_pos hh, if_pos hpp, if_pos hpp, if_pos h12]
      simp only [medlarref08_Has.j0]
      rw [if_neg (by simp), is_eq i ne (by omega) (by omega)]; simp only [bnd]
      have a1 := abv_lo_hi h1.1 hpp
      by_cases c1 : Abv i (2 ^ h.toNat + p)
      · rw [decide_eq_true c1, if_pos rfl]
        by_cases h0 : j = 0
        · subst h0
          rw [if_pos (by rfl), decide_eq_true (show In h.toNat i 0 p from ⟨a1.1 c1, .inl rfl⟩)]
        · have a2 := abv_lo_hi (h1.2.resolve_left h0).1 hpp
          rw [if_neg (by omega), is_eq j ne (by omega) (by omega)]; simp only [bnd]
          congr 2
          by_cases c2 : Abv j (2 ^ h.toNat + p)
          · rw [decide_eq_true c2, decide_eq_false (show ¬ In h.toNat i j p from fun z => z.2.elim h0 (fun y => y (a2.1 c2)))]; rfl
          · rw [decide_eq_false c2, decide_eq_true (show In h.toNat i j p from ⟨a1.1 c1, .inr (fun y => c2 (a2.2 y))⟩)]; rfl
      · rw [decide_eq_false c1, if_neg (by simp), decide_eq_false (show ¬ In h.toNat i j p from fun z => c1 (a1.2 z.1))]
    · have h3 : ¬ (Sb h.toNat i j ∧ Lfi h p) := fun z => h2 z.2
      rw [if_neg h3]
      rw [lfi_iff] at h2
      by_cases hh : Hi h
      · have : ¬ p < 2 ^ h.toNat := fun z => h2 ⟨hh, z⟩
        rw [if_pos hh, if_neg this, if_neg this]; simp [medlarref08_Has.j0]
      · rw [if_neg hh]; simp [medlarref08_Has.j0]
  · rw [if_neg h1]; simp [h1, medlarref08_Has.j0]
instance decSp : DecidableEq S69 := fun a b =>
  if h : a.f0 = b.f0 ∧ a.f1 = b.f1 then .isTrue (by obtain ⟨a0, a1⟩ := a; obtain ⟨b0, b1⟩ := b; obtain ⟨rfl, rfl⟩ := h; rfl) else .isFalse (fun e => h (by rw [e]; exact ⟨rfl, rfl⟩))
theorem rIs2_eq (h : Int) {p : Nat} (hp : p < 18446744073709551616) {k : Nat} (hk : 70 ≤ k) : medlarref02_Is.f k h (p : Int) = some (decide (Lfi h p)) := by
  unfold medlarref02_Is.f
  rw [rLeaf_eq h hp hk]; simp only [bnd]
  by_cases c1 : Hi h
  · rw [if_pos c1]
    by_cases c2 : p < 2 ^ h.toNat
    · rw [decide_eq_true (show Lfi h p from ⟨c1, c2⟩)]; simp [c2]
    · rw [decide_eq_false (show ¬ Lfi h p from fun z => c2 z.2)]; simp [c2]
  · rw [if_neg c1, decide_eq_false (show ¬ Lfi h p from fun z => c1 z.1)]; rfl
theorem rCheck1_eq (h : Int) (n : Nat) {k : Nat} (hk : 64 ≤ k) : medlarref01_Check.f k h (n : Int) = some (if Nd h.toNat n then 0 else 1) := by
  unfold medlarref01_Check.f
  rw [may_eq h n hk]; simp only [bnd]
  by_cases c : Nd h.toNat n <;> simp [c]
theorem rCheck2_l (h : Int) (hh : Hi h) (l : List Nat) (hb : ∀ x ∈ l, x < 18446744073709551616) (hn : l.length < 4611686018427387904) : ∀ (q i k : Nat), i + q = l.length → q + 71 ≤ k →
    medlarref02_Check.l0 k h (ints l) (ints l) (l.length : Int) (i : Int) = some (if okf h.toNat (bef l i) (l.drop i) = true then 0 else 1) := by
  intro q
  induction q with
  | zero =>
    intro i k hi hk
    obtain ⟨k, rfl⟩ : ∃ m, k = m + 1 := ⟨k - 1, by omega⟩
    rw [medlarref02_Check.l0, if_neg (by omega), List.drop_of_length_le (by omega)]; simp [okf]
  | succ q ih =>
    intro i k hi hk
    obtain ⟨k, rfl⟩ : ∃ m, k = m + 1 := ⟨k - 1, by omega⟩
    have d1 : l.drop i = l[i] :: l.drop (i + 1) := List.drop_eq_getElem_cons (by omega)
    have lb := hb l[i] (List.getElem_mem (by omega))
    have r := ih (i + 1) k (by omega) (by omega)
    rw [bef_succ (by omega)] at r
    rw [medlarref02_Check.l0, if_pos (by omega), if_pos (by omega), if_pos (by rw [ints_len]; omega), ints_rd (show i < l.length by omega), rIs2_eq h lb (by omega)]; simp only [bnd]
    rw [w64 (x := (i : Int) + 1) (by omega) (by omega), show (i : Int) + 1 = ((i + 1 : Nat) : Int) by omega, r, d1]
    by_cases c : l[i] < 2 ^ h.toNat
    · rw [decide_eq_true (show Lfi h l[i] from ⟨hh, c⟩), if_pos rfl]
      by_cases i0 : i = 0
      · subst i0
        rw [if_neg (by omega)]
        simp only [okf, bef, if_true, decide_eq_true c, Bool.true_and, Bool.and_true]
      · have ei : (i : Int) - 1 = ((i - 1 : Nat) : Int) := by omega
        rw [if_pos (by omega), w64 (x := (i : Int) - 1) (by omega) (by omega), ei, if_pos (by omega), if_pos (by rw [ints_len]; omega), ints_rd (show i - 1 < l.length by omega)]
        have eb : bef l i = some l[i - 1] := by unfold bef; rw [if_neg i0]; simp [show i - 1 < l.length by omega]
        rw [eb]
        by_cases g : l[i - 1] < l[i]
        · rw [if_neg (by omega)]
          simp only [okf, decide_eq_true c, decide_eq_true g, Bool.true_and, Bool.and_true]
        · rw [if_pos (by omega)]
          simp [okf, g]
    · rw [decide_eq_false (show ¬ Lfi h l[i] from fun z => c z.2), if_neg (by simp)]
      simp [okf, c]
theorem rCheck2_eq (h : Int) {l : List Nat} (hb : ∀ x ∈ l, x < 18446744073709551616) (hn : l.length < 4611686018427387904) {k : Nat} (hk : l.length + 80 ≤ k) :
    medlarref02_Check.f k h (ints l) = some (if Lst h l then 0 else 1) := by
  obtain ⟨k, rfl⟩ : ∃ m, k = m + 1 := ⟨k - 1, by omega⟩
  unfold medlarref02_Check.f
  have c1 := rCheck1_eq h 1 (k := k + 1) (by omega)
  rw [show ((1 : Nat) : Int) = 1 from rfl] at c1
  rw [c1]; simp only [bnd]
  by_cases hh : Hi h
  · rw [if_pos ((nd_root' h).2 hh), if_pos rfl, ints_len]
    simp only [medlarref02_Check.j0]
    by_cases c : l.length ≤ 1024
    · rw [decide_eq_false (by omega), if_neg (by simp), ints_len]
      have := rCheck2_l h hh l hb hn l.length 0 k (by omega) (by omega)
      rw [show ((0 : Nat) : Int) = 0 from rfl, List.drop_zero, show bef l 0 = none from rfl] at this
      rw [this]
      by_cases o : okf h.toNat none l = true
      · have o' := (okf_none _ _).1 o
        rw [if_pos o, if_pos (show Lst h l from ⟨hh, c, o'.1, o'.2⟩)]
      · rw [if_neg o, if_neg (show ¬ Lst h l from fun z => o ((okf_none _ _).2 ⟨z.2.2.1, z.2.2.2⟩))]
    · rw [decide_eq_true (by omega), if_pos rfl, if_neg (show ¬ Lst h l from fun z => c z.2.1)]
  · rw [if_neg (fun z => hh ((nd_root' h).1 z)), if_neg (by omega)]
    simp only [medlarref02_Check.j0, if_true]
    rw [if_neg (show ¬ Lst h l from fun z => hh z.1)]
def tl (h : Nat) (l : List Nat) : Nat → List Nat
  | 0 => []
  | r + 1 => lvl h l (h - r) ++ tl h l r
theorem rSch_eq (h s : Int) {k : Nat} (hk : 64 ≤ k) : medlarref12_scheme.f k h s = some (decide (Sch s ∧ Hi h)) := by
  unfold medlarref12_scheme.f
  have m := may_eq h 1 hk
  rw [show ((1 : Nat) : Int) = 1 from rfl] at m
  rw [m]; simp only [bnd]
  have e : Nd h.toNat 1 ↔ Hi h := nd_root' h
  by_cases c : Hi h
  · rw [decide_eq_true (e.2 c), if_pos rfl]
    by_cases s1 : s ≥ 1
    · rw [if_pos s1]
      congr 1
      rw [Bool.eq_iff_iff, decide_eq_true_iff, decide_eq_true_iff, sch_iff]
      constructor
      · intro z; exact ⟨⟨by omega, z⟩, c⟩
      · intro z; exact z.1.2
    · rw [if_neg s1, decide_eq_false]
      intro z
      rw [sch_iff] at z
      omega
  · rw [decide_eq_false (fun z => c (e.1 z)), if_neg (by simp), decide_eq_false (fun z => c z.2)]
theorem rLMay_eq (h s : Int) {i j : Nat} (hi' : i < 18446744073709551616) (hj : j < 18446744073709551616) {k : Nat} (hk : 72 ≤ k) :
    medlarref12_May.f k h s (i : Int) (j : Int) = some (if Sch s ∧ Sb h.toNat i j then (decide (May h.toNat s i j), 0) else (false, 1)) := by
  obtain ⟨k, rfl⟩ : ∃ m, k = m + 1 := ⟨k - 1, by omega⟩
  unfold medlarref12_May.f
  have ck := rSch_eq h s (k := k + 1) (by omega)
  have c8 := rCheck8_eq h hi' hj (k := k + 1) (by omega)
  have bad : medlarref12_May.j0 (k + 1) h s true (i : Int) (j : Int) = some (false, 1) := by rw [medlarref12_May.j0, if_pos rfl]
  by_cases c1 : Sch s ∧ Hi h
  · rw [decide_eq_true c1] at ck
    rw [ck]; simp only [bnd]
    rw [if_pos (by trivial), c8]; simp only [bnd]
    by_cases c2 : Sb h.toNat i j
    · have c3 : Sch s ∧ Sb h.toNat i j := ⟨c1.1, c2⟩
      rw [if_pos c2, if_pos c3, show ((0 : Int) != 0) = false from rfl, medlarref12_May.j0, if_neg (by simp)]
      by_cases e1 : s = 1
      · rw [if_pos e1]; congr 2
        rw [Bool.eq_iff_iff, beq_iff_eq, decide_eq_true_iff, may_iff]
        simp [e1]
      · rw [if_neg e1]
        by_cases e2 : s = 2
        · rw [if_pos e2]
          by_cases e3 : j = 0
          · subst e3
            rw [if_pos (by rfl)]; congr 2
            rw [Bool.eq_iff_iff, beq_iff_eq, decide_eq_true_iff, may_iff]
            simp [e2]; omega
          · rw [if_neg (by omega)]; congr 2
            symm; rw [decide_eq_true_iff, may_iff]
            simp [e2, e3]
        · rw [if_neg e2, rUseful_eq h hi' hj (by omega), if_pos c2]; simp only [bnd]
          congr 2
          rw [decide_eq_decide, may_iff]
          simp [e1, e2]
    · rw [if_neg c2, if_neg (fun z => c2 z.2), show ((1 : Int) != 0) = true from rfl, bad]
  · have c3 : ¬ (Sch s ∧ Sb h.toNat i j) := by
      rintro ⟨a, b⟩
      refine c1 ⟨a, ?_⟩
      have := b.1; rw [nd_iff] at this; rw [hi_iff]; omega
    rw [decide_eq_false c1] at ck
    rw [ck, if_neg c3]; simp only [bnd]
    rw [if_neg (by simp), bad]
theorem other_eq (h : Int) {n : Nat} (d : Nd h.toNat n) (n2 : 2 ≤ n) {k : Nat} (hk : 64 ≤ k) : medlarref01_Other.f k h (n : Int) = some ((sib n : Int), 0) := by
  have lt := d.lt33
  unfold medlarref01_Other.f
  rw [may_eq h n hk, decide_eq_true d]; simp only [bnd]
  rw [if_pos (by trivial), if_neg (by omega), sib_eq, Int.tmod_eq_emod_of_nonneg (by omega)]
  by_cases c : n % 2 = 0
  · rw [if_pos (by omega), if_pos c, wu64 (by omega) (by omega)]; rfl
  · rw [if_neg (by omega), if_neg c, wu64 (by omega) (by omega)]
    congr 2; omega
theorem rfit_eq (h s : Int) {i j : Nat} (hi' : i < 18446744073709551616) (hj : j < 18446744073709551616) {k : Nat} (hk : 72 ≤ k) : medlarref23_may.f k h s (i : Int) (j : Int) = some (decide (Fit h.toNat s i j)) := by
  unfold medlarref23_may.f
  rw [rLMay_eq h s hi' hj hk]; simp only [bnd]
  by_cases s3 : s = 3
  · rw [if_pos s3, decide_eq_false (fun z => by have := z.1; omega)]
  · rw [if_neg s3]
    by_cases c : Sch s ∧ Sb h.toNat i j
    · rw [if_pos c]; dsimp only
      rw [if_pos (by trivial)]
      congr 1
      rw [decide_eq_decide]
      rw [sch_iff] at c
      exact ⟨fun z => ⟨by omega, c.2, z⟩, fun z => z.2.2⟩
    · rw [if_neg c]; dsimp only
      rw [if_neg (by omega), decide_eq_false (fun z => c ⟨by rw [sch_iff]; have := z.1; omega, z.2.1⟩)]
theorem ronly_eq (h : Int) {i j : Nat} (hi' : i < 18446744073709551616) (hj : j < 18446744073709551616) {k : Nat} (hk : 110 ≤ k) (s : Sb h.toNat i j) : medlarref23_only.f k h (i : Int) (j : Int) = some ((lof h.toNat i j : Int), decide (tot (spn h.toNat i j) = 1)) := by
  unfold medlarref23_only.f
  rw [rSLeaves_eq h hi' hj hk, if_pos s]; simp only [bnd]
  rw [sps_len]
  have o := spn_one s
  have li := lof_in s
  rw [← mem_spn s] at li
  unfold lof
  generalize spn h.toNat i j = x at *
  match x with
  | [] => simp at li
  | [(a, b)] =>
    have r : rd_T69 (sps [(a, b)]) 0 = ⟨(a : Int), (b : Int)⟩ := rfl
    rw [if_pos (by simp), if_pos (by simp), r]; dsimp only
    simp only [List.length_cons, List.length_nil, List.headD_cons] at o ⊢
    congr 2
    by_cases e : a = b
    · rw [decide_eq_true (o.1 ⟨trivial, e⟩), e]; simp
    · rw [decide_eq_false (fun z => e (o.2 z).2), beq_eq_false_iff_ne]; omega
  | p :: q :: t =>
    have r := rdT_sps (l := p :: q :: t) (i := 0) (by simp)
    rw [show ((0 : Nat) : Int) = 0 from rfl] at r
    rw [if_pos (by simp only [List.length_cons]; omega), if_neg (by simp only [List.length_cons]; omega), r, decide_eq_false (by rw [← o]; simp)]
    rfl
theorem rHalves_eq (h s : Int) {i j : Nat} (hi' : i < 18446744073709551616) (hj : j < 18446744073709551616) {k : Nat} (hk : 110 ≤ k) :
    medlarref23_Halves.f k h s (i : Int) (j : Int) = some (if Fit h.toNat s i j then (if tot (spn h.toNat i j) = 1 then ([], 4) else (sbs [hva s i j, hvb s i j], 0)) else ([], 1)) := by
  unfold medlarref23_Halves.f
  rw [rfit_eq h s hi' hj (by omega)]; simp only [bnd]
  by_cases f : Fit h.toNat s i j
  · rw [decide_eq_true f, if_pos rfl, if_pos f, ronly_eq h hi' hj (by omega) f.2.1]; simp only [bnd]
    by_cases t : tot (spn h.toNat i j) = 1
    · rw [if_pos t, decide_eq_true t, if_pos rfl]
    · obtain ⟨fa, fb, _, _, _⟩ := hv f t
      have sa := fa.2.1.1.lt33
      have sb := fb.2.1.1.lt33
      have di := f.2.1.1
      have li := di.lt33
      rw [if_neg t, decide_eq_false t, if_neg (by simp)]
      have wi : IntKind.u64.wrap (2 * (i : Int)) = ((2 * i : Nat) : Int) := by rw [wu64 (by omega) (by omega)]; omega
      have wi2 : IntKind.u64.wrap (((2 * i : Nat) : Int) + 1) = ((2 * i + 1 : Nat) : Int) := by rw [wu64 (by omega) (by omega)]; omega
      rw [wi, wi2]
      rcases fit_may f with ⟨rfl, rfl⟩ | ⟨rfl, fj⟩
      · rw [if_pos rfl]; rfl
      · rw [if_neg (by omega)]
        by_cases j0 : j = 0
        · subst j0
          have i1 : i = 1 := fj.resolve_left (by omega)
          subst i1
          rw [if_pos (by omega)]; rfl
        · obtain ⟨dj, ne, ab⟩ := f.2.1.2.resolve_left j0
          have lij : i.log2 < j.log2 := by
            rcases Nat.lt_or_ge i.log2 j.log2 with z | z
            · exact z
            · exact absurd (ab.eq_of_log2 (by have := ab.1; omega)) ne
          have lc := anc_log2 dj.2.2.1 (show i.log2 + 1 ≤ j.log2 by omega)
          have ac := abv_anc dj.2.2.1 (show i.log2 + 1 ≤ j.log2 by omega)
          obtain ⟨la, lb⟩ := log2_dbl di.2.2.1
          have fin : ∀ c : Nat, c = anc j (i.log2 + 1) → (if (c : Int) = (j : Int) then ((medlarref01_Other.f k h (c : Int)).bind fun bt388 => (some ((([(⟨bt388.1, IntKind.u64.wrap (2 * bt388.1)⟩ : S24), (⟨bt388.1, IntKind.u64.wrap ((IntKind.u64.wrap (2 * bt388.1)) + 1)⟩ : S24)] : List (S24))), (0 : Int)))) else (some ((([(⟨(i : Int), (c : Int)⟩ : S24), (⟨(c : Int), (j : Int)⟩ : S24)] : List (S24))), 0))) = some (sbs [hva 2 i j, hvb 2 i j], 0) := by
            intro c hc
            by_cases e : anc j (i.log2 + 1) = j
            · have ea : hva 2 i j = (sib j, 2 * sib j) := by unfold hva; rw [if_neg (by omega), if_neg j0, if_pos e]
              have eb : hvb 2 i j = (sib j, 2 * sib j + 1) := by unfold hvb; rw [if_neg (by omega), if_neg j0, if_pos e]
              rw [ea] at sa ⊢
              rw [eb] at sb ⊢
              dsimp only at sa sb
              have j2 : 2 ≤ j := by
                have := log2_lo dj.2.2.1
                have := pow_mono (show 1 ≤ j.log2 by omega)
                omega
              have w1 : IntKind.u64.wrap (2 * (sib j : Int)) = ((2 * sib j : Nat) : Int) := by rw [wu64 (by omega) (by omega)]; omega
              have w2 : IntKind.u64.wrap (((2 * sib j : Nat) : Int) + 1) = ((2 * sib j + 1 : Nat) : Int) := by rw [wu64 (by omega) (by omega)]; omega
              rw [hc, e, if_pos rfl, other_eq h dj j2 (by omega)]; simp only [bnd]
              rw [w1, w2]; rfl
            · have ea : hva 2 i j = (i, anc j (i.log2 + 1)) := by unfold hva; rw [if_neg (by omega), if_neg j0, if_neg e]
              have eb : hvb 2 i j = (anc j (i.log2 + 1), j) := by unfold hvb; rw [if_neg (by omega), if_neg j0, if_neg e]
              rw [hc, if_neg (by omega), ea, eb]; rfl
          rw [if_neg (by omega), is_eq (2 * i) dj.2.2.1 hj (by omega)]; simp only [bnd]
          by_cases z : Abv (2 * i) j
          · have e : 2 * i = anc j (i.log2 + 1) := by
              have := z.2; rw [la] at this; exact this.symm
            rw [decide_eq_true z, if_pos rfl]
            exact fin (2 * i) e
          · have z' : Abv (2 * i + 1) j := (abv_child dj.2.2.1 ab lij).resolve_left z
            have e : 2 * i + 1 = anc j (i.log2 + 1) := by
              have := z'.2; rw [lb] at this; exact this.symm
            rw [decide_eq_false z, if_neg (by simp)]
            exact fin (2 * i + 1) e
  · rw [decide_eq_false f, if_neg (by simp), if_neg f]
theorem rAsk_l1 {h : Int} {T : List Nat} (c : Lst h T) (hT : T.length ≤ 20) (S : List Bool) {l : List (Nat × Nat)} (hl : l.length ≤ 60) (hs : ∀ q ∈ l, Sb h.toNat q.1 q.2) :
    ∀ (q t k : Nat), t + q = l.length → q * 25 + 150 ≤ k →
    medlarref23_Ask.l1 k h (sbs l) (l.length : Int) (t : Int) false (ints T) S = some ((l.drop t).any fun q => T.any fun t => decide (In h.toNat q.1 q.2 t), 0) := by
  have hlf : ∀ t ∈ T, t < 18446744073709551616 ∧ Lfi h t := fun t ht => by
    have a := c.2.2.1 t ht
    have := pow_le_h (h := h.toNat) (by have := c.1; rw [hi_iff] at this; omega)
    exact ⟨by omega, c.1, a⟩
  intro q
  induction q with
  | zero =>
    intro t k ht hk
    obtain ⟨k, rfl⟩ : ∃ m, k = m + 1 := ⟨k - 1, by omega⟩
    rw [medlarref23_Ask.l1, if_neg (by omega), List.drop_of_length_le (by omega)]; rfl
  | succ q ih =>
    intro t k ht hk
    have tl : t < l.length := by omega
    have sb := hs _ (List.getElem_mem tl)
    have b := sb_lt sb
    have inner : ∀ (r u k : Nat), u + r = T.length → q * 25 + 151 + r ≤ k →
        medlarref23_Ask.l2 k h (sbs l) (l.length : Int) (t : Int) (ints T) (T.length : Int) (u : Int) false (ints T) S (l[t].1 : Int) (l[t].2 : Int) = some (((T.drop u).any fun t' => decide (In h.toNat l[t].1 l[t].2 t')) || ((l.drop (t + 1)).any fun q => T.any fun t => decide (In h.toNat q.1 q.2 t)), 0) := by
      intro r
      induction r with
      | zero =>
        intro u k hu hk
        obtain ⟨k, rfl⟩ : ∃ m, k = m + 1 := ⟨k - 1, by omega⟩
        rw [medlarref23_Ask.l2, if_neg (by omega), w64 (by omega) (by omega), show (t : Int) + 1 = ((t + 1 : Nat) : Int) by omega, ih (t + 1) k (by omega) (by omega), List.drop_of_length_le (show T.length ≤ u by omega)]; rfl
      | succ r ihr =>
        intro u k hu hk
        obtain ⟨k, rfl⟩ : ∃ m, k = m + 1 := ⟨k - 1, by omega⟩
        have uT : u < T.length := by omega
        obtain ⟨t1, t2⟩ := hlf _ (List.getElem_mem uT)
        have zz : Sb h.toNat l[t].1 l[t].2 ∧ Lfi h T[u] := ⟨sb, t2⟩
        rw [medlarref23_Ask.l2, if_pos (by omega), if_pos (by omega), if_pos (by rw [ints_len]; omega), ints_rd uT, rHas_eq h b.1 b.2 t1 (k := k) (by omega), if_pos zz]; simp only [bnd]
        rw [List.drop_eq_getElem_cons uT, List.any_cons]
        by_cases d : In h.toNat l[t].1 l[t].2 T[u]
        · rw [decide_eq_true d, if_pos rfl]; rfl
        · rw [decide_eq_false d, if_neg (by simp), w64 (by omega) (by omega), show (u : Int) + 1 = ((u + 1 : Nat) : Int) by omega, ihr (u + 1) k (by omega) (by omega), Bool.false_or]
    obtain ⟨k, rfl⟩ : ∃ m, k = m + 1 := ⟨k - 1, by omega⟩
    rw [medlarref23_Ask.l1, if_pos (by omega), if_pos (by omega), if_pos (by rw [sbs_len]; omega), rdT_sbs tl, ints_len]
    have := inner T.length 0 k (by omega) (by omega)
    rw [show ((0 : Nat) : Int) = 0 from rfl, List.drop_zero] at this
    dsimp only
    rw [this, List.drop_eq_getElem_cons tl, List.any_cons]
theorem rAsk_eq (h : Int) (pl : Bool) {T : List Nat} (hb : ∀ x ∈ T, x < 18446744073709551616) (hT : T.length ≤ 20) (S : List Bool) (n : Int) {l : List (Nat × Nat)} (bl : Bdd l) (hl : l.length ≤ 60) {k : Nat} (hk : 1800 ≤ k) :
    medlarref23_Ask.f k h pl (ints T) S n (sbs l) = some (if Lst h T ∧ 0 ≤ n ∧ ∀ q ∈ l, Sb h.toNat q.1 q.2 then (asks pl h.toNat T S n.toNat l, 0) else (false, 1)) := by
  obtain ⟨k, rfl⟩ : ∃ m, k = m + 1 := ⟨k - 1, by omega⟩
  unfold medlarref23_Ask.f
  rw [rCheck2_eq h hb (by omega) (k := k + 1) (by omega)]; simp only [bnd]
  by_cases c : Lst h T
  · rw [if_pos c, if_pos (by trivial), medlarref23_Ask.j0]
    by_cases c1 : n < 0
    · rw [decide_eq_true c1, if_pos rfl, if_neg (fun z => by omega)]
    · obtain ⟨n, rfl⟩ : ∃ m : Nat, n = (m : Int) := ⟨n.toNat, by omega⟩
      rw [decide_eq_false c1, if_neg (by simp), sbs_len, Int.toNat_natCast]
      have chk : ∀ (q t k : Nat), t + q = l.length → q + 1700 ≤ k → (∀ r ∈ l.take t, Sb h.toNat r.1 r.2) →
          medlarref23_Ask.l0 k h (n : Int) (sbs l) (sbs l) (l.length : Int) (t : Int) pl (ints T) S = some (if Lst h T ∧ 0 ≤ (n : Int) ∧ ∀ q ∈ l, Sb h.toNat q.1 q.2 then (asks pl h.toNat T S n l, 0) else (false, 1)) := by
        intro q
        induction q with
        | zero =>
          intro t k ht hk hs
          obtain ⟨k, rfl⟩ : ∃ m, k = m + 1 := ⟨k - 1, by omega⟩
          rw [List.take_of_length_le (by omega)] at hs
          have pp : Lst h T ∧ 0 ≤ (n : Int) ∧ ∀ q ∈ l, Sb h.toNat q.1 q.2 := ⟨c, by omega, hs⟩
          rw [medlarref23_Ask.l0, if_neg (by omega), if_pos pp]
          unfold asks
          cases pl with
          | true =>
            rw [if_pos rfl, if_pos rfl]
            by_cases c3 : (n : Int) < (S.length : Int)
            · rw [if_pos c3, if_pos (by omega), rdOf_getD]
            · rw [if_neg c3, List.getD_eq_getElem?_getD, List.getElem?_eq_none (by omega)]; rfl
          | false =>
            have := rAsk_l1 c hT S hl hs l.length 0 k (by omega) (by omega)
            rw [show ((0 : Nat) : Int) = 0 from rfl, List.drop_zero] at this
            rw [if_neg (by simp), if_neg (by simp), sbs_len, this]
            congr 2
            rw [Bool.eq_iff_iff]
            simp only [List.any_eq_true, decide_eq_true_eq]
            exact ⟨fun ⟨q, hq, t, ht, z⟩ => ⟨t, ht, q, hq, z⟩, fun ⟨t, ht, q, hq, z⟩ => ⟨q, hq, t, ht, z⟩⟩
        | succ q ih =>
          intro t k ht hk hs
          obtain ⟨k, rfl⟩ : ∃ m, k = m + 1 := ⟨k - 1, by omega⟩
          have tl : t < l.length := by omega
          have b := bl _ (List.getElem_mem tl)
          rw [medlarref23_Ask.l0, if_pos (by omega), if_pos (by omega), if_pos (by rw [sbs_len]; omega), rdT_sbs tl]
          dsimp only
          rw [rCheck8_eq h b.1 b.2 (k := k) (by omega)]; simp only [bnd]
          by_cases d : Sb h.toNat l[t].1 l[t].2
          · rw [if_pos d, if_pos (by trivial), w64 (by omega) (by omega), show (t : Int) + 1 = ((t + 1 : Nat) : Int) by omega]
            refine ih (t + 1) k (by omega) (by omega) (fun r hr => ?_)
            rw [List.take_succ_eq_append_getElem tl] at hr
            rcases List.mem_append.1 hr with hr | hr
            · exact hs r hr
            · rw [List.mem_singleton.1 hr]; exact d
          · rw [if_neg d, if_neg (by omega), if_neg (fun z => d (z.2.2 _ (List.getElem_mem tl)))]
      have := chk l.length 0 k (by omega) (by omega) (by simp)
      rw [show ((0 : Nat) : Int) = 0 from rfl] at this
      exact this
  · rw [if_neg c, if_neg (by omega), medlarref23_Ask.j0, if_pos rfl, if_neg (fun z => c z.1)]
theorem rTBound_l (h : Int) (hh : 1 ≤ h ∧ h ≤ 32) : ∀ (m n k c : Nat), n < 2 ^ m → n ≤ 32768 → c + m ≤ 100 → m < k → medlarref23_Bound.l0 k h (c : Int) (n : Int) = some (((2 * h.toNat + (c + sz n) + 3 : Nat) : Int), 0) := by
  have z0 : sz 0 = 0 := rfl
  intro m
  induction m with
  | zero =>
    intro n k c hn hn2 hc hk
    obtain ⟨k, rfl⟩ : ∃ m, k = m + 1 := ⟨k - 1, by omega⟩
    have n0 : n = 0 := by simpa using hn
    subst n0
    rw [medlarref23_Bound.l0, if_neg (by omega), w64 (x := 2 * h) (by omega) (by omega), w64 (x := 2 * h + (c : Int)) (by omega) (by omega), w64 (by omega) (by omega), z0]
    congr 2; omega
  | succ m ih =>
    intro n k c hn hn2 hc hk
    obtain ⟨k, rfl⟩ : ∃ m, k = m + 1 := ⟨k - 1, by omega⟩
    rw [Nat.pow_succ] at hn
    rw [medlarref23_Bound.l0]
    by_cases d : n = 0
    · subst d
      rw [if_neg (by omega), w64 (x := 2 * h) (by omega) (by omega), w64 (x := 2 * h + (c : Int)) (by omega) (by omega), w64 (by omega) (by omega), z0]
      congr 2; omega
    · have e := sz_half (x := n) (by omega)
      have lt : n / 2 < 2 ^ m := by omega
      have b1 : n / 2 ≤ 32768 := by clear lt hn ih; omega
      have b2 : c + 1 + m ≤ 100 := by clear lt hn ih; omega
      have b3 : m < k := by clear lt hn ih; omega
      clear hn
      have wn : wrap64 (Int.tdiv (n : Int) 2) = ((n / 2 : Nat) : Int) := by
        rw [Int.tdiv_eq_ediv_of_nonneg (by omega), w64 (by omega) (by omega)]; omega
      rw [if_pos (by omega), w64 (x := (c : Int) + 1) (by omega) (by omega), wn, show (c : Int) + 1 = ((c + 1 : Nat) : Int) by omega, ih (n / 2) k (c + 1) lt b1 b2 b3]
      clear lt ih
      congr 3; omega
theorem rTBound_eq (h n : Int) {k : Nat} (hk : 100 ≤ k) : medlarref23_Bound.f k h n = some (if Hi h ∧ 1 ≤ n ∧ n ≤ 32768 then ((2 * h.toNat + sz n.toNat + 3 : Nat) : Int) else 0, if Hi h ∧ 1 ≤ n ∧ n ≤ 32768 then 0 else 1) := by
  obtain ⟨k, rfl⟩ : ∃ m, k = m + 1 := ⟨k - 1, by omega⟩
  unfold medlarref23_Bound.f
  have c1 := rCheck1_eq h 1 (k := k + 1) (by omega)
  rw [show ((1 : Nat) : Int) = 1 from rfl] at c1
  rw [c1]; simp only [bnd]
  by_cases hh : Hi h
  · rw [if_pos ((nd_root' h).2 hh), if_pos (by trivial)]
    have h2 := hh
    rw [hi_iff] at h2
    by_cases a : n < 1
    · rw [if_pos a, medlarref23_Bound.j0, if_pos rfl, if_neg (fun z => by omega), if_neg (fun z => by omega)]
    · rw [if_neg a, medlarref23_Bound.j0]
      by_cases b : n > 32768
      · rw [decide_eq_true b, if_pos rfl, if_neg (fun z => by omega), if_neg (fun z => by omega)]
      · obtain ⟨m, rfl⟩ : ∃ m : Nat, n = (m : Int) := ⟨n.toNat, by omega⟩
        have r := rTBound_l h h2 16 m k 0 (by omega) (by omega) (by omega) (by omega)
        rw [show ((0 : Nat) : Int) = 0 from rfl, Nat.zero_add] at r
        rw [decide_eq_false b, if_neg (by simp), r, if_pos ⟨hh, by omega, by omega⟩, if_pos ⟨hh, by omega, by omega⟩, Int.toNat_natCast]
  · rw [if_neg (fun z => hh ((nd_root' h).1 z)), if_neg (by omega), medlarref23_Bound.j0, if_pos rfl, if_neg (fun z => hh z.1), if_neg (fun z => hh z.1)]
theorem ryes_eq (h : Int) (pl : Bool) {T : List Nat} (c : Lst h T) (hT : T.length ≤ 20) (S : List Bool) (n : Nat) {l : List (Nat × Nat)} (hs : ∀ q ∈ l, Sb h.toNat q.1 q.2) (hl : l.length ≤ 60) {k : Nat} (hk : 1800 ≤ k) :
    medlarref23_Ask.f k h pl (ints T) S (n : Int) (sbs l) = some (asks pl h.toNat T S n l, 0) := by
  have hb : ∀ x ∈ T, x < 18446744073709551616 := fun x hx => by have := c.2.2.1 x hx; have := pow_le_h (h := h.toNat) (by have := c.1; rw [hi_iff] at this; omega); omega
  rw [rAsk_eq h pl hb hT S n (bdd_sb hs) hl hk, if_pos ⟨c, by omega, hs⟩, Int.toNat_natCast]
theorem rd_eq (h : Int) {s : Int} (pl : Bool) {T : List Nat} (c : Lst h T) (hT : T.length ≤ 20) (S : List Bool) : ∀ (m n k : Nat) (q : Nat × Nat), Fit h.toNat s q.1 q.2 → msr h.toNat s q ≤ m → n + msr h.toNat s q ≤ 2000000 → m + 1801 ≤ k →
    medlarref23_Trace.l2 k h s (n : Int) pl (ints T) S (q.1 : Int) (q.2 : Int) = some (true, ((dsc (asks pl h.toNat T S) h.toNat s m n q).1 : Int), ((dsc (asks pl h.toNat T S) h.toNat s m n q).2 : Int), 0) := by
  have fin : ∀ (n : Nat) (q : Nat × Nat) (k : Nat), Fit h.toNat s q.1 q.2 → tot (spn h.toNat q.1 q.2) = 1 → 1800 ≤ k → medlarref23_Trace.l2 (k + 1) h s (n : Int) pl (ints T) S (q.1 : Int) (q.2 : Int) = some (true, (lof h.toNat q.1 q.2 : Int), (n : Int), 0) := by
    intro n q k f t hk
    have b := sb_lt f.2.1
    rw [medlarref23_Trace.l2, rHalves_eq h s b.1 b.2 (by omega), if_pos f, if_pos t]; simp only [bnd]
    rw [if_neg (by omega), ronly_eq h b.1 b.2 (by omega) f.2.1]; simp only [bnd]
  intro m
  induction m with
  | zero =>
    intro n k q f h1 h2 hk
    obtain ⟨k, rfl⟩ : ∃ m, k = m + 1 := ⟨k - 1, by omega⟩
    by_cases t : tot (spn h.toNat q.1 q.2) = 1
    · rw [fin n q k f t (by omega), dsc]
    · exact absurd (hv f t).2.2.2.1 (by show ¬ msr h.toNat s _ < msr h.toNat s q; omega)
  | succ m ih =>
    intro n k q f h1 h2 hk
    obtain ⟨k, rfl⟩ : ∃ m, k = m + 1 := ⟨k - 1, by omega⟩
    by_cases t : tot (spn h.toNat q.1 q.2) = 1
    · rw [fin n q k f t (by omega), dsc, if_pos t]
    · obtain ⟨fa, fb, hl, la, lb⟩ := hv f t
      replace la : msr h.toNat s (hva s q.1 q.2) < msr h.toNat s q := la
      replace lb : msr h.toNat s (hvb s q.1 q.2) < msr h.toNat s q := lb
      have b := sb_lt f.2.1
      have r0 := rdT_sbs (l := [hva s q.1 q.2, hvb s q.1 q.2]) (i := 0) (by simp)
      have r1 := rdT_sbs (l := [hva s q.1 q.2, hvb s q.1 q.2]) (i := 1) (by simp)
      rw [show ((0 : Nat) : Int) = 0 from rfl] at r0
      rw [show ((1 : Nat) : Int) = 1 from rfl] at r1
      have ye := ryes_eq h pl c hT S n (l := [hva s q.1 q.2]) (fun r hr => by rw [List.mem_singleton.1 hr]; exact fa.2.1) (by simp) (k := k) (by omega)
      rw [medlarref23_Trace.l2, rHalves_eq h s b.1 b.2 (by omega), if_pos f, if_neg t]; simp only [bnd]
      rw [if_pos (by trivial), sbs_len, if_pos (by simp), show (sbs [hva s q.1 q.2, hvb s q.1 q.2]).take 1 = sbs [hva s q.1 q.2] from rfl, ye]; simp only [bnd]
      rw [if_pos (by simp), r0, r1]
      simp only [List.getElem_cons_zero, List.getElem_cons_succ]
      rw [w64 (by omega) (by omega), show (n : Int) + 1 = ((n + 1 : Nat) : Int) by omega, dsc, if_neg t]
      by_cases y : asks pl h.toNat T S n [hva s q.1 q.2] = true
      · rw [if_pos y, if_pos y, if_pos (by simp)]; exact ih _ _ _ fa (by omega) (by omega) (by omega)
      · rw [if_neg y, if_neg y]; exact ih _ _ _ fb (by omega) (by omega) (by omega)
theorem rgap_eq (h : Int) {s : Int} (pl : Bool) {T : List Nat} (c : Lst h T) (hT : T.length ≤ 20) (S : List Bool) {l : List (Nat × Nat)} (f : ∀ q ∈ l, Fit h.toNat s q.1 q.2) (hl : l.length ≤ 60) (hh : h.toNat ≤ 32) : ∀ (m n lo hi k : Nat), lo < hi → hi - lo ≤ m + 1 → hi ≤ l.length → n + (hi - lo) ≤ 1000 → m + 1900 ≤ k →
    medlarref23_Trace.l1 k h s (sbs l) (n : Int) (lo : Int) (hi : Int) pl (ints T) S = some (true, ((dsc (asks pl h.toNat T S) h.toNat s (2 * h.toNat + 1) (gap (asks pl h.toNat T S) l m n lo hi).2 (l.getD (gap (asks pl h.toNat T S) l m n lo hi).1 (0, 0))).1 : Int), ((dsc (asks pl h.toNat T S) h.toNat s (2 * h.toNat + 1) (gap (asks pl h.toNat T S) l m n lo hi).2 (l.getD (gap (asks pl h.toNat T S) l m n lo hi).1 (0, 0))).2 : Int), 0) := by
  have fin : ∀ (n lo hi k : Nat), lo < hi → hi - lo ≤ 1 → hi ≤ l.length → n ≤ 1000 → 1890 ≤ k → medlarref23_Trace.l1 (k + 1) h s (sbs l) (n : Int) (lo : Int) (hi : Int) pl (ints T) S = some (true, ((dsc (asks pl h.toNat T S) h.toNat s (2 * h.toNat + 1) n (l.getD lo (0, 0))).1 : Int), ((dsc (asks pl h.toNat T S) h.toNat s (2 * h.toNat + 1) n (l.getD lo (0, 0))).2 : Int), 0) := by
    intro n lo hi k h0 h1 h2 h3 hk
    have ll : lo < l.length := by omega
    have er : l.getD lo (0, 0) = l[lo] := by simp [List.getD, ll]
    have fq := f _ (List.getElem_mem ll)
    have m1 := msr_le h.toNat s l[lo]
    rw [medlarref23_Trace.l1, w64 (by omega) (by omega), if_neg (by omega), if_pos (by omega), if_pos (by rw [sbs_len]; omega), rdT_sbs ll, er]
    exact rd_eq h pl c hT S (2 * h.toNat + 1) n k l[lo] fq m1 (by omega) (by omega)
  intro m
  induction m with
  | zero =>
    intro n lo hi k h0 h1 h2 h3 hk
    obtain ⟨k, rfl⟩ : ∃ m, k = m + 1 := ⟨k - 1, by omega⟩
    rw [gap]; exact fin n lo hi k h0 (by omega) h2 (by omega) (by omega)
  | succ m ih =>
    intro n lo hi k h0 h1 h2 h3 hk
    obtain ⟨k, rfl⟩ : ∃ m, k = m + 1 := ⟨k - 1, by omega⟩
    rw [gap]
    by_cases d : 1 < hi - lo
    · have wn : wrap64 (Int.tdiv (wrap64 ((lo : Int) + (hi : Int))) 2) = (((lo + hi) / 2 : Nat) : Int) := by
        rw [w64 (x := (lo : Int) + hi) (by omega) (by omega), Int.tdiv_eq_ediv_of_nonneg (by omega), w64 (by omega) (by omega)]; omega
      rw [medlarref23_Trace.l1, w64 (x := (hi : Int) - lo) (by omega) (by omega), if_pos (by omega), wn, if_pos (by omega), if_pos (by rw [sbs_len]; omega), if_pos d, Int.toNat_natCast, sbs_drop, ryes_eq h pl c hT S n (fun q hq => (f q (List.mem_of_mem_drop hq)).2.1) (by rw [List.length_drop]; omega) (k := k) (by omega)]; simp only [bnd]
      rw [w64 (by omega) (by omega), show (n : Int) + 1 = ((n + 1 : Nat) : Int) by omega]
      by_cases y : asks pl h.toNat T S n (l.drop ((lo + hi) / 2)) = true
      · rw [if_pos y, if_pos y]; exact ih _ _ _ _ (by omega) (by omega) (by omega) (by omega) (by omega)
      · rw [if_neg y, if_neg y]; exact ih _ _ _ _ (by omega) (by omega) (by omega) (by omega) (by omega)
    · rw [if_neg d]; exact fin n lo hi k h0 (by omega) h2 (by omega) (by omega)
theorem rTrace_eq (h s : Int) (pl : Bool) {T : List Nat} (hb : ∀ x ∈ T, x < 18446744073709551616) (hT : T.length ≤ 20) (S : List Bool) {l : List (Nat × Nat)} (bl : Bdd l) (hl : l.length ≤ 60) {k : Nat} (hk : 2200 ≤ k) :
    medlarref23_Trace.f k h s (sbs l) pl (ints T) S = some (if Trc h s T l then vrd (asks pl h.toNat T S) h.toNat s l else (false, 0, 0, 1)) := by
  obtain ⟨k, rfl⟩ : ∃ m, k = m + 1 := ⟨k - 1, by omega⟩
  unfold medlarref23_Trace.f
  rw [rCheck2_eq h hb (by omega) (k := k + 1) (by omega)]; simp only [bnd]
  by_cases c : Lst h T
  · rw [if_pos c, if_pos (by trivial), sbs_len]
    have hh := c.1
    rw [hi_iff] at hh
    by_cases c1 : l.length < 1
    · rw [if_pos (by omega), medlarref23_Trace.j0, if_pos rfl, if_neg (fun z => by have := z.2.1; omega)]
    · rw [if_neg (by omega), medlarref23_Trace.j0, decide_eq_false (by omega), if_neg (by simp), sbs_len]
      have chk : ∀ (q t k : Nat), t + q = l.length → q + 2100 ≤ k → (∀ r ∈ l.take t, Fit h.toNat s r.1 r.2) →
          medlarref23_Trace.l0 k h s (sbs l) (sbs l) (l.length : Int) (t : Int) pl (ints T) S = some (if Trc h s T l then vrd (asks pl h.toNat T S) h.toNat s l else (false, 0, 0, 1)) := by
        intro q
        induction q with
        | zero =>
          intro t k ht hk hs
          obtain ⟨k, rfl⟩ : ∃ m, k = m + 1 := ⟨k - 1, by omega⟩
          rw [List.take_of_length_le (by omega)] at hs
          have pp : Trc h s T l := ⟨c, by omega, by omega, hs⟩
          have sbs' : ∀ q ∈ l, Sb h.toNat q.1 q.2 := fun q hq => (hs q hq).2.1
          have y0 := ryes_eq h pl c hT S 0 sbs' hl (k := k) (by omega)
          have y1 := ryes_eq h pl c hT S 1 (l := []) (by simp) (by simp) (k := k) (by omega)
          rw [show ((0 : Nat) : Int) = 0 from rfl] at y0
          rw [show ((1 : Nat) : Int) = 1 from rfl, show sbs [] = [] from rfl] at y1
          rw [medlarref23_Trace.l0, if_neg (by omega), if_pos pp, y0]; simp only [bnd]
          unfold vrd
          by_cases d0 : asks pl h.toNat T S 0 l = true
          · rw [if_pos d0, if_pos d0, y1]; simp only [bnd]
            by_cases d1 : asks pl h.toNat T S 1 [] = true
            · rw [if_pos d1, if_pos d1]
            · have ge := rgap_eq h pl c hT S hs hl (by omega) l.length 2 0 l.length k (by omega) (by omega) (by omega) (by omega) (by omega)
              rw [show ((2 : Nat) : Int) = 2 from rfl, show ((0 : Nat) : Int) = 0 from rfl] at ge
              rw [if_neg d1, if_neg d1, sbs_len, ge]; rfl
          · rw [if_neg d0, if_neg d0]
        | succ q ih =>
          intro t k ht hk hs
          obtain ⟨k, rfl⟩ : ∃ m, k = m + 1 := ⟨k - 1, by omega⟩
          have tl : t < l.length := by omega
          have b := bl _ (List.getElem_mem tl)
          rw [medlarref23_Trace.l0, if_pos (by omega), if_pos (by omega), if_pos (by rw [sbs_len]; omega), rdT_sbs tl]
          dsimp only
          rw [rfit_eq h s b.1 b.2 (k := k) (by omega)]; simp only [bnd]
          by_cases d : Fit h.toNat s l[t].1 l[t].2
          · rw [decide_eq_true d, if_pos rfl, w64 (by omega) (by omega), show (t : Int) + 1 = ((t + 1 : Nat) : Int) by omega]
            refine ih (t + 1) k (by omega) (by omega) (fun r hr => ?_)
            rw [List.take_succ_eq_append_getElem tl] at hr
            rcases List.mem_append.1 hr with hr | hr
            · exact hs r hr
            · rw [List.mem_singleton.1 hr]; exact d
          · rw [decide_eq_false d, if_neg (by simp), if_neg (fun z => d (z.2.2.2 _ (List.getElem_mem tl)))]
      have := chk l.length 0 k (by omega) (by omega) (by simp)
      rw [show ((0 : Nat) : Int) = 0 from rfl] at this
      exact this
  · have out : medlarref23_Trace.j0 (k + 1) h s (sbs l) true pl (ints T) S = some (false, 0, 0, 1) := by rw [medlarref23_Trace.j0, if_pos rfl]
    rw [if_neg c, if_neg (by omega), out, if_neg (fun z => c z.1)]
theorem live23' : medlarlaw23_live.f 40 = some true := by decide +kernel
theorem live23 {k : Nat} (hk : 40 ≤ k) : medlarlaw23_live.f k = some true := at_rounds (g := fun k => medlarlaw23_live.f k) medlarlaw23_live.mono hk live23'
end Go.Proofs.Ytnbiddloiiljjaa.Med
