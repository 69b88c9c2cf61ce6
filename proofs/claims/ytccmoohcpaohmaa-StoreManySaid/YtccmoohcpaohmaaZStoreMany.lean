/- Plain facts that the proof of StoreMany needs. -/
import Derived.Test.YtccmoohcpaohmaaK0
import Derived.Laws.Bits64b
import Derived.Laws.Bits64
import Derived.Test.YtccmoohcpaohmaaMPx0
import Derived.Test.YtccmoohcpaohmaaMPx10
import Derived.Test.YtccmoohcpaohmaaMPx11
import Derived.Test.YtccmoohcpaohmaaMPx2
import Derived.Test.YtccmoohcpaohmaaMPx24
import Derived.Test.YtccmoohcpaohmaaMPx27
import Derived.Test.YtccmoohcpaohmaaMPx8
set_option linter.unusedVariables false
set_option linter.unusedSimpArgs false
set_option linter.unusedSectionVars false
namespace Go.Proofs.Ytccmoohcpaohmaa.Med
open Go.RowKit Go.Proofs.YtccmoohcpaohmaaW.PrintWords Go.Proofs.YtccmoohcpaohmaaW.PrintMore Go.Proofs.Ytccmoohcpaohmaa.MP
/-- As Option.bind_some, but no rfl lemma: the kernel then unfolds nothing. -/
theorem bnd {α β : Type} (a : α) (f : α → Option β) : (some a).bind f = f a := by
  have h := Option.bind_some a f
  exact h
theorem w64 {x : Int} (h0 : -9223372036854775808 ≤ x) (h1 : x ≤ 9223372036854775807) : wrap64 x = x := by unfold wrap64; omega
theorem wu64 {x : Int} (h0 : 0 ≤ x) (h1 : x < 18446744073709551616) : IntKind.u64.wrap x = x := by
  have : IntKind.u64.wrap x = x % 18446744073709551616 := by rfl
  omega
theorem wf_u64 {x : Int} (h : (Lit.int .u64 x).wf = true) : ∃ n : Nat, x = (n : Int) ∧ n < 18446744073709551616 := by
  have h0 : IntKind.u64.min = 0 := by decide
  have h1 : IntKind.u64.max = 18446744073709551615 := by decide
  simp [Lit.wf, h0, h1] at h
  exact ⟨x.toNat, by omega, by omega⟩
theorem log2_iff {n d : Nat} (hn : n ≠ 0) : n.log2 = d ↔ 2 ^ d ≤ n ∧ n < 2 ^ (d + 1) := Nat.log2_eq_iff hn
theorem log2_lo {n : Nat} (hn : n ≠ 0) : 2 ^ n.log2 ≤ n := Nat.log2_self_le hn
theorem log2_hi (n : Nat) : n < 2 ^ (n.log2 + 1) := Nat.lt_log2_self
theorem log2_one : Nat.log2 1 = 0 := by decide
theorem pow_pos2 (k : Nat) : 0 < 2 ^ k := Nat.two_pow_pos k
theorem pow_split {a b : Nat} (h : a ≤ b) : 2 ^ b = 2 ^ a * 2 ^ (b - a) := by rw [← Nat.pow_add]; congr 1; omega
theorem pow_mono {a b : Nat} (h : a ≤ b) : 2 ^ a ≤ 2 ^ b := Nat.pow_le_pow_right (by omega) h
theorem pow_le_32 {d : Nat} (h : d ≤ 33) : 2 ^ d ≤ 8589934592 := pow_mono (b := 33) h
theorem log2_div {n k : Nat} (hn : n ≠ 0) (hk : k ≤ n.log2) : (n / 2 ^ k).log2 = n.log2 - k ∧ n / 2 ^ k ≠ 0 := by
  have h1 := log2_lo hn
  have h2 := log2_hi n
  have hp := pow_pos2 k
  rw [pow_split hk] at h1
  have e : n.log2 + 1 = k + (n.log2 - k + 1) := by omega
  rw [e, Nat.pow_add] at h2
  have g1 : 2 ^ (n.log2 - k) ≤ n / 2 ^ k := (Nat.le_div_iff_mul_le hp).2 (by rw [Nat.mul_comm]; exact h1)
  have g2 : n / 2 ^ k < 2 ^ (n.log2 - k + 1) := Nat.div_lt_of_lt_mul h2
  have g3 : n / 2 ^ k ≠ 0 := by have := pow_pos2 (n.log2 - k); omega
  exact ⟨(log2_iff g3).2 ⟨g1, g2⟩, g3⟩
/-- The node above n, of depth d. -/
def anc (n d : Nat) : Nat := n / 2 ^ (n.log2 - d)
theorem anc_log2 {n d : Nat} (hn : n ≠ 0) (hd : d ≤ n.log2) : (anc n d).log2 = d := by
  have := (log2_div hn (k := n.log2 - d) (by omega)).1
  unfold anc; omega
theorem anc_ne {n d : Nat} (hn : n ≠ 0) : anc n d ≠ 0 := (log2_div hn (k := n.log2 - d) (by omega)).2
theorem anc_le (n d : Nat) : anc n d ≤ n := Nat.div_le_self _ _
theorem anc_zero {n : Nat} (hn : n ≠ 0) : anc n 0 = 1 := by
  have h := anc_log2 hn (Nat.zero_le _)
  have h0 := anc_ne (d := 0) hn
  have := (log2_iff h0).1 h
  omega
theorem anc_anc {n d e : Nat} (hn : n ≠ 0) (hd : d ≤ n.log2) (he : e ≤ d) : anc (anc n d) e = anc n e := by
  unfold anc
  rw [show (n / 2 ^ (n.log2 - d)).log2 = d from anc_log2 hn hd, Nat.div_div_eq_div_mul, ← Nat.pow_add]
  congr 2; omega
/-- a is above b. -/
def Abv (a b : Nat) : Prop := a.log2 ≤ b.log2 ∧ anc b a.log2 = a
instance (a b : Nat) : Decidable (Abv a b) := inferInstanceAs (Decidable (_ ∧ _))
theorem Abv.trans {a b c : Nat} (hc : c ≠ 0) (h : Abv a b) (k : Abv b c) : Abv a c := by
  refine ⟨Nat.le_trans h.1 k.1, ?_⟩
  rw [← anc_anc hc k.1 h.1, k.2]; exact h.2
theorem abv_anc {n d : Nat} (hn : n ≠ 0) (hd : d ≤ n.log2) : Abv (anc n d) n := by
  unfold Abv; rw [anc_log2 hn hd]; exact ⟨hd, rfl⟩
theorem abv_root {n : Nat} (hn : n ≠ 0) : Abv 1 n := ⟨by rw [log2_one]; omega, by rw [log2_one]; exact anc_zero hn⟩
def rt (h n : Nat) : Nat := (n + 1) * 2 ^ (h - n.log2)
theorem leaf_log2 {h x : Nat} (h0 : 2 ^ h ≤ x) (h1 : x < 2 ^ (h + 1)) : x.log2 = h := by
  have : x ≠ 0 := by have := pow_pos2 h; omega
  exact (log2_iff this).2 ⟨h0, h1⟩
theorem log2_half {n : Nat} (h : 2 ≤ n) : (n / 2).log2 + 1 = n.log2 := by
  have h1 : 1 ≤ n.log2 := (Nat.le_log2 (by omega)).2 (by simpa using h)
  have := (log2_div (n := n) (k := 1) (by omega) h1).1
  rw [Nat.pow_one] at this; omega
/-- How many binary digits. -/
def sz (n : Nat) : Nat := if n = 0 then 0 else n.log2 + 1
theorem sz_div {n k : Nat} (h : 2 ^ k ≤ n) : sz n = sz (n / 2 ^ k) + k := by
  have hp := pow_pos2 k
  have hn : n ≠ 0 := by omega
  have hk : k ≤ n.log2 := (Nat.le_log2 hn).2 h
  obtain ⟨a, b⟩ := log2_div hn hk
  unfold sz; rw [if_neg hn, if_neg b, a]; omega
theorem sz_le {n k : Nat} (h : n < 2 ^ k) : sz n ≤ k := by
  unfold sz; split
  · omega
  · rename_i hn; have := (Nat.log2_lt hn).2 h; omega
theorem log2_64 {n : Nat} (hn : n < 18446744073709551616) : n.log2 < 64 := by
  by_cases h : n = 0
  · subst h; decide
  · exact (Nat.log2_lt h).2 hn
/-- There is such a node. -/
def Nd (h n : Nat) : Prop := 1 ≤ h ∧ h ≤ 32 ∧ n ≠ 0 ∧ n.log2 ≤ h
instance (h n : Nat) : Decidable (Nd h n) := inferInstanceAs (Decidable (_ ∧ _))
theorem Nd.lt {h n : Nat} (d : Nd h n) : n < 2 ^ (h + 1) := Nat.lt_of_lt_of_le (log2_hi n) (pow_mono (by have := d.2.2.2; omega))
theorem Nd.lt33 {h n : Nat} (d : Nd h n) : n < 8589934592 := Nat.lt_of_lt_of_le d.lt (pow_le_32 (by have := d.2.1; omega))
theorem nd_root {h : Nat} : Nd h 1 ↔ 1 ≤ h ∧ h ≤ 32 := by unfold Nd; rw [log2_one]; omega
/-- There is such a height. -/
def Hi (h : Int) : Prop := 1 ≤ h ∧ h ≤ 32
instance (h : Int) : Decidable (Hi h) := inferInstanceAs (Decidable (_ ∧ _))
theorem hi_iff (h : Int) : Hi h ↔ 1 ≤ h ∧ h ≤ 32 := Iff.rfl
theorem nd_iff (h n : Nat) : Nd h n ↔ 1 ≤ h ∧ h ≤ 32 ∧ n ≠ 0 ∧ n.log2 ≤ h := Iff.rfl
/-- A subset may be. -/
def Sb (h i j : Nat) : Prop := Nd h i ∧ (j = 0 ∨ (Nd h j ∧ i ≠ j ∧ Abv i j))
instance (h i j : Nat) : Decidable (Sb h i j) := inferInstanceAs (Decidable (_ ∧ _))
/-- A height's step. -/
def stp (h : Nat) : Nat := if h ≤ 1 then 1 else if h ≤ 4 then 2 else if h ≤ 9 then 3 else if h ≤ 16 then 4 else if h ≤ 25 then 5 else 6
theorem stp_pos (h : Nat) : 1 ≤ stp h ∧ stp h ≤ 6 := by unfold stp; constructor <;> (repeat' split) <;> omega
theorem root_lt : (1 : Nat) < 18446744073709551616 := by omega
theorem nd_root' (h : Int) : Nd h.toNat 1 ↔ Hi h := by rw [nd_root, hi_iff]; omega
/-- The least special depth above one; which ones are special. -/
def nxt (h i : Nat) : Nat := min ((i / stp h + 1) * stp h) h
def Spc (h i : Nat) : Prop := i % stp h = 0 ∨ i = h
instance (h i : Nat) : Decidable (Spc h i) := inferInstanceAs (Decidable (_ ∨ _))
theorem spc_iff (h i : Nat) : Spc h i ↔ i % stp h = 0 ∨ i = h := Iff.rfl
theorem tmod_cast (i s : Nat) : Int.tmod (i : Int) (s : Int) = ((i % s : Nat) : Int) := by rw [Int.tmod_eq_emod_of_nonneg (by omega)]; rfl
/-- Is it useful? -/
def Usf (h i j : Nat) : Prop := (j = 0 ∧ i = 1) ∨ (j ≠ 0 ∧ (Spc h i.log2 ∨ j.log2 ≤ nxt h i.log2))
instance (h i j : Nat) : Decidable (Usf h i j) := inferInstanceAs (Decidable (_ ∨ _))
theorem usf_iff (h i j : Nat) : Usf h i j ↔ (j = 0 ∧ i = 1) ∨ (j ≠ 0 ∧ (Spc h i.log2 ∨ j.log2 ≤ nxt h i.log2)) := Iff.rfl
theorem usf_0 (h i : Nat) : Usf h i 0 ↔ i = 1 := by rw [usf_iff]; simp
theorem usf_j (h i : Nat) {j : Nat} (h0 : j ≠ 0) : Usf h i j ↔ (Spc h i.log2 ∨ j.log2 ≤ nxt h i.log2) := by rw [usf_iff]; simp [h0]
theorem sb_h {h : Int} {i j : Nat} (s : Sb h.toNat i j) : ((h.toNat : Nat) : Int) = h := by have := s.1.1; omega
def hi (h n : Nat) : Nat := rt h n - 1 - 2 ^ h
theorem pow_le_h {h : Nat} (hh : h ≤ 32) : 2 ^ h ≤ 4294967296 := pow_mono (b := 32) hh
/-- Spans stand in order, apart from each other, each of leaves. -/
def Rise (m : Nat) : Nat → List (Nat × Nat) → Prop
  | _, [] => True
  | from_, x :: l => from_ ≤ x.1 ∧ x.1 ≤ x.2 ∧ x.2 < m ∧ Rise m (x.2 + 1) l
theorem Rise.mono {m : Nat} {l : List (Nat × Nat)} {a b : Nat} (h : Rise m a l) (hb : b ≤ a) : Rise m b l := by
  cases l with
  | nil => trivial
  | cons x l => exact ⟨Nat.le_trans hb h.1, h.2⟩
def tot : List (Nat × Nat) → Nat
  | [] => 0
  | x :: l => (x.2 - x.1 + 1) + tot l
theorem sb_lt {h i j : Nat} (s : Sb h i j) : i < 18446744073709551616 ∧ j < 18446744073709551616 := by
  refine ⟨by have := s.1.lt33; omega, ?_⟩
  rcases s.2 with z | z
  · omega
  · have := z.1.lt33; omega
/-- There is such a leaf. -/
def Lfi (h : Int) (p : Nat) : Prop := Hi h ∧ p < 2 ^ h.toNat
instance (h : Int) (p : Nat) : Decidable (Lfi h p) := inferInstanceAs (Decidable (_ ∧ _))
/-- What rises, rises from each place on. -/
theorem Rise.at {m : Nat} : ∀ {l : List (Nat × Nat)} {a i : Nat} (h : Rise m a l) (hi : i < l.length), l[i].1 ≤ l[i].2 ∧ l[i].2 < m ∧ a ≤ l[i].1 ∧ (∀ (h0 : 0 < i), l[i - 1].2 < l[i].1) ∧ Rise m (l[i].2 + 1) (l.drop (i + 1))
  | [], _, _, _, hi => by simp at hi
  | x :: l, a, 0, r, _ => by
    obtain ⟨r1, r2, r3, r4⟩ := r
    simp only [List.getElem_cons_zero, List.drop_succ_cons, List.drop_zero]
    exact ⟨r2, r3, r1, fun h => absurd h (by omega), r4⟩
  | x :: l, a, i + 1, r, hi => by
    obtain ⟨r1, r2, r3, r4⟩ := r
    have hi' : i < l.length := by simpa using hi
    obtain ⟨p1, p2, p3, p4, p5⟩ := Rise.at r4 hi'
    simp only [List.getElem_cons_succ, List.drop_succ_cons]
    refine ⟨p1, p2, by omega, fun _ => ?_, p5⟩
    cases i with
    | zero => simp; omega
    | succ i => simpa using p4 (by omega)
/-- There is such a scheme. -/
def Sch (s : Int) : Prop := 1 ≤ s ∧ s ≤ 3
instance (s : Int) : Decidable (Sch s) := inferInstanceAs (Decidable (_ ∧ _))
theorem sch_iff (s : Int) : Sch s ↔ 1 ≤ s ∧ s ≤ 3 := Iff.rfl
/-- A subset may be of a scheme. -/
def May (h : Nat) (s : Int) (i j : Nat) : Prop := (s = 1 ∧ j = 0) ∨ (s = 2 ∧ (j ≠ 0 ∨ i = 1)) ∨ (s ≠ 1 ∧ s ≠ 2 ∧ Usf h i j)
instance (h : Nat) (s : Int) (i j : Nat) : Decidable (May h s i j) := inferInstanceAs (Decidable (_ ∨ _))
theorem may_iff (h : Nat) (s : Int) (i j : Nat) : May h s i j ↔ (s = 1 ∧ j = 0) ∨ (s = 2 ∧ (j ≠ 0 ∨ i = 1)) ∨ (s ≠ 1 ∧ s ≠ 2 ∧ Usf h i j) := Iff.rfl
/-- How many useful ones are beside the way to a leaf. -/
def lpn (h : Nat) : Nat := ((List.range h).map fun i => if i % stp h = 0 then h - i else nxt h i - i).sum
theorem lpn_all : ∀ h : Fin 33, 1 ≤ h.val → h.val ≤ lpn h.val ∧ 2 * lpn h.val ≤ h.val * (h.val + 1) ∧ (stp h.val ≤ 1 → 2 * lpn h.val = h.val * (h.val + 1)) := by decide +kernel
/-- How many pairs a leaf has. -/
def pmn (h : Nat) (s : Int) : Nat := if s = 1 then h + 1 else if s = 2 then h * (h + 1) / 2 + 1 else lpn h + 1
theorem pmn_le {h : Nat} (h1 : 1 ≤ h) (h2 : h ≤ 32) (s : Int) : pmn h s ≤ 529 := by
  have := lpn_all ⟨h, by omega⟩ h1
  simp only at this
  have h3 : h * (h + 1) ≤ 32 * 33 := Nat.mul_le_mul (by omega) (by omega)
  unfold pmn
  split
  · omega
  · split <;> omega
/-- The other one below the one above. -/
def sib (n : Nat) : Nat := n ^^^ 1
theorem sib_eq (n : Nat) : sib n = if n % 2 = 0 then n + 1 else n - 1 := by
  unfold sib
  have h1 : (n ^^^ 1) / 2 = n / 2 := by rw [Nat.xor_div_two]; simp
  have h2 : (n ^^^ 1) % 2 = (n + 1) % 2 := by
    have h3 : (n ^^^ 1) % 2 ^ 1 = n % 2 ^ 1 ^^^ 1 % 2 ^ 1 := Nat.xor_mod_two_pow
    rw [Nat.pow_one] at h3
    rw [h3]
    rcases Nat.mod_two_eq_zero_or_one n with z | z
    · rw [z]; have : (0 ^^^ 1 % 2 : Nat) = 1 := by decide
      omega
    · rw [z]; have : (1 ^^^ 1 % 2 : Nat) = 0 := by decide
      omega
  split <;> omega
theorem sib_half (n : Nat) : sib n / 2 = n / 2 := by rw [sib_eq]; split <;> omega
theorem sib_ne (n : Nat) : sib n ≠ n := by rw [sib_eq]; split <;> omega
theorem sib_pos {n : Nat} (h : 2 ≤ n) : 2 ≤ sib n := by rw [sib_eq]; split <;> omega
theorem sib_log2 {n : Nat} (h : 2 ≤ n) : (sib n).log2 = n.log2 := by
  have h1 := log2_half h
  have h2 := log2_half (sib_pos h)
  rw [sib_half] at h2; omega
theorem anc_half {n d : Nat} (h : 2 ≤ n) (hd : d < n.log2) : anc n d = anc (n / 2) d := by
  have h1 := log2_half h
  unfold anc
  rw [show n.log2 - d = 1 + ((n / 2).log2 - d) by omega, Nat.pow_add, Nat.pow_one, Nat.div_div_eq_div_mul]
theorem anc_sib {n d : Nat} (h : 2 ≤ n) (hd : d < n.log2) : anc (sib n) d = anc n d := by
  rw [anc_half h hd, anc_half (sib_pos h) (by rw [sib_log2 h]; exact hd), sib_half]
theorem anc_two {x e : Nat} (hx : x ≠ 0) (h1 : 1 ≤ e) (h2 : e ≤ x.log2) : 2 ≤ anc x e := by
  have h := anc_log2 hx h2
  have h0 := anc_ne (d := e) hx
  have := (log2_iff h0).1 h
  have := pow_mono h1
  omega
/-- The pair of a leaf's way, from depth t down to e's other one. -/
theorem pair_sb {h x t e : Nat} (hh : 1 ≤ h ∧ h ≤ 32) (hx : x ≠ 0) (hl : x.log2 = h) (ht : t < e) (he : e ≤ h) :
    Sb h (anc x t) (sib (anc x e)) ∧ Abv (anc x t) x ∧ ¬ Abv (sib (anc x e)) x ∧ sib (anc x e) ≠ 0 ∧ (anc x t).log2 = t ∧ (sib (anc x e)).log2 = e := by
  have l1 := anc_log2 hx (show t ≤ x.log2 by omega)
  have l2 := anc_log2 hx (show e ≤ x.log2 by omega)
  have n1 := anc_ne (d := t) hx
  have n2 := anc_two hx (show 1 ≤ e by omega) (by omega)
  have n3 := sib_pos n2
  have l3 := sib_log2 n2
  have s0 : sib (anc x e) ≠ 0 := by omega
  refine ⟨⟨⟨hh.1, hh.2, n1, by omega⟩, .inr ⟨⟨hh.1, hh.2, s0, by omega⟩, fun z => ?_, by omega, ?_⟩⟩, abv_anc hx (by omega), ?_, s0, l1, by omega⟩
  · rw [← z] at l3; omega
  · rw [l1, anc_sib n2 (by omega), anc_anc hx (by omega) (by omega)]
  · rintro ⟨_, z⟩
    rw [l3, l2] at z
    exact sib_ne _ z.symm
def okp (h : Nat) (s : Int) (i j : Nat) : Bool := decide (s ≠ 3) || decide (Usf h i j)
def inl (h : Nat) (s : Int) (x t : Nat) : Nat → Nat → List (Nat × Nat)
  | _, 0 => []
  | e, m + 1 => (if okp h s (anc x t) (sib (anc x e)) = true then [(anc x t, sib (anc x e))] else []) ++ inl h s x t (e + 1) m
def outl (h : Nat) (s : Int) (x : Nat) : Nat → Nat → List (Nat × Nat)
  | _, 0 => []
  | t, m + 1 => inl h s x t (t + 1) (h - t) ++ outl h s x (t + 1) m
def prs (h : Nat) (s : Int) (x : Nat) : List (Nat × Nat) := if s = 1 then (List.range (h + 1)).map fun d => (anc x d, 0) else (1, 0) :: outl h s x 0 h
theorem mem_inl {h : Nat} {s : Int} {x t : Nat} {p : Nat × Nat} : ∀ {m e : Nat}, p ∈ inl h s x t e m ↔ ∃ d, e ≤ d ∧ d < e + m ∧ p = (anc x t, sib (anc x d)) ∧ okp h s (anc x t) (sib (anc x d)) = true
  | 0, e => by simp [inl]; omega
  | m + 1, e => by
    rw [inl, List.mem_append, mem_inl (m := m)]
    constructor
    · rintro (z | ⟨d, h1, h2, h3⟩)
      · split at z
        · rename_i c
          simp only [List.mem_singleton] at z
          exact ⟨e, Nat.le_refl _, by omega, z, c⟩
        · simp at z
      · exact ⟨d, by omega, by omega, h3⟩
    · rintro ⟨d, h1, h2, h3, h4⟩
      by_cases c : d = e
      · subst c; left; rw [if_pos h4]; simp [h3]
      · right; exact ⟨d, by omega, by omega, h3, h4⟩
theorem mem_outl {h : Nat} {s : Int} {x : Nat} {p : Nat × Nat} : ∀ {m t : Nat}, t + m = h → (p ∈ outl h s x t m ↔ ∃ q d, t ≤ q ∧ q < d ∧ d ≤ h ∧ p = (anc x q, sib (anc x d)) ∧ okp h s (anc x q) (sib (anc x d)) = true)
  | 0, t, ht => by simp [outl]; omega
  | m + 1, t, ht => by
    rw [outl, List.mem_append, mem_inl, mem_outl (m := m) (by omega)]
    constructor
    · rintro (⟨d, h1, h2, h3, h4⟩ | ⟨q, d, h1, h2, h3, h4⟩)
      · exact ⟨t, d, Nat.le_refl _, by omega, by omega, h3, h4⟩
      · exact ⟨q, d, by omega, h2, h3, h4⟩
    · rintro ⟨q, d, h1, h2, h3, h4⟩
      by_cases c : q = t
      · subst c; left; exact ⟨d, by omega, by omega, h4⟩
      · right; exact ⟨q, d, by omega, h2, h3, h4⟩
theorem inl_len {h : Nat} {s : Int} {x t : Nat} : ∀ {m e : Nat}, (inl h s x t e m).length ≤ m
  | 0, e => by simp [inl]
  | m + 1, e => by
    rw [inl, List.length_append]
    have := inl_len (h := h) (s := s) (x := x) (t := t) (m := m) (e := e + 1)
    split <;> simp <;> omega
theorem outl_len {h : Nat} {s : Int} {x : Nat} : ∀ {m t : Nat}, (outl h s x t m).length ≤ m * h
  | 0, t => by simp [outl]
  | m + 1, t => by
    rw [outl, List.length_append, Nat.add_mul, Nat.one_mul]
    have := outl_len (h := h) (s := s) (x := x) (m := m) (t := t + 1)
    have := inl_len (h := h) (s := s) (x := x) (t := t) (m := h - t) (e := t + 1)
    omega
theorem prs_len {h : Nat} (hh : h ≤ 32) (s : Int) (x : Nat) : (prs h s x).length ≤ 1025 := by
  unfold prs
  split
  · simp; omega
  · have := outl_len (h := h) (s := s) (x := x) (m := h) (t := 0)
    have : h * h ≤ 32 * 32 := Nat.mul_le_mul hh hh
    simp only [List.length_cons]; omega
/-- All pairs of a leaf: the leaf is in each, and each may be of the scheme. -/
theorem prs_mem {H x : Nat} {s : Int} (hs : Sch s) (hh : 1 ≤ H ∧ H ≤ 32) (hx : x ≠ 0) (hl : x.log2 = H) {q : Nat × Nat} (hq : q ∈ prs H s x) :
    Sb H q.1 q.2 ∧ Abv q.1 x ∧ (q.2 = 0 ∨ ¬ Abv q.2 x) ∧ May H s q.1 q.2 := by
  rw [sch_iff] at hs
  unfold prs at hq
  by_cases s1 : s = 1
  · rw [if_pos s1] at hq
    simp only [List.mem_map, List.mem_range] at hq
    obtain ⟨d, hd, rfl⟩ := hq
    have l1 := anc_log2 hx (show d ≤ x.log2 by omega)
    have l2 : (anc x d).log2 ≤ H := by omega
    exact ⟨⟨⟨hh.1, hh.2, anc_ne hx, l2⟩, .inl rfl⟩, abv_anc hx (by omega), .inl rfl, .inl ⟨s1, rfl⟩⟩
  · rw [if_neg s1] at hq
    rcases List.mem_cons.1 hq with rfl | hq
    · have n1 : Nd H 1 := nd_root.2 hh
      refine ⟨⟨n1, .inl rfl⟩, abv_root hx, .inl rfl, ?_⟩
      by_cases s2 : s = 2
      · exact .inr (.inl ⟨s2, .inr rfl⟩)
      · exact .inr (.inr ⟨s1, s2, (usf_0 _ _).2 rfl⟩)
    · obtain ⟨t, d, h1, h2, h3, rfl, o⟩ := (mem_outl (by omega)).1 hq
      obtain ⟨a, b, c, e, _, _⟩ := pair_sb hh hx hl h2 h3
      refine ⟨a, b, .inr c, ?_⟩
      by_cases s2 : s = 2
      · exact .inr (.inl ⟨s2, .inl e⟩)
      · refine .inr (.inr ⟨s1, s2, ?_⟩)
        have s3 : s = 3 := by omega
        simpa [okp, s3] using o
set_option maxRecDepth 100000 in
theorem len8_all : ∀ i : Fin 256, bt (⟨#[0, 1, 2, 2, 3, 3, 3, 3, 4, 4, 4, 4, 4, 4, 4, 4, 5, 5, 5, 5, 5, 5, 5, 5, 5, 5, 5, 5, 5, 5, 5, 5, 6, 6, 6, 6, 6, 6, 6, 6, 6, 6, 6, 6, 6, 6, 6, 6, 6, 6, 6, 6, 6, 6, 6, 6, 6, 6, 6, 6, 6, 6, 6, 6, 7, 7, 7, 7, 7, 7, 7, 7, 7, 7, 7, 7, 7, 7, 7, 7, 7, 7, 7, 7, 7, 7, 7, 7, 7, 7, 7, 7, 7, 7, 7, 7, 7, 7, 7, 7, 7, 7, 7, 7, 7, 7, 7, 7, 7, 7, 7, 7, 7, 7, 7, 7, 7, 7, 7, 7, 7, 7, 7, 7, 7, 7, 7, 7, 8, 8, 8, 8, 8, 8, 8, 8, 8, 8, 8, 8, 8, 8, 8, 8, 8, 8, 8, 8, 8, 8, 8, 8, 8, 8, 8, 8, 8, 8, 8, 8, 8, 8, 8, 8, 8, 8, 8, 8, 8, 8, 8, 8, 8, 8, 8, 8, 8, 8, 8, 8, 8, 8, 8, 8, 8, 8, 8, 8, 8, 8, 8, 8, 8, 8, 8, 8, 8, 8, 8, 8, 8, 8, 8, 8, 8, 8, 8, 8, 8, 8, 8, 8, 8, 8, 8, 8, 8, 8, 8, 8, 8, 8, 8, 8, 8, 8, 8, 8, 8, 8, 8, 8, 8, 8, 8, 8, 8, 8, 8, 8, 8, 8, 8, 8, 8, 8, 8, 8, 8, 8, 8, 8, 8, 8, 8, 8]⟩ : ByteArray) (i.val : Int) = (sz i.val : Int) := by decide +kernel
set_option maxRecDepth 100000 in
theorem len8 {i : Nat} (h : i < 256) : bt (⟨#[0, 1, 2, 2, 3, 3, 3, 3, 4, 4, 4, 4, 4, 4, 4, 4, 5, 5, 5, 5, 5, 5, 5, 5, 5, 5, 5, 5, 5, 5, 5, 5, 6, 6, 6, 6, 6, 6, 6, 6, 6, 6, 6, 6, 6, 6, 6, 6, 6, 6, 6, 6, 6, 6, 6, 6, 6, 6, 6, 6, 6, 6, 6, 6, 7, 7, 7, 7, 7, 7, 7, 7, 7, 7, 7, 7, 7, 7, 7, 7, 7, 7, 7, 7, 7, 7, 7, 7, 7, 7, 7, 7, 7, 7, 7, 7, 7, 7, 7, 7, 7, 7, 7, 7, 7, 7, 7, 7, 7, 7, 7, 7, 7, 7, 7, 7, 7, 7, 7, 7, 7, 7, 7, 7, 7, 7, 7, 7, 8, 8, 8, 8, 8, 8, 8, 8, 8, 8, 8, 8, 8, 8, 8, 8, 8, 8, 8, 8, 8, 8, 8, 8, 8, 8, 8, 8, 8, 8, 8, 8, 8, 8, 8, 8, 8, 8, 8, 8, 8, 8, 8, 8, 8, 8, 8, 8, 8, 8, 8, 8, 8, 8, 8, 8, 8, 8, 8, 8, 8, 8, 8, 8, 8, 8, 8, 8, 8, 8, 8, 8, 8, 8, 8, 8, 8, 8, 8, 8, 8, 8, 8, 8, 8, 8, 8, 8, 8, 8, 8, 8, 8, 8, 8, 8, 8, 8, 8, 8, 8, 8, 8, 8, 8, 8, 8, 8, 8, 8, 8, 8, 8, 8, 8, 8, 8, 8, 8, 8, 8, 8, 8, 8, 8, 8, 8, 8]⟩ : ByteArray) (i : Int) = (sz i : Int) := len8_all ⟨i, h⟩
set_option maxRecDepth 100000 in
theorem len64_j (k n c : Nat) (hn : n < 4294967296) (hc : c ≤ 32) : bits_Len64.j0 (k + 1) (n : Int) (c : Int) = some ((c + sz n : Nat) : Int) := by
  have h32 : sz n ≤ 32 := sz_le hn
  simp only [bits_Len64.j0]
  by_cases h1 : 65536 ≤ n
  · have e1 := sz_div (n := n) (k := 16) h1
    rw [if_pos (by omega)]
    by_cases h2 : 256 ≤ n / 65536
    · have e2 := sz_div (n := n / 65536) (k := 8) h2
      have i1 : n / 65536 / 256 < 256 := by omega
      have e3 : ((n : Int) / 65536 / 256) % 256 = ((n / 65536 / 256 : Nat) : Int) := by omega
      rw [if_pos (by omega), e3, if_pos (by omega), if_pos (by omega), len8 i1]
      have e1' : sz n = sz (n / 65536) + 16 := e1
      have e2' : sz (n / 65536) = sz (n / 65536 / 256) + 8 := e2
      rw [w64 (x := (c : Int) + 16) (by omega) (by omega), w64 (x := (c : Int) + 16 + 8) (by omega) (by omega), w64 (x := (sz (n / 65536 / 256) : Int)) (by omega) (by omega), w64 (by omega) (by omega)]
      congr 1; omega
    · have i1 : n / 65536 < 256 := by omega
      have e3 : ((n : Int) / 65536) % 256 = ((n / 65536 : Nat) : Int) := by omega
      have e1' : sz n = sz (n / 65536) + 16 := e1
      rw [if_neg (by omega), e3, if_pos (by omega), if_pos (by omega), len8 i1]
      rw [w64 (x := (c : Int) + 16) (by omega) (by omega), w64 (x := (sz (n / 65536) : Int)) (by omega) (by omega), w64 (by omega) (by omega)]
      congr 1; omega
  · rw [if_neg (by omega)]
    by_cases h2 : 256 ≤ n
    · have e2 : sz n = sz (n / 256) + 8 := sz_div (n := n) (k := 8) h2
      have i1 : n / 256 < 256 := by omega
      have e3 : ((n : Int) / 256) % 256 = ((n / 256 : Nat) : Int) := by omega
      rw [if_pos (by omega), e3, if_pos (by omega), if_pos (by omega), len8 i1]
      rw [w64 (x := (c : Int) + 8) (by omega) (by omega), w64 (x := (sz (n / 256) : Int)) (by omega) (by omega), w64 (by omega) (by omega)]
      congr 1; omega
    · have e3 : (n : Int) % 256 = (n : Int) := by omega
      rw [if_neg (by omega), e3, if_pos (by omega), if_pos (by omega), len8 (by omega)]
      rw [w64 (x := (sz n : Int)) (by omega) (by omega), w64 (by omega) (by omega)]
      congr 1
theorem len64 {n : Nat} (hn : n < 18446744073709551616) (k : Nat) : bits_Len64.f (k + 1) (n : Int) = some (sz n : Int) := by
  unfold bits_Len64.f
  by_cases h : 4294967296 ≤ n
  · have e : sz n = sz (n / 4294967296) + 32 := sz_div (n := n) (k := 32) h
    have := len64_j k (n / 4294967296) 32 (by omega) (by omega)
    rw [if_pos (by omega), show (n : Int) / 4294967296 = ((n / 4294967296 : Nat) : Int) by omega, show (32 : Int) = ((32 : Nat) : Int) by rfl, this]
    congr 2; omega
  · have := len64_j k n 0 (by omega) (by omega)
    rw [if_neg (by omega), show (0 : Int) = ((0 : Nat) : Int) by rfl, this]
    simp
theorem depth_eq {n : Nat} (h0 : n ≠ 0) (hn : n < 18446744073709551616) (k : Nat) : node_depth.f (k + 1) (n : Int) = some (n.log2 : Int) := by
  have := sz_le (k := 64) hn
  unfold node_depth.f
  rw [len64 hn]; simp only [Option.bind_some]
  rw [w64 (by omega) (by omega)]
  unfold sz; rw [if_neg h0]; congr 1; omega
theorem high_eq (h : Int) : node_high.f h = some (decide (Hi h)) := by
  unfold node_high.f
  by_cases h1 : h ≥ 1
  · rw [if_pos h1]; congr 1; rw [decide_eq_decide, hi_iff]; omega
  · rw [if_neg h1]; congr 1; symm; rw [decide_eq_false_iff_not, hi_iff]; omega
theorem check_eq (h : Int) {n : Nat} (hn : n < 18446744073709551616) (k : Nat) : node_Check.f (k + 1) h (n : Int) = some (if Nd h.toNat n then 0 else 1) := by
  unfold node_Check.f
  rw [high_eq]; simp only [Option.bind_some]
  by_cases h1 : Hi h
  · rw [decide_eq_true h1, if_pos rfl]
    rw [hi_iff] at h1
    by_cases h2 : n = 0
    · rw [if_pos (by omega), if_neg (by rw [nd_iff]; omega)]
    · rw [if_neg (by omega), depth_eq h2 hn]; simp only [Option.bind_some]
      by_cases h3 : (n.log2 : Int) > h
      · rw [if_pos h3, if_neg (by rw [nd_iff]; omega)]
      · rw [if_neg h3, if_pos (by rw [nd_iff]; omega)]
  · rw [decide_eq_false h1, if_neg (by simp), if_neg (by rw [nd_iff]; rw [hi_iff] at h1; omega)]
theorem both_eq (h : Int) {a b : Nat} (ha : a < 18446744073709551616) (hb : b < 18446744073709551616) (k : Nat) :
    node_both.f (k + 1) h (a : Int) (b : Int) = some (if Nd h.toNat a ∧ Nd h.toNat b then 0 else 1) := by
  unfold node_both.f
  rw [check_eq h ha, check_eq h hb]; simp only [Option.bind_some]
  by_cases h1 : Nd h.toNat a <;> by_cases h2 : Nd h.toNat b <;> simp [h1, h2]
theorem shr_eq (n : Nat) {k : Nat} (hk : k ≤ 64) : shr .u64 (n : Int) (k : Int) = ((n / 2 ^ k : Nat) : Int) := by
  unfold shr
  have : min ((k : Int)).toNat (IntKind.bits .u64) = k := by
    show min ((k : Int)).toNat 64 = k
    omega
  rw [this]; push_cast; rfl
theorem above_eq {a b : Nat} (ha0 : a ≠ 0) (hb0 : b ≠ 0) (ha : a < 18446744073709551616) (hb : b < 18446744073709551616) (k : Nat) :
    node_above.f (k + 1) (a : Int) (b : Int) = some (decide (Abv a b)) := by
  have h1 := log2_64 ha
  have h2 := log2_64 hb
  unfold node_above.f
  rw [depth_eq ha0 ha, depth_eq hb0 hb]; simp only [Option.bind_some]
  unfold Abv anc
  by_cases h : a.log2 ≤ b.log2
  · rw [if_pos (by omega), w64 (by omega) (by omega), if_pos (by omega), show ((b.log2 : Int) - a.log2) = ((b.log2 - a.log2 : Nat) : Int) by omega, shr_eq _ (by omega)]
    congr 1
    simp only [h, true_and]
    by_cases e : b / 2 ^ (b.log2 - a.log2) = a
    · rw [decide_eq_true e, e]; simp
    · rw [decide_eq_false e, beq_eq_false_iff_ne]; omega
  · rw [if_neg (by omega)]; congr 1; simp [h]
theorem Above_eq (h : Int) {a b : Nat} (ha : a < 18446744073709551616) (hb : b < 18446744073709551616) (k : Nat) :
    node_Above.f (k + 1) h (a : Int) (b : Int) = some (if Nd h.toNat a ∧ Nd h.toNat b then (decide (Abv a b), 0) else (false, 1)) := by
  unfold node_Above.f
  rw [both_eq h ha hb]; simp only [Option.bind_some]
  by_cases h1 : Nd h.toNat a ∧ Nd h.toNat b
  · rw [if_pos h1, if_pos rfl, above_eq h1.1.2.2.1 h1.2.2.2.1 ha hb, if_pos h1]; rfl
  · rw [if_neg h1, if_neg (by omega), if_neg h1]
theorem Depth_eq (h : Int) {n : Nat} (hn : n < 18446744073709551616) (k : Nat) : node_Depth.f (k + 1) h (n : Int) = some (if Nd h.toNat n then ((n.log2 : Int), 0) else (0, 1)) := by
  unfold node_Depth.f
  rw [check_eq h hn]; simp only [Option.bind_some]
  by_cases h1 : Nd h.toNat n
  · rw [if_pos h1, if_pos rfl, depth_eq h1.2.2.1 hn, if_pos h1]; rfl
  · rw [if_neg h1, if_neg (by omega), if_neg h1]
theorem sCheck_eq (h : Int) {i j : Nat} (hi : i < 18446744073709551616) (hj : j < 18446744073709551616) (k : Nat) :
    sub_Check.f (k + 1) h (i : Int) (j : Int) = some (if Sb h.toNat i j then 0 else 1) := by
  unfold sub_Check.f
  by_cases h0 : j = 0
  · subst h0
    rw [if_pos (by rfl), check_eq h hi]; simp only [Option.bind_some]
    by_cases h1 : Nd h.toNat i
    · rw [if_pos h1, if_pos ⟨h1, .inl rfl⟩]
    · rw [if_neg h1, if_neg (fun z => h1 z.1)]
  · rw [if_neg (by omega), Above_eq h hi hj]; simp only [Option.bind_some]
    by_cases h1 : Nd h.toNat i ∧ Nd h.toNat j
    · rw [if_pos h1]; simp only [if_true]
      by_cases h2 : Abv i j
      · rw [decide_eq_true h2, if_pos rfl]
        by_cases h3 : i = j
        · rw [if_pos (by omega), if_neg (by rintro ⟨_, z | ⟨_, z, _⟩⟩ <;> omega)]
        · rw [if_neg (by omega), if_pos ⟨h1.1, .inr ⟨h1.2, h3, h2⟩⟩]
      · rw [decide_eq_false h2, if_neg (by simp), if_neg (fun z => z.2.elim (fun y => h0 y) (fun y => h2 y.2.2))]
    · rw [if_neg h1, if_neg (by simp), if_neg (fun z => z.2.elim (fun y => h0 y) (fun y => h1 ⟨z.1, y.1⟩))]
theorem checkRoot_eq (h : Int) (k : Nat) : node_Check.f (k + 1) h 1 = some (if Hi h then 0 else 1) := by
  have := check_eq h root_lt k
  rw [show ((1 : Nat) : Int) = 1 by rfl] at this
  rw [this]
  by_cases h1 : Hi h
  · rw [if_pos h1, if_pos ((nd_root' h).2 h1)]
  · rw [if_neg h1, if_neg (fun z => h1 ((nd_root' h).1 z))]
theorem stepL_eq : ∀ h : Fin 33, 1 ≤ h.val → sub_Step.l0 8 (h.val : Int) 1 = some ((stp h.val : Int), 0) := by decide +kernel
theorem Step_eq (h : Int) {k : Nat} (hk : 10 ≤ k) : sub_Step.f k h = some (if Hi h then ((stp h.toNat : Int), 0) else (0, 1)) := by
  obtain ⟨k, rfl⟩ : ∃ m, k = m + 1 := ⟨k - 1, by omega⟩
  unfold sub_Step.f
  rw [checkRoot_eq]; simp only [Option.bind_some]
  by_cases h1 : Hi h
  · rw [if_pos h1, if_pos rfl, if_pos h1]
    rw [hi_iff] at h1
    have := stepL_eq ⟨h.toNat, by omega⟩ (by show 1 ≤ h.toNat; omega)
    have e : ((h.toNat : Nat) : Int) = h := by omega
    simp only [e] at this
    exact at_rounds (g := fun k => sub_Step.l0 k h 1) (fun k => (sub_Step.mono_l k) _ _) (show 8 ≤ k + 1 by omega) this
  · rw [if_neg h1, if_neg (by omega), if_neg h1]
theorem mn_cast (a b : Nat) : mn (a : Int) (b : Int) = ((min a b : Nat) : Int) := by unfold mn; split <;> omega
theorem nxt_cast (h i : Nat) (hi : i ≤ 32) (hh : h ≤ 32) : mn (wrap64 (wrap64 (wrap64 (Int.tdiv (i : Int) (stp h : Int)) + 1) * (stp h : Int))) (h : Int) = (nxt h i : Int) := by
  obtain ⟨s0, s1⟩ := stp_pos h
  have hd : i / stp h ≤ 32 := Nat.le_trans (Nat.div_le_self _ _) hi
  have hm : (i / stp h + 1) * stp h ≤ 33 * 6 := Nat.mul_le_mul (by omega) s1
  rw [Int.tdiv_eq_ediv_of_nonneg (by omega), ← Int.natCast_ediv]
  unfold nxt
  generalize i / stp h = r at hd hm
  rw [w64 (x := (r : Int)) (by omega) (by omega), show (r : Int) + 1 = ((r + 1 : Nat) : Int) by omega, w64 (x := ((r + 1 : Nat) : Int)) (by omega) (by omega), ← Int.natCast_mul]
  generalize (r + 1) * stp h = q at hm
  rw [w64 (by omega) (by omega), mn_cast]
theorem depths_eq {h i j : Nat} (hs : Sb h i j) (hj : j < 18446744073709551616) {k : Nat} (hk : 10 ≤ k) :
    sub_depths.f k (h : Int) (i : Int) (j : Int) = some ((i.log2 : Int), (if j = 0 then 0 else (j.log2 : Int)), (nxt h i.log2 : Int), decide (Spc h i.log2), 0) := by
  obtain ⟨hi, hj'⟩ := hs
  have hl := hi.2.2.2
  have h32 := hi.2.1
  obtain ⟨s0, s1⟩ := stp_pos h
  have hilt := hi.lt33
  have hH : Hi (h : Int) := by rw [hi_iff]; have := hi.1; omega
  have hsp : ∀ (b : Bool), b = decide ((i.log2 : Int) = h) → (if ((i.log2 % stp h : Nat) : Int) = 0 then true else b) = decide (Spc h i.log2) := by
    intro b hb
    by_cases c : i.log2 % stp h = 0
    · rw [if_pos (by omega)]; symm; rw [decide_eq_true_iff]; exact .inl c
    · rw [if_neg (by omega), hb, decide_eq_decide, spc_iff]; omega
  have hbe : (((i.log2 : Int)) == (h : Int)) = decide ((i.log2 : Int) = h) := by
    by_cases c : (i.log2 : Int) = h
    · rw [decide_eq_true c]; simp [c]
    · rw [decide_eq_false c]; simp [c]
  obtain ⟨k, rfl⟩ : ∃ m, k = m + 1 := ⟨k - 1, by omega⟩
  unfold sub_depths.f
  rw [Step_eq _ (by omega), if_pos hH]; simp only [Option.bind_some, Int.toNat_natCast]
  rw [if_pos trivial, Depth_eq _ (by omega), Int.toNat_natCast, if_pos hi]; simp only [Option.bind_some]
  rw [if_pos trivial]
  by_cases h0 : j = 0
  · subst h0
    rw [if_pos (by rfl), if_neg (by omega), nxt_cast h i.log2 (by omega) h32, tmod_cast]
    simp only [if_true]
    rw [← hsp _ hbe]
    split <;> simp
  · obtain ⟨hj1, _, _⟩ := hj'.resolve_left h0
    rw [if_neg (by omega), Depth_eq _ hj, Int.toNat_natCast, if_pos hj1]; simp only [Option.bind_some]
    rw [if_neg (by omega), nxt_cast h i.log2 (by omega) h32, tmod_cast, if_neg h0]
    rw [← hsp _ hbe]
    split <;> simp
theorem Useful_eq (h : Int) {i j : Nat} (hi : i < 18446744073709551616) (hj : j < 18446744073709551616) {k : Nat} (hk : 10 ≤ k) :
    sub_Useful.f k h (i : Int) (j : Int) = some (if Sb h.toNat i j then (decide (Usf h.toNat i j), 0) else (false, 1)) := by
  obtain ⟨k, rfl⟩ : ∃ m, k = m + 1 := ⟨k - 1, by omega⟩
  unfold sub_Useful.f
  rw [sCheck_eq h hi hj]; simp only [Option.bind_some]
  by_cases h1 : Sb h.toNat i j
  · have e := sb_h h1
    rw [if_pos h1, if_pos rfl, if_pos h1]
    by_cases h0 : j = 0
    · subst h0
      rw [if_pos (by rfl)]; congr 2
      by_cases c : i = 1
      · rw [decide_eq_true ((usf_0 _ _).2 c), c]; rfl
      · rw [decide_eq_false (fun z => c ((usf_0 _ _).1 z)), beq_eq_false_iff_ne]; omega
    · have := depths_eq h1 hj (k := k + 1) (by omega)
      rw [e] at this
      rw [if_neg (by omega), this]; simp only [Option.bind_some, if_true]
      rw [if_neg h0]
      have hu := usf_j h.toNat i h0
      by_cases c : Spc h.toNat i.log2
      · rw [decide_eq_true c, if_pos rfl, decide_eq_true (hu.2 (.inl c))]
      · rw [decide_eq_false c, if_neg (by simp)]; congr 2; rw [decide_eq_decide, hu]
        constructor
        · intro z; right; omega
        · rintro (z | z)
          · exact absurd z c
          · omega
  · rw [if_neg h1, if_neg (by omega), if_neg h1]
def sbs (l : List (Nat × Nat)) : List S24 := l.map fun p => ⟨(p.1 : Int), (p.2 : Int)⟩
theorem shl_eq {n k : Nat} (hk : k ≤ 64) (hb : n * 2 ^ k < 18446744073709551616) : shl .u64 (n : Int) (k : Int) = ((n * 2 ^ k : Nat) : Int) := by
  unfold shl
  have : min ((k : Int)).toNat (IntKind.bits .u64) = k := by
    show min ((k : Int)).toNat 64 = k
    omega
  have e : (n : Int) * 2 ^ k = ((n * 2 ^ k : Nat) : Int) := by push_cast; rfl
  rw [this, e, wu64 (by omega) (by omega)]
def sps (l : List (Nat × Nat)) : List S45 := l.map fun p => ⟨(p.1 : Int), (p.2 : Int)⟩
theorem nLeaf_eq (h : Int) {p : Nat} (hp : p < 18446744073709551616) : node_Leaf.f h (p : Int) = some (if Hi h then (if p < 2 ^ h.toNat then ((2 ^ h.toNat + p : Nat) : Int) else 0, if p < 2 ^ h.toNat then 0 else 4) else (0, 1)) := by
  unfold node_Leaf.f
  rw [high_eq]; simp only [Option.bind_some]
  by_cases h1 : Hi h
  · have hh := h1
    rw [hi_iff] at hh
    rw [decide_eq_true h1, if_pos rfl, if_pos (by omega), if_pos h1]
    have e : ((h.toNat : Nat) : Int) = h := by omega
    generalize hH : h.toNat = H at *
    subst e
    rw [shr_eq p (by omega)]
    have hz : 0 < 2 ^ H := pow_pos2 H
    by_cases c : p < 2 ^ H
    · have e1 : shl .u64 1 (H : Int) = ((2 ^ H : Nat) : Int) := by
        have hpH : 2 ^ H ≤ 4294967296 := pow_le_h (by omega)
        have := shl_eq (n := 1) (k := H) (by omega) (by omega)
        rw [Nat.one_mul] at this; exact this
      rw [Nat.div_eq_of_lt c, if_neg (by omega), e1, if_pos c, if_pos c]
      have hpH : 2 ^ H ≤ 4294967296 := pow_le_h (by omega)
      congr 2
      rw [Go.bits_or_u64_nat _ _ (by omega) (by omega)]
      have : 2 ^ H ||| p = 2 ^ H + p := by
        have := Nat.two_pow_add_eq_or_of_lt c 1
        rw [Nat.mul_one] at this; exact this.symm
      rw [this]
    · have : 1 ≤ p / 2 ^ H := (Nat.le_div_iff_mul_le hz).2 (by omega)
      rw [if_pos (by omega), if_neg c, if_neg c]
  · rw [decide_eq_false h1, if_neg (by simp), if_neg h1]
theorem lis_eq (h : Int) {p : Nat} (hp : p < 18446744073709551616) : leaf_is.f h (p : Int) = some (decide (Lfi h p)) := by
  unfold leaf_is.f
  rw [nLeaf_eq h hp]; simp only [Option.bind_some]
  by_cases h1 : Hi h
  · rw [if_pos h1]
    by_cases h2 : p < 2 ^ h.toNat
    · rw [if_pos h2, decide_eq_true ⟨h1, h2⟩]; simp [h2]
    · rw [if_neg h2, decide_eq_false (fun z => h2 z.2)]; simp [h2]
  · rw [if_neg h1, decide_eq_false (fun z => h1 z.1)]; rfl
theorem rdT_sps {l : List (Nat × Nat)} {i : Nat} (h : i < l.length) : rd_T45 (sps l) (i : Int) = ⟨(l[i].1 : Int), (l[i].2 : Int)⟩ := by
  unfold rd_T45 sps
  simp [List.getD_eq_getElem?_getD, h]
theorem sps_len (l : List (Nat × Nat)) : (sps l).length = l.length := by simp [sps]
theorem many_l (h : Int) (hh : Hi h) (l : List (Nat × Nat)) (hr : Rise (2 ^ h.toNat) 0 l) (hb : l.length < 4611686018427387904) : ∀ (q i n k : Nat), i + q = l.length → q < k → n + tot (l.drop i) ≤ 4294967296 →
    leaf_Many.l0 k h (sps l) (n : Int) (sps l) (l.length : Int) (i : Int) = some (((n + tot (l.drop i) : Nat) : Int), 0) := by
  have hp : 2 ^ h.toNat ≤ 4294967296 := pow_le_h (by rw [hi_iff] at hh; omega)
  intro q
  induction q with
  | zero =>
    intro i n k hi hk hn
    obtain ⟨k, rfl⟩ : ∃ m, k = m + 1 := ⟨k - 1, by omega⟩
    simp only [leaf_Many.l0]
    rw [if_neg (by omega), List.drop_of_length_le (by omega)]; simp [tot]
  | succ q ih =>
    intro i n k hi hk hn
    obtain ⟨k, rfl⟩ : ∃ m, k = m + 1 := ⟨k - 1, by omega⟩
    obtain ⟨r1, r2, r3, r4, r5⟩ := hr.at (show i < l.length by omega)
    have d1 : l.drop i = l[i] :: l.drop (i + 1) := List.drop_eq_getElem_cons (by omega)
    have dt : tot (l.drop i) = (l[i].2 - l[i].1 + 1) + tot (l.drop (i + 1)) := by rw [d1]; rfl
    simp only [leaf_Many.l0]
    rw [if_pos (by omega), if_pos (by omega), if_pos (by rw [sps_len]; omega), rdT_sps (show i < l.length by omega)]
    simp only
    rw [if_neg (by omega), lis_eq h (by omega), decide_eq_true (show Lfi h l[i].2 from ⟨hh, by omega⟩)]; simp only [Option.bind_some, if_true]
    rw [wu64 (x := (l[i].2 : Int) - l[i].1) (by omega) (by omega), wu64 (x := (l[i].2 : Int) - l[i].1 + 1) (by omega) (by omega), show (n : Int) + ((l[i].2 : Int) - l[i].1 + 1) = ((n + (l[i].2 - l[i].1 + 1) : Nat) : Int) by omega, wu64 (x := ((n + (l[i].2 - l[i].1 + 1) : Nat) : Int)) (by omega) (by omega),
      w64 (x := (i : Int) + 1) (by omega) (by omega), show (i : Int) + 1 = ((i + 1 : Nat) : Int) by omega, ih (i + 1) _ k (by omega) (by omega) (by omega)]
    have hfin : n + (l[i].2 - l[i].1 + 1) + tot (l.drop (i + 1)) = n + tot (l.drop i) := by omega
    rw [hfin]
    by_cases c : i = 0
    · rw [if_neg (by omega)]
    · have e : wrap64 ((i : Int) - 1) = ((i - 1 : Nat) : Int) := by rw [w64 (by omega) (by omega)]; omega
      have := r4 (by omega)
      rw [if_pos (by omega), e, if_pos (by omega), if_pos (by rw [sps_len]; omega), rdT_sps (show i - 1 < l.length by omega)]
      simp only
      rw [if_neg (by omega)]
theorem sbs_len (l : List (Nat × Nat)) : (sbs l).length = l.length := by simp [sbs]
theorem lcheck_eq (h s : Int) (k : Nat) : layer_check.f (k + 1) h s = some (if Sch s ∧ Hi h then 0 else 1) := by
  unfold layer_check.f
  by_cases c1 : s < 1
  · rw [if_pos c1, if_neg (by rw [sch_iff]; omega)]
  · rw [if_neg c1]
    by_cases c2 : s > 3
    · rw [if_pos c2, if_neg (by rw [sch_iff]; omega)]
    · rw [if_neg c2, checkRoot_eq]; simp only [bnd]
      by_cases c3 : Hi h
      · rw [if_pos c3, if_pos ⟨(sch_iff s).2 (by omega), c3⟩]
      · rw [if_neg c3, if_neg (fun z => c3 z.2)]
theorem May_eq (h s : Int) {i j : Nat} (hi' : i < 18446744073709551616) (hj : j < 18446744073709551616) {k : Nat} (hk : 12 ≤ k) :
    layer_May.f k h s (i : Int) (j : Int) = some (if Sch s ∧ Sb h.toNat i j then (decide (May h.toNat s i j), 0) else (false, 1)) := by
  obtain ⟨k, rfl⟩ : ∃ m, k = m + 1 := ⟨k - 1, by omega⟩
  unfold layer_May.f
  rw [lcheck_eq, sCheck_eq h hi' hj]; simp only [bnd]
  by_cases c1 : Sch s ∧ Hi h
  · rw [if_pos c1]; simp only [if_true]
    by_cases c2 : Sb h.toNat i j
    · have c3 : Sch s ∧ Sb h.toNat i j := ⟨c1.1, c2⟩
      rw [if_pos c2, if_pos c3]
      simp only [layer_May.j0]
      rw [if_neg (by simp)]
      by_cases e1 : s = 1
      · rw [if_pos e1]; congr 2
        rw [Bool.eq_iff_iff, decide_eq_true_iff, may_iff]
        simp [e1]
      · rw [if_neg e1]
        by_cases e2 : s = 2
        · rw [if_pos e2]
          by_cases e3 : j = 0
          · subst e3
            rw [if_pos (by rfl)]; congr 2
            rw [Bool.eq_iff_iff, decide_eq_true_iff, may_iff]
            simp [e2]; omega
          · rw [if_neg (by omega)]; congr 2
            symm; rw [decide_eq_true_iff, may_iff]
            simp [e2, e3]
        · rw [if_neg e2, Useful_eq h hi' hj (by omega), if_pos c2]; simp only [bnd]
          congr 2
          rw [decide_eq_decide, may_iff]
          simp [e1, e2]
    · rw [if_neg c2, if_neg (fun z => c2 z.2)]; simp [layer_May.j0]
  · have c3 : ¬ (Sch s ∧ Sb h.toNat i j) := by
      rintro ⟨a, b⟩
      refine c1 ⟨a, ?_⟩
      have := b.1; rw [nd_iff] at this; rw [hi_iff]; omega
    rw [if_neg c1, if_neg c3]; simp [layer_May.j0]
theorem lpairs_all : ∀ h : Fin 33, 1 ≤ h.val → layer_Pairs.l0 40 (h.val : Int) 0 (stp h.val : Int) (h.val : Int) 0 = some ((lpn h.val : Int), 0) := by decide +kernel
theorem lPairs_eq (h : Int) {k : Nat} (hk : 40 ≤ k) : layer_Pairs.f k h = some (if Hi h then ((lpn h.toNat : Int), 0) else (0, 1)) := by
  unfold layer_Pairs.f
  rw [Step_eq h (by omega)]; simp only [bnd]
  by_cases c : Hi h
  · have hh := c
    rw [hi_iff] at hh
    have e : ((h.toNat : Nat) : Int) = h := by omega
    have := lpairs_all ⟨h.toNat, by omega⟩ (by show 1 ≤ h.toNat; omega)
    simp only [e] at this
    rw [if_pos c]; simp only [if_true]
    exact at_rounds (g := fun k => layer_Pairs.l0 k h 0 (stp h.toNat : Int) h 0) (fun k => layer_Pairs.mono_l k _ _ _ _ _) hk (by rw [if_pos c]; exact this)
  · rw [if_neg c]; simp [c]
theorem Many14_eq (h s : Int) {k : Nat} (hk : 40 ≤ k) : store_Many.f k h s = some (if Sch s ∧ Hi h then ((pmn h.toNat s : Int), 0) else (0, 1)) := by
  unfold store_Many.f
  rw [lPairs_eq h hk]; simp only [bnd]
  by_cases c : Hi h
  · have hh := c
    rw [hi_iff] at hh
    obtain ⟨H, rfl⟩ := Int.eq_ofNat_of_zero_le (show 0 ≤ h by omega)
    have hl := lpn_all ⟨H, by omega⟩ (by show 1 ≤ H; omega)
    simp only at hl
    have h3 : H * (H + 1) ≤ 32 * 33 := Nat.mul_le_mul (by omega) (by omega)
    rw [if_pos c]; simp only [if_true, Int.toNat_natCast]
    by_cases s1 : s = 1
    · have : Sch s ∧ Hi (H : Int) := ⟨(sch_iff s).2 (by omega), c⟩
      rw [if_pos s1, if_pos this, w64 (by omega) (by omega)]; unfold pmn; rw [if_pos s1]; rfl
    · rw [if_neg s1]
      by_cases s2 : s = 2
      · have : Sch s ∧ Hi (H : Int) := ⟨(sch_iff s).2 (by omega), c⟩
        have e1 : (H : Int) * ((H : Int) + 1) = ((H * (H + 1) : Nat) : Int) := by push_cast; rfl
        rw [if_pos s2, if_pos this, w64 (x := (H : Int) + 1) (by omega) (by omega), e1]
        unfold pmn; rw [if_neg s1, if_pos s2]
        generalize H * (H + 1) = q at *
        rw [w64 (x := (q : Int)) (by omega) (by omega), Int.tdiv_eq_ediv_of_nonneg (by omega), w64 (x := (q : Int) / 2) (by omega) (by omega), w64 (by omega) (by omega)]
        congr 2
      · rw [if_neg s2]
        by_cases s3 : s = 3
        · have : Sch s ∧ Hi (H : Int) := ⟨(sch_iff s).2 (by omega), c⟩
          rw [if_pos s3, if_pos this]
          unfold pmn; rw [if_neg s1, if_neg s2]
          generalize H * (H + 1) = q at *
          rw [w64 (by omega) (by omega)]; rfl
        · rw [if_neg s3, if_neg (fun z => by have := z.1; rw [sch_iff] at this; omega)]
  · rw [if_neg c]; simp [c]
theorem sbs_app (l m : List (Nat × Nat)) : sbs l ++ sbs m = sbs (l ++ m) := by simp [sbs]
theorem shr_anc {x h d : Nat} (hl : x.log2 = h) (hh : h ≤ 32) (hd : d ≤ h) : shr .u64 (x : Int) (wrap64 ((h : Int) - (d : Int))) = (anc x d : Int) := by
  rw [w64 (by omega) (by omega), show (h : Int) - (d : Int) = ((h - d : Nat) : Int) by omega, shr_eq _ (by omega)]
  unfold anc; rw [hl]
theorem xor_sib {n : Nat} (hn : n < 8589934592) : Go.bits .xor .u64 (n : Int) 1 = (sib n : Int) := by
  have := Go.bits_xor_u64_nat n 1 (by omega) (by omega)
  exact this
theorem pairs_l0 {h x : Nat} (hl : x.log2 = h) (hh : h ≤ 32) : ∀ (m d k : Nat) (L : List (Nat × Nat)), d + m = h + 1 → m < k → L.length + m ≤ 40 →
    store_Pairs.l0 k (h : Int) (x : Int) (sbs L) ((h + 1 : Nat) : Int) (d : Int) = some (sbs (L ++ ((List.range m).map fun q => (anc x (d + q), 0))), 0) := by
  intro m
  induction m with
  | zero =>
    intro d k L hd hk hL
    obtain ⟨k, rfl⟩ : ∃ m, k = m + 1 := ⟨k - 1, by omega⟩
    simp only [store_Pairs.l0]
    rw [if_neg (by omega)]; simp
  | succ m ih =>
    intro d k L hd hk hL
    obtain ⟨k, rfl⟩ : ∃ m, k = m + 1 := ⟨k - 1, by omega⟩
    simp only [store_Pairs.l0]
    rw [if_pos (by omega), if_pos (by rw [w64 (by omega) (by omega)]; omega), if_pos (by rw [sbs_len]; omega), shr_anc hl hh (by omega), w64 (x := (d : Int) + 1) (by omega) (by omega), show (d : Int) + 1 = ((d + 1 : Nat) : Int) by omega,
      show [(⟨(anc x d : Int), 0⟩ : S24)] = sbs [(anc x d, 0)] from rfl, sbs_app, ih (d + 1) k _ (by omega) (by omega) (by simp; omega)]
    congr 2
    rw [List.append_assoc, List.range_succ_eq_map]
    simp only [List.map_cons, List.map_map, List.singleton_append, Nat.add_zero]
    congr 4
    funext q
    simp only [Function.comp]
    rw [show d + 1 + q = d + (q + 1) by omega]
theorem pairs_l1 {h x : Nat} {s : Int} (hl : x.log2 = h) (hx : x ≠ 0) (h1 : 1 ≤ h) (hh : h ≤ 32) (hs : s ≠ 1) : ∀ (n t k : Nat) (L : List (Nat × Nat)), t + n = h → n * 40 + 20 ≤ k → L.length + n * 40 ≤ 2000 →
    store_Pairs.l1 k (h : Int) s (x : Int) (sbs L) (h : Int) (t : Int) = some (sbs (L ++ outl h s x t n), 0) ∧
    (t < h → ∀ (m e : Nat) (k : Nat) (L : List (Nat × Nat)), t < e → e + m = h + 1 → (n - 1) * 40 + 21 + m ≤ k → L.length + (n - 1) * 40 + m ≤ 2000 →
      store_Pairs.l2 k (h : Int) s (x : Int) (sbs L) (t : Int) (e : Int) (h : Int) (t : Int) = some (sbs (L ++ (inl h s x t e m ++ outl h s x (t + 1) (n - 1))), 0)) := by
  intro n
  have hxlt : x < 8589934592 := Nat.lt_of_lt_of_le (log2_hi x) (pow_le_32 (by omega))
  induction n with
  | zero =>
    intro t k L ht hk hL
    refine ⟨?_, fun c => absurd c (by omega)⟩
    obtain ⟨k, rfl⟩ : ∃ m, k = m + 1 := ⟨k - 1, by omega⟩
    simp only [store_Pairs.l1]
    rw [if_neg (by omega)]; simp [outl]
  | succ n ih =>
    have inner : ∀ (t : Nat), t + (n + 1) = h → ∀ (m e : Nat) (k : Nat) (L : List (Nat × Nat)), t < e → e + m = h + 1 → n * 40 + 21 + m ≤ k → L.length + n * 40 + m ≤ 2000 →
      store_Pairs.l2 k (h : Int) s (x : Int) (sbs L) (t : Int) (e : Int) (h : Int) (t : Int) = some (sbs (L ++ (inl h s x t e m ++ outl h s x (t + 1) n)), 0) := by
      intro t ht m
      induction m with
      | zero =>
        intro e k L he hm hk hL
        obtain ⟨k, rfl⟩ : ∃ m, k = m + 1 := ⟨k - 1, by omega⟩
        simp only [store_Pairs.l2]
        rw [if_neg (by omega), w64 (by omega) (by omega), show (t : Int) + 1 = ((t + 1 : Nat) : Int) by omega, (ih (t + 1) k L (by omega) (by omega) (by omega)).1]
        simp [inl]
      | succ m ihm =>
        intro e k L he hm hk hL
        obtain ⟨k, rfl⟩ : ∃ m, k = m + 1 := ⟨k - 1, by omega⟩
        obtain ⟨sb, _, _, _, _, _⟩ := pair_sb ⟨h1, hh⟩ hx hl he (show e ≤ h by omega)
        have a33 : anc x e < 8589934592 := Nat.lt_of_le_of_lt (anc_le x e) hxlt
        have b := sb_lt sb
        simp only [store_Pairs.l2]
        rw [if_pos (by omega), if_pos (by rw [w64 (by omega) (by omega)]; omega), if_pos (by rw [w64 (by omega) (by omega)]; omega), shr_anc hl hh (by omega), shr_anc hl hh (by omega), xor_sib a33, w64 (x := (e : Int) + 1) (by omega) (by omega), show (e : Int) + 1 = ((e + 1 : Nat) : Int) by omega,
          show [(⟨(anc x t : Int), (sib (anc x e) : Int)⟩ : S24)] = sbs [(anc x t, sib (anc x e))] from rfl, sbs_app]
        have r1 := ihm (e + 1) k (L ++ [(anc x t, sib (anc x e))]) (by omega) (by omega) (by omega) (by simp; omega)
        have r2 := ihm (e + 1) k L (by omega) (by omega) (by omega) (by omega)
        rw [sbs_len, inl]
        by_cases c3 : s = 3
        · have hu := Useful_eq (h : Int) b.1 b.2 (k := k) (by omega)
          rw [Int.toNat_natCast, if_pos sb] at hu
          rw [if_pos c3, hu]; simp only [bnd]
          rw [if_pos trivial]
          by_cases c4 : Usf h (anc x t) (sib (anc x e))
          · have o : okp h s (anc x t) (sib (anc x e)) = true := by simp [okp, c4]
            rw [decide_eq_true c4, if_pos rfl, if_pos (by omega), r1, if_pos o]
            simp [List.append_assoc]
          · have o : ¬ okp h s (anc x t) (sib (anc x e)) = true := by simp [okp, c3, c4]
            rw [decide_eq_false c4, if_neg (by simp), r2, if_neg o]
            simp
        · have o : okp h s (anc x t) (sib (anc x e)) = true := by simp [okp, c3]
          rw [if_neg c3, if_pos (by omega), r1, if_pos o]
          simp [List.append_assoc]
    intro t k L ht hk hL
    refine ⟨?_, fun c m e k L a1 a2 a3 a4 => inner t ht m e k L a1 a2 (by omega) (by omega)⟩
    obtain ⟨k, rfl⟩ : ∃ m, k = m + 1 := ⟨k - 1, by omega⟩
    simp only [store_Pairs.l1]
    rw [if_pos (by omega), w64 (by omega) (by omega), show (t : Int) + 1 = ((t + 1 : Nat) : Int) by omega, inner t ht (h - t) (t + 1) k L (by omega) (by omega) (by omega) (by omega), outl]
theorem Pairs_eq (h s : Int) {p : Nat} (hp : p < 18446744073709551616) {k : Nat} (hk : 1400 ≤ k) :
    store_Pairs.f k h s (p : Int) = some (if Sch s ∧ Lfi h p then (sbs (prs h.toNat s (2 ^ h.toNat + p)), 0) else ([], 1)) := by
  obtain ⟨k, rfl⟩ : ∃ m, k = m + 1 := ⟨k - 1, by omega⟩
  unfold store_Pairs.f
  rw [Many14_eq h s (by omega), nLeaf_eq h hp]; simp only [bnd]
  by_cases c1 : Sch s ∧ Hi h
  · rw [if_pos c1]; dsimp only
    rw [if_pos rfl, if_pos c1.2]
    by_cases c2 : p < 2 ^ h.toNat
    · have c3 : Sch s ∧ Lfi h p := ⟨c1.1, c1.2, c2⟩
      have hh := c1.2
      rw [hi_iff] at hh
      obtain ⟨H, rfl⟩ := Int.eq_ofNat_of_zero_le (show 0 ≤ h by omega)
      simp only [Int.toNat_natCast] at *
      have pm := pmn_le (h := H) (by omega) (by omega) s
      have hlog : (2 ^ H + p).log2 = H := leaf_log2 (by omega) (by rw [Nat.pow_succ]; omega)
      have hne : 2 ^ H + p ≠ 0 := by have := pow_pos2 H; omega
      rw [if_pos c2, if_pos c2, if_pos c3]
      simp only [store_Pairs.j0]
      rw [if_neg (by simp), if_pos (by omega), if_pos (by omega)]; simp only [bnd]
      by_cases s1 : s = 1
      · have := pairs_l0 hlog (by omega) (H + 1) 0 k [] (by omega) (by omega) (by simp; omega)
        rw [if_pos s1, w64 (by omega) (by omega), show (H : Int) + 1 = ((H + 1 : Nat) : Int) by omega, show (List.replicate 0 z24) = sbs [] from rfl, show (0 : Int) = ((0 : Nat) : Int) from rfl, this]
        unfold prs; rw [if_pos s1]; simp
      · have := (pairs_l1 (s := s) hlog hne (by omega) (by omega) s1 H 0 k [(1, 0)] (by omega) (by omega) (by simp; omega)).1
        rw [if_neg s1, if_pos (by simp), show (List.replicate 0 z24) ++ [(⟨1, 0⟩ : S24)] = sbs [(1, 0)] from rfl]
        rw [show ((0 : Nat) : Int) = 0 from rfl] at this
        rw [this]
        unfold prs; rw [if_neg s1]; rfl
    · have c3 : ¬ (Sch s ∧ Lfi h p) := fun z => c2 z.2.2
      rw [if_neg c2, if_neg c2, if_neg c3]; simp [store_Pairs.j0]
  · have c3 : ¬ (Sch s ∧ Lfi h p) := fun z => c1 ⟨z.1, z.2.1⟩
    rw [if_neg c1, if_neg c3]; simp [store_Pairs.j0]
theorem outl_lpn : ∀ h : Fin 33, (outl h.val 3 (2 ^ h.val) 0 h.val).length = lpn h.val := by decide +kernel
theorem log_two (h : Nat) : (2 ^ h).log2 = h := leaf_log2 (Nat.le_refl _) (by rw [Nat.pow_succ]; have := pow_pos2 h; omega)
theorem okp_dep {h x y t e : Nat} {s : Int} (hx : x ≠ 0) (hy : y ≠ 0) (lx : x.log2 = h) (ly : y.log2 = h) (ht : t < e) (he : e ≤ h) :
    okp h s (anc x t) (sib (anc x e)) = okp h s (anc y t) (sib (anc y e)) := by
  have a1 := anc_log2 hx (show t ≤ x.log2 by omega)
  have a2 := anc_log2 hy (show t ≤ y.log2 by omega)
  have b1 := anc_two hx (show 1 ≤ e by omega) (by omega)
  have b2 := anc_two hy (show 1 ≤ e by omega) (by omega)
  have c1 := sib_pos b1
  have c2 := sib_pos b2
  have d1 := sib_log2 b1
  have d2 := sib_log2 b2
  rw [anc_log2 hx (by omega)] at d1
  rw [anc_log2 hy (by omega)] at d2
  unfold okp
  congr 1
  rw [decide_eq_decide, usf_j _ _ (by omega), usf_j _ _ (by omega), a1, a2, d1, d2]
theorem inl_dep {h x y t : Nat} {s : Int} (hx : x ≠ 0) (hy : y ≠ 0) (lx : x.log2 = h) (ly : y.log2 = h) : ∀ {m e : Nat}, t < e → e + m ≤ h + 1 →
    (inl h s x t e m).length = (inl h s y t e m).length
  | 0, e, _, _ => rfl
  | m + 1, e, ht, he => by
    rw [inl, inl, List.length_append, List.length_append, inl_dep hx hy lx ly (by omega) (by omega), okp_dep (s := s) hx hy lx ly ht (by omega)]
    split <;> rfl
theorem outl_dep {h x y : Nat} {s : Int} (hx : x ≠ 0) (hy : y ≠ 0) (lx : x.log2 = h) (ly : y.log2 = h) : ∀ {m t : Nat}, t + m = h →
    (outl h s x t m).length = (outl h s y t m).length
  | 0, t, _ => rfl
  | m + 1, t, ht => by
    rw [outl, outl, List.length_append, List.length_append, inl_dep hx hy lx ly (by omega) (by omega), outl_dep hx hy lx ly (by omega)]
theorem inl_all {h : Nat} {s : Int} {x t : Nat} (hs : s ≠ 3) : ∀ {m e : Nat}, (inl h s x t e m).length = m
  | 0, e => rfl
  | m + 1, e => by rw [inl, List.length_append, inl_all hs, if_pos (by simp [okp, hs])]; simp; omega
theorem outl_all {h : Nat} {s : Int} {x : Nat} (hs : s ≠ 3) : ∀ {m t : Nat}, t + m = h → (outl h s x t m).length = m * (m + 1) / 2
  | 0, t, _ => rfl
  | m + 1, t, ht => by
    rw [outl, List.length_append, inl_all hs, outl_all hs (by omega)]
    have : (m + 1) * (m + 1 + 1) = m * (m + 1) + 2 * (m + 1) := by
      rw [Nat.add_mul, Nat.mul_add m (m + 1) 1]; omega
    omega
theorem prs_pmn {h x : Nat} {s : Int} (hs : Sch s) (hh : h ≤ 32) (hx : x ≠ 0) (lx : x.log2 = h) : (prs h s x).length = pmn h s := by
  rw [sch_iff] at hs
  unfold prs pmn
  by_cases s1 : s = 1
  · rw [if_pos s1, if_pos s1]; simp
  · rw [if_neg s1, if_neg s1, List.length_cons]
    by_cases s2 : s = 2
    · rw [if_pos s2, outl_all (by omega) (by omega)]
    · rw [if_neg s2]
      obtain rfl : s = 3 := by omega
      have h0 : 2 ^ h ≠ 0 := by have := pow_pos2 h; omega
      rw [outl_dep hx h0 lx (log_two h) (by omega)]
      rw [show (outl h 3 (2 ^ h) 0 h).length = lpn h from outl_lpn ⟨h, by omega⟩]
theorem inl_nd {h : Nat} {s : Int} {x t : Nat} (hx : x ≠ 0) (lx : x.log2 = h) : ∀ {m e : Nat}, 1 ≤ e → e + m ≤ h + 1 → (inl h s x t e m).Nodup
  | 0, e, _, _ => List.nodup_nil
  | m + 1, e, h1, he => by
    rw [inl, List.nodup_append]
    refine ⟨by split <;> simp, inl_nd hx lx (by omega) (by omega), ?_⟩
    intro a ha b hb ab
    subst ab
    split at ha
    · simp only [List.mem_singleton] at ha
      obtain ⟨d, d1, d2, d3, _⟩ := mem_inl.1 hb
      rw [ha] at d3
      have e1 := congrArg (fun q : Nat × Nat => q.2.log2) d3
      simp only at e1
      rw [sib_log2 (anc_two hx h1 (by omega)), sib_log2 (anc_two hx (show 1 ≤ d by omega) (by omega)), anc_log2 hx (by omega), anc_log2 hx (by omega)] at e1
      omega
    · simp at ha
theorem outl_nd {h : Nat} {s : Int} {x : Nat} (hx : x ≠ 0) (lx : x.log2 = h) : ∀ {m t : Nat}, t + m = h → (outl h s x t m).Nodup
  | 0, t, _ => List.nodup_nil
  | m + 1, t, ht => by
    rw [outl, List.nodup_append]
    refine ⟨inl_nd hx lx (by omega) (by omega), outl_nd hx lx (by omega), ?_⟩
    intro a ha b hb ab
    subst ab
    obtain ⟨d, d1, d2, d3, _⟩ := mem_inl.1 ha
    obtain ⟨q, e, e1, e2, e3, e4, _⟩ := (mem_outl (by omega)).1 hb
    rw [d3] at e4
    have z := congrArg (fun q : Nat × Nat => q.1.log2) e4
    simp only at z
    rw [anc_log2 hx (by omega), anc_log2 hx (by omega)] at z
    omega
theorem prs_nd {h x : Nat} {s : Int} (hx : x ≠ 0) (lx : x.log2 = h) : (prs h s x).Nodup := by
  unfold prs
  split
  · rw [List.nodup_iff_pairwise_ne, List.pairwise_map]
    refine List.Pairwise.imp_of_mem ?_ (List.nodup_iff_pairwise_ne.1 List.nodup_range)
    intro a b ha hb ab z
    rw [List.mem_range] at ha hb
    have e := congrArg (fun q : Nat × Nat => q.1.log2) z
    simp only at e
    rw [anc_log2 hx (by omega), anc_log2 hx (by omega)] at e
    exact ab e
  · rw [List.nodup_cons]
    refine ⟨?_, outl_nd hx lx (by omega)⟩
    intro z
    obtain ⟨q, d, h1, h2, h3, h4, _⟩ := (mem_outl (by omega)).1 z
    have e := congrArg (fun q : Nat × Nat => q.2) h4
    simp only at e
    have := sib_pos (anc_two hx (show 1 ≤ d by omega) (by omega))
    omega
theorem live14' : medlarlaw14_live.f 40 = some true := by decide +kernel
theorem live14 {k : Nat} (hk : 40 ≤ k) : medlarlaw14_live.f k = some true := at_rounds (g := fun k => medlarlaw14_live.f k) medlarlaw14_live.mono hk live14'
end Go.Proofs.Ytccmoohcpaohmaa.Med
