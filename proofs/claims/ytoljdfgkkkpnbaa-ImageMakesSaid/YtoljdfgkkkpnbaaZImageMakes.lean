/- Plain facts that the proof of ImageMakes needs. -/
import Derived.Test.YtoljdfgkkkpnbaaK0
import Derived.Laws.Bits64b
import Derived.Laws.Bits64
import Derived.Test.YtoljdfgkkkpnbaaMPx0
import Derived.Test.YtoljdfgkkkpnbaaMPx2
import Derived.Test.YtoljdfgkkkpnbaaMPx3
import Derived.Test.YtoljdfgkkkpnbaaMPx4
import Derived.Test.YtoljdfgkkkpnbaaMPx5
import Derived.Test.YtoljdfgkkkpnbaaMPx6
import Derived.Test.YtoljdfgkkkpnbaaMPx7
import Derived.Test.YtoljdfgkkkpnbaaMPx8
set_option linter.unusedVariables false
set_option linter.unusedSimpArgs false
set_option linter.unusedSectionVars false
namespace Go.Proofs.Ytoljdfgkkkpnbaa.Med
open Go.RowKit Go.Proofs.YtoljdfgkkkpnbaaW.PrintWords Go.Proofs.YtoljdfgkkkpnbaaW.PrintMore Go.Proofs.Ytoljdfgkkkpnbaa.MP
theorem bnd {α β : Type} (a : α) (f : α → Option β) : (some a).bind f = f a := by
  have h := Option.bind_some a f
  exact h
theorem w64 {x : Int} (h0 : -9223372036854775808 ≤ x) (h1 : x ≤ 9223372036854775807) : wrap64 x = x := by unfold wrap64; omega
theorem wu64 {x : Int} (h0 : 0 ≤ x) (h1 : x < 18446744073709551616) : IntKind.u64.wrap x = x := by
  have : IntKind.u64.wrap x = x % 18446744073709551616 := by rfl
  omega
theorem wf_u64 {x : Int} (h : (Lit.int .u64 x).wf = true) : ∃ n : Nat, x = (n : Int) ∧ n < 18446744073709551616 := by
  have h0 : IntKind.u64.min = 0 := by decide
  have h1 : IntKind.u64.max = 18446744073709551615 := by decide
  simp [Lit.wf, h0, h1] at h
  exact ⟨x.toNat, by omega, by omega⟩
theorem log2_iff {n d : Nat} (hn : n ≠ 0) : n.log2 = d ↔ 2 ^ d ≤ n ∧ n < 2 ^ (d + 1) := Nat.log2_eq_iff hn
theorem log2_lo {n : Nat} (hn : n ≠ 0) : 2 ^ n.log2 ≤ n := Nat.log2_self_le hn
theorem log2_hi (n : Nat) : n < 2 ^ (n.log2 + 1) := Nat.lt_log2_self
theorem log2_one : Nat.log2 1 = 0 := by decide
theorem pow_pos2 (k : Nat) : 0 < 2 ^ k := Nat.two_pow_pos k
theorem pow_split {a b : Nat} (h : a ≤ b) : 2 ^ b = 2 ^ a * 2 ^ (b - a) := by rw [← Nat.pow_add]; congr 1; omega
theorem pow_mono {a b : Nat} (h : a ≤ b) : 2 ^ a ≤ 2 ^ b := Nat.pow_le_pow_right (by omega) h
theorem pow_le_32 {d : Nat} (h : d ≤ 33) : 2 ^ d ≤ 8589934592 := pow_mono (b := 33) h
theorem log2_div {n k : Nat} (hn : n ≠ 0) (hk : k ≤ n.log2) : (n / 2 ^ k).log2 = n.log2 - k ∧ n / 2 ^ k ≠ 0 := by
  have h1 := log2_lo hn
  have h2 := log2_hi n
  have hp := pow_pos2 k
  rw [pow_split hk] at h1
  have e : n.log2 + 1 = k + (n.log2 - k + 1) := by omega
  rw [e, Nat.pow_add] at h2
  have g1 : 2 ^ (n.log2 - k) ≤ n / 2 ^ k := (Nat.le_div_iff_mul_le hp).2 (by rw [Nat.mul_comm]; exact h1)
  have g2 : n / 2 ^ k < 2 ^ (n.log2 - k + 1) := Nat.div_lt_of_lt_mul h2
  have g3 : n / 2 ^ k ≠ 0 := by have := pow_pos2 (n.log2 - k); omega
  exact ⟨(log2_iff g3).2 ⟨g1, g2⟩, g3⟩
def anc (n d : Nat) : Nat := n / 2 ^ (n.log2 - d)
theorem anc_log2 {n d : Nat} (hn : n ≠ 0) (hd : d ≤ n.log2) : (anc n d).log2 = d := by
  have := (log2_div hn (k := n.log2 - d) (by omega)).1
  unfold anc; omega
theorem anc_ne {n d : Nat} (hn : n ≠ 0) : anc n d ≠ 0 := (log2_div hn (k := n.log2 - d) (by omega)).2
theorem anc_le (n d : Nat) : anc n d ≤ n := Nat.div_le_self _ _
theorem anc_zero {n : Nat} (hn : n ≠ 0) : anc n 0 = 1 := by
  have h := anc_log2 hn (Nat.zero_le _)
  have h0 := anc_ne (d := 0) hn
  have := (log2_iff h0).1 h
  omega
theorem anc_anc {n d e : Nat} (hn : n ≠ 0) (hd : d ≤ n.log2) (he : e ≤ d) : anc (anc n d) e = anc n e := by
  unfold anc
  rw [show (n / 2 ^ (n.log2 - d)).log2 = d from anc_log2 hn hd, Nat.div_div_eq_div_mul, ← Nat.pow_add]
  congr 2; omega
def Abv (a b : Nat) : Prop := a.log2 ≤ b.log2 ∧ anc b a.log2 = a
instance (a b : Nat) : Decidable (Abv a b) := inferInstanceAs (Decidable (_ ∧ _))
theorem Abv.trans {a b c : Nat} (hc : c ≠ 0) (h : Abv a b) (k : Abv b c) : Abv a c := by
  refine ⟨Nat.le_trans h.1 k.1, ?_⟩
  rw [← anc_anc hc k.1 h.1, k.2]; exact h.2
theorem abv_anc {n d : Nat} (hn : n ≠ 0) (hd : d ≤ n.log2) : Abv (anc n d) n := by
  unfold Abv; rw [anc_log2 hn hd]; exact ⟨hd, rfl⟩
theorem abv_root {n : Nat} (hn : n ≠ 0) : Abv 1 n := ⟨by rw [log2_one]; omega, by rw [log2_one]; exact anc_zero hn⟩
def rt (h n : Nat) : Nat := (n + 1) * 2 ^ (h - n.log2)
theorem leaf_log2 {h x : Nat} (h0 : 2 ^ h ≤ x) (h1 : x < 2 ^ (h + 1)) : x.log2 = h := by
  have : x ≠ 0 := by have := pow_pos2 h; omega
  exact (log2_iff this).2 ⟨h0, h1⟩
theorem log2_half {n : Nat} (h : 2 ≤ n) : (n / 2).log2 + 1 = n.log2 := by
  have h1 : 1 ≤ n.log2 := (Nat.le_log2 (by omega)).2 (by simpa using h)
  have := (log2_div (n := n) (k := 1) (by omega) h1).1
  rw [Nat.pow_one] at this; omega
def sz (n : Nat) : Nat := if n = 0 then 0 else n.log2 + 1
theorem sz_div {n k : Nat} (h : 2 ^ k ≤ n) : sz n = sz (n / 2 ^ k) + k := by
  have hp := pow_pos2 k
  have hn : n ≠ 0 := by omega
  have hk : k ≤ n.log2 := (Nat.le_log2 hn).2 h
  obtain ⟨a, b⟩ := log2_div hn hk
  unfold sz; rw [if_neg hn, if_neg b, a]; omega
theorem sz_le {n k : Nat} (h : n < 2 ^ k) : sz n ≤ k := by
  unfold sz; split
  · omega
  · rename_i hn; have := (Nat.log2_lt hn).2 h; omega
theorem log2_64 {n : Nat} (hn : n < 18446744073709551616) : n.log2 < 64 := by
  by_cases h : n = 0
  · subst h; decide
  · exact (Nat.log2_lt h).2 hn
def Nd (h n : Nat) : Prop := 1 ≤ h ∧ h ≤ 32 ∧ n ≠ 0 ∧ n.log2 ≤ h
instance (h n : Nat) : Decidable (Nd h n) := inferInstanceAs (Decidable (_ ∧ _))
theorem Nd.lt {h n : Nat} (d : Nd h n) : n < 2 ^ (h + 1) := Nat.lt_of_lt_of_le (log2_hi n) (pow_mono (by have := d.2.2.2; omega))
theorem Nd.lt33 {h n : Nat} (d : Nd h n) : n < 8589934592 := Nat.lt_of_lt_of_le d.lt (pow_le_32 (by have := d.2.1; omega))
theorem nd_root {h : Nat} : Nd h 1 ↔ 1 ≤ h ∧ h ≤ 32 := by unfold Nd; rw [log2_one]; omega
def Hi (h : Int) : Prop := 1 ≤ h ∧ h ≤ 32
instance (h : Int) : Decidable (Hi h) := inferInstanceAs (Decidable (_ ∧ _))
theorem hi_iff (h : Int) : Hi h ↔ 1 ≤ h ∧ h ≤ 32 := Iff.rfl
theorem nd_iff (h n : Nat) : Nd h n ↔ 1 ≤ h ∧ h ≤ 32 ∧ n ≠ 0 ∧ n.log2 ≤ h := Iff.rfl
def Sb (h i j : Nat) : Prop := Nd h i ∧ (j = 0 ∨ (Nd h j ∧ i ≠ j ∧ Abv i j))
instance (h i j : Nat) : Decidable (Sb h i j) := inferInstanceAs (Decidable (_ ∧ _))
def stp (h : Nat) : Nat := if h ≤ 1 then 1 else if h ≤ 4 then 2 else if h ≤ 9 then 3 else if h ≤ 16 then 4 else if h ≤ 25 then 5 else 6
theorem stp_pos (h : Nat) : 1 ≤ stp h ∧ stp h ≤ 6 := by unfold stp; constructor <;> (repeat' split) <;> omega
theorem root_lt : (1 : Nat) < 18446744073709551616 := by omega
theorem nd_root' (h : Int) : Nd h.toNat 1 ↔ Hi h := by rw [nd_root, hi_iff]; omega
def nxt (h i : Nat) : Nat := min ((i / stp h + 1) * stp h) h
def Spc (h i : Nat) : Prop := i % stp h = 0 ∨ i = h
instance (h i : Nat) : Decidable (Spc h i) := inferInstanceAs (Decidable (_ ∨ _))
theorem spc_iff (h i : Nat) : Spc h i ↔ i % stp h = 0 ∨ i = h := Iff.rfl
theorem tmod_cast (i s : Nat) : Int.tmod (i : Int) (s : Int) = ((i % s : Nat) : Int) := by rw [Int.tmod_eq_emod_of_nonneg (by omega)]; rfl
def Usf (h i j : Nat) : Prop := (j = 0 ∧ i = 1) ∨ (j ≠ 0 ∧ (Spc h i.log2 ∨ j.log2 ≤ nxt h i.log2))
instance (h i j : Nat) : Decidable (Usf h i j) := inferInstanceAs (Decidable (_ ∨ _))
theorem usf_iff (h i j : Nat) : Usf h i j ↔ (j = 0 ∧ i = 1) ∨ (j ≠ 0 ∧ (Spc h i.log2 ∨ j.log2 ≤ nxt h i.log2)) := Iff.rfl
theorem usf_0 (h i : Nat) : Usf h i 0 ↔ i = 1 := by rw [usf_iff]; simp
theorem usf_j (h i : Nat) {j : Nat} (h0 : j ≠ 0) : Usf h i j ↔ (Spc h i.log2 ∨ j.log2 ≤ nxt h i.log2) := by rw [usf_iff]; simp [h0]
theorem sb_h {h : Int} {i j : Nat} (s : Sb h.toNat i j) : ((h.toNat : Nat) : Int) = h := by have := s.1.1; omega
def hi (h n : Nat) : Nat := rt h n - 1 - 2 ^ h
theorem pow_le_h {h : Nat} (hh : h ≤ 32) : 2 ^ h ≤ 4294967296 := pow_mono (b := 32) hh
def Rise (m : Nat) : Nat → List (Nat × Nat) → Prop
  | _, [] => True
  | from_, x :: l => from_ ≤ x.1 ∧ x.1 ≤ x.2 ∧ x.2 < m ∧ Rise m (x.2 + 1) l
theorem Rise.mono {m : Nat} {l : List (Nat × Nat)} {a b : Nat} (h : Rise m a l) (hb : b ≤ a) : Rise m b l := by
  cases l with
  | nil => trivial
  | cons x l => exact ⟨Nat.le_trans hb h.1, h.2⟩
theorem sb_lt {h i j : Nat} (s : Sb h i j) : i < 18446744073709551616 ∧ j < 18446744073709551616 := by
  refine ⟨by have := s.1.lt33; omega, ?_⟩
  rcases s.2 with z | z
  · omega
  · have := z.1.lt33; omega
def Lfi (h : Int) (p : Nat) : Prop := Hi h ∧ p < 2 ^ h.toNat
instance (h : Int) (p : Nat) : Decidable (Lfi h p) := inferInstanceAs (Decidable (_ ∧ _))
def Sch (s : Int) : Prop := 1 ≤ s ∧ s ≤ 3
instance (s : Int) : Decidable (Sch s) := inferInstanceAs (Decidable (_ ∧ _))
theorem sch_iff (s : Int) : Sch s ↔ 1 ≤ s ∧ s ≤ 3 := Iff.rfl
def May (h : Nat) (s : Int) (i j : Nat) : Prop := (s = 1 ∧ j = 0) ∨ (s = 2 ∧ (j ≠ 0 ∨ i = 1)) ∨ (s ≠ 1 ∧ s ≠ 2 ∧ Usf h i j)
instance (h : Nat) (s : Int) (i j : Nat) : Decidable (May h s i j) := inferInstanceAs (Decidable (_ ∨ _))
theorem may_iff (h : Nat) (s : Int) (i j : Nat) : May h s i j ↔ (s = 1 ∧ j = 0) ∨ (s = 2 ∧ (j ≠ 0 ∨ i = 1)) ∨ (s ≠ 1 ∧ s ≠ 2 ∧ Usf h i j) := Iff.rfl
def lpn (h : Nat) : Nat := ((List.range h).map fun i => if i % stp h = 0 then h - i else nxt h i - i).sum
theorem lpn_all : ∀ h : Fin 33, 1 ≤ h.val → h.val ≤ lpn h.val ∧ 2 * lpn h.val ≤ h.val * (h.val + 1) ∧ (stp h.val ≤ 1 → 2 * lpn h.val = h.val * (h.val + 1)) := by decide +kernel
def pmn (h : Nat) (s : Int) : Nat := if s = 1 then h + 1 else if s = 2 then h * (h + 1) / 2 + 1 else lpn h + 1
theorem pmn_le {h : Nat} (h1 : 1 ≤ h) (h2 : h ≤ 32) (s : Int) : pmn h s ≤ 529 := by
  have := lpn_all ⟨h, by omega⟩ h1
  simp only at this
  have h3 : h * (h + 1) ≤ 32 * 33 := Nat.mul_le_mul (by omega) (by omega)
  unfold pmn
  split
  · omega
  · split <;> omega
def sib (n : Nat) : Nat := n ^^^ 1
theorem sib_eq (n : Nat) : sib n = if n % 2 = 0 then n + 1 else n - 1 := by
  unfold sib
  have h1 : (n ^^^ 1) / 2 = n / 2 := by rw [Nat.xor_div_two]; simp
  have h2 : (n ^^^ 1) % 2 = (n + 1) % 2 := by
    have h3 : (n ^^^ 1) % 2 ^ 1 = n % 2 ^ 1 ^^^ 1 % 2 ^ 1 := Nat.xor_mod_two_pow
    rw [Nat.pow_one] at h3
    rw [h3]
    rcases Nat.mod_two_eq_zero_or_one n with z | z
    · rw [z]; have : (0 ^^^ 1 % 2 : Nat) = 1 := by decide
      omega
    · rw [z]; have : (1 ^^^ 1 % 2 : Nat) = 0 := by decide
      omega
  split <;> omega
theorem sib_half (n : Nat) : sib n / 2 = n / 2 := by rw [sib_eq]; split <;> omega
theorem sib_ne (n : Nat) : sib n ≠ n := by rw [sib_eq]; split <;> omega
theorem sib_pos {n : Nat} (h : 2 ≤ n) : 2 ≤ sib n := by rw [sib_eq]; split <;> omega
theorem sib_log2 {n : Nat} (h : 2 ≤ n) : (sib n).log2 = n.log2 := by
  have h1 := log2_half h
  have h2 := log2_half (sib_pos h)
  rw [sib_half] at h2; omega
theorem anc_half {n d : Nat} (h : 2 ≤ n) (hd : d < n.log2) : anc n d = anc (n / 2) d := by
  have h1 := log2_half h
  unfold anc
  rw [show n.log2 - d = 1 + ((n / 2).log2 - d) by omega, Nat.pow_add, Nat.pow_one, Nat.div_div_eq_div_mul]
theorem anc_sib {n d : Nat} (h : 2 ≤ n) (hd : d < n.log2) : anc (sib n) d = anc n d := by
  rw [anc_half h hd, anc_half (sib_pos h) (by rw [sib_log2 h]; exact hd), sib_half]
theorem anc_two {x e : Nat} (hx : x ≠ 0) (h1 : 1 ≤ e) (h2 : e ≤ x.log2) : 2 ≤ anc x e := by
  have h := anc_log2 hx h2
  have h0 := anc_ne (d := e) hx
  have := (log2_iff h0).1 h
  have := pow_mono h1
  omega
theorem pair_sb {h x t e : Nat} (hh : 1 ≤ h ∧ h ≤ 32) (hx : x ≠ 0) (hl : x.log2 = h) (ht : t < e) (he : e ≤ h) :
    Sb h (anc x t) (sib (anc x e)) ∧ Abv (anc x t) x ∧ ¬ Abv (sib (anc x e)) x ∧ sib (anc x e) ≠ 0 ∧ (anc x t).log2 = t ∧ (sib (anc x e)).log2 = e := by
  have l1 := anc_log2 hx (show t ≤ x.log2 by omega)
  have l2 := anc_log2 hx (show e ≤ x.log2 by omega)
  have n1 := anc_ne (d := t) hx
  have n2 := anc_two hx (show 1 ≤ e by omega) (by omega)
  have n3 := sib_pos n2
  have l3 := sib_log2 n2
  have s0 : sib (anc x e) ≠ 0 := by omega
  refine ⟨⟨⟨hh.1, hh.2, n1, by omega⟩, .inr ⟨⟨hh.1, hh.2, s0, by omega⟩, fun z => ?_, by omega, ?_⟩⟩, abv_anc hx (by omega), ?_, s0, l1, by omega⟩
  · rw [← z] at l3; omega
  · rw [l1, anc_sib n2 (by omega), anc_anc hx (by omega) (by omega)]
  · rintro ⟨_, z⟩
    rw [l3, l2] at z
    exact sib_ne _ z.symm
def okp (h : Nat) (s : Int) (i j : Nat) : Bool := decide (s ≠ 3) || decide (Usf h i j)
def inl (h : Nat) (s : Int) (x t : Nat) : Nat → Nat → List (Nat × Nat)
  | _, 0 => []
  | e, m + 1 => (if okp h s (anc x t) (sib (anc x e)) = true then [(anc x t, sib (anc x e))] else []) ++ inl h s x t (e + 1) m
def outl (h : Nat) (s : Int) (x : Nat) : Nat → Nat → List (Nat × Nat)
  | _, 0 => []
  | t, m + 1 => inl h s x t (t + 1) (h - t) ++ outl h s x (t + 1) m
def prs (h : Nat) (s : Int) (x : Nat) : List (Nat × Nat) := if s = 1 then (List.range (h + 1)).map fun d => (anc x d, 0) else (1, 0) :: outl h s x 0 h
theorem mem_inl {h : Nat} {s : Int} {x t : Nat} {p : Nat × Nat} : ∀ {m e : Nat}, p ∈ inl h s x t e m ↔ ∃ d, e ≤ d ∧ d < e + m ∧ p = (anc x t, sib (anc x d)) ∧ okp h s (anc x t) (sib (anc x d)) = true
  | 0, e => by simp [inl]; omega
  | m + 1, e => by
    rw [inl, List.mem_append, mem_inl (m := m)]
    constructor
    · rintro (z | ⟨d, h1, h2, h3⟩)
      · split at z
        · rename_i c
          simp only [List.mem_singleton] at z
          exact ⟨e, Nat.le_refl _, by omega, z, c⟩
        · simp at z
      · exact ⟨d, by omega, by omega, h3⟩
    · rintro ⟨d, h1, h2, h3, h4⟩
      by_cases c : d = e
      · subst c; left; rw [if_pos h4]; simp [h3]
      · right; exact ⟨d, by omega, by omega, h3, h4⟩
theorem mem_outl {h : Nat} {s : Int} {x : Nat} {p : Nat × Nat} : ∀ {m t : Nat}, t + m = h → (p ∈ outl h s x t m ↔ ∃ q d, t ≤ q ∧ q < d ∧ d ≤ h ∧ p = (anc x q, sib (anc x d)) ∧ okp h s (anc x q) (sib (anc x d)) = true)
  | 0, t, ht => by simp [outl]; omega
  | m + 1, t, ht => by
    rw [outl, List.mem_append, mem_inl, mem_outl (m := m) (by omega)]
    constructor
    · rintro (⟨d, h1, h2, h3, h4⟩ | ⟨q, d, h1, h2, h3, h4⟩)
      · exact ⟨t, d, Nat.le_refl _, by omega, by omega, h3, h4⟩
      · exact ⟨q, d, by omega, h2, h3, h4⟩
    · rintro ⟨q, d, h1, h2, h3, h4⟩
      by_cases c : q = t
      · subst c; left; exact ⟨d, by omega, by omega, h4⟩
      · right; exact ⟨q, d, by omega, h2, h3, h4⟩
theorem inl_len {h : Nat} {s : Int} {x t : Nat} : ∀ {m e : Nat}, (inl h s x t e m).length ≤ m
  | 0, e => by simp [inl]
  | m + 1, e => by
    rw [inl, List.length_append]
    have := inl_len (h := h) (s := s) (x := x) (t := t) (m := m) (e := e + 1)
    split <;> simp <;> omega
theorem outl_len {h : Nat} {s : Int} {x : Nat} : ∀ {m t : Nat}, (outl h s x t m).length ≤ m * h
  | 0, t => by simp [outl]
  | m + 1, t => by
    rw [outl, List.length_append, Nat.add_mul, Nat.one_mul]
    have := outl_len (h := h) (s := s) (x := x) (m := m) (t := t + 1)
    have := inl_len (h := h) (s := s) (x := x) (t := t) (m := h - t) (e := t + 1)
    omega
theorem prs_len {h : Nat} (hh : h ≤ 32) (s : Int) (x : Nat) : (prs h s x).length ≤ 1025 := by
  unfold prs
  split
  · simp; omega
  · have := outl_len (h := h) (s := s) (x := x) (m := h) (t := 0)
    have : h * h ≤ 32 * 32 := Nat.mul_le_mul hh hh
    simp only [List.length_cons]; omega
theorem prs_mem {H x : Nat} {s : Int} (hs : Sch s) (hh : 1 ≤ H ∧ H ≤ 32) (hx : x ≠ 0) (hl : x.log2 = H) {q : Nat × Nat} (hq : q ∈ prs H s x) :
    Sb H q.1 q.2 ∧ Abv q.1 x ∧ (q.2 = 0 ∨ ¬ Abv q.2 x) ∧ May H s q.1 q.2 := by
  rw [sch_iff] at hs
  unfold prs at hq
  by_cases s1 : s = 1
  · rw [if_pos s1] at hq
    simp only [List.mem_map, List.mem_range] at hq
    obtain ⟨d, hd, rfl⟩ := hq
    have l1 := anc_log2 hx (show d ≤ x.log2 by omega)
    have l2 : (anc x d).log2 ≤ H := by omega
    exact ⟨⟨⟨hh.1, hh.2, anc_ne hx, l2⟩, .inl rfl⟩, abv_anc hx (by omega), .inl rfl, .inl ⟨s1, rfl⟩⟩
  · rw [if_neg s1] at hq
    rcases List.mem_cons.1 hq with rfl | hq
    · have n1 : Nd H 1 := nd_root.2 hh
      refine ⟨⟨n1, .inl rfl⟩, abv_root hx, .inl rfl, ?_⟩
      by_cases s2 : s = 2
      · exact .inr (.inl ⟨s2, .inr rfl⟩)
      · exact .inr (.inr ⟨s1, s2, (usf_0 _ _).2 rfl⟩)
    · obtain ⟨t, d, h1, h2, h3, rfl, o⟩ := (mem_outl (by omega)).1 hq
      obtain ⟨a, b, c, e, _, _⟩ := pair_sb hh hx hl h2 h3
      refine ⟨a, b, .inr c, ?_⟩
      by_cases s2 : s = 2
      · exact .inr (.inl ⟨s2, .inl e⟩)
      · refine .inr (.inr ⟨s1, s2, ?_⟩)
        have s3 : s = 3 := by omega
        simpa [okp, s3] using o
def ints (l : List Nat) : List Int := l.map Int.ofNat
theorem ints_len (l : List Nat) : (ints l).length = l.length := by simp [ints]
theorem ints_rd {l : List Nat} {i : Nat} (h : i < l.length) : rd (ints l) (i : Int) = ((l[i] : Nat) : Int) := by
  unfold rd ints
  simp [List.getD_eq_getElem?_getD, h]
theorem rd_cast (l : List Int) {i : Nat} (h : i < l.length) : rd l (i : Int) = l[i] := by
  unfold rd
  simp [List.getD_eq_getElem?_getD, h]
set_option maxRecDepth 100000 in
theorem len8_all : ∀ i : Fin 256, bt (⟨#[0, 1, 2, 2, 3, 3, 3, 3, 4, 4, 4, 4, 4, 4, 4, 4, 5, 5, 5, 5, 5, 5, 5, 5, 5, 5, 5, 5, 5, 5, 5, 5, 6, 6, 6, 6, 6, 6, 6, 6, 6, 6, 6, 6, 6, 6, 6, 6, 6, 6, 6, 6, 6, 6, 6, 6, 6, 6, 6, 6, 6, 6, 6, 6, 7, 7, 7, 7, 7, 7, 7, 7, 7, 7, 7, 7, 7, 7, 7, 7, 7, 7, 7, 7, 7, 7, 7, 7, 7, 7, 7, 7, 7, 7, 7, 7, 7, 7, 7, 7, 7, 7, 7, 7, 7, 7, 7, 7, 7, 7, 7, 7, 7, 7, 7, 7, 7, 7, 7, 7, 7, 7, 7, 7, 7, 7, 7, 7, 8, 8, 8, 8, 8, 8, 8, 8, 8, 8, 8, 8, 8, 8, 8, 8, 8, 8, 8, 8, 8, 8, 8, 8, 8, 8, 8, 8, 8, 8, 8, 8, 8, 8, 8, 8, 8, 8, 8, 8, 8, 8, 8, 8, 8, 8, 8, 8, 8, 8, 8, 8, 8, 8, 8, 8, 8, 8, 8, 8, 8, 8, 8, 8, 8, 8, 8, 8, 8, 8, 8, 8, 8, 8, 8, 8, 8, 8, 8, 8, 8, 8, 8, 8, 8, 8, 8, 8, 8, 8, 8, 8, 8, 8, 8, 8, 8, 8, 8, 8, 8, 8, 8, 8, 8, 8, 8, 8, 8, 8, 8, 8, 8, 8, 8, 8, 8, 8, 8, 8, 8, 8, 8, 8, 8, 8, 8, 8]⟩ : ByteArray) (i.val : Int) = (sz i.val : Int) := by decide +kernel
set_option maxRecDepth 100000 in
theorem len8 {i : Nat} (h : i < 256) : bt (⟨#[0, 1, 2, 2, 3, 3, 3, 3, 4, 4, 4, 4, 4, 4, 4, 4, 5, 5, 5, 5, 5, 5, 5, 5, 5, 5, 5, 5, 5, 5, 5, 5, 6, 6, 6, 6, 6, 6, 6, 6, 6, 6, 6, 6, 6, 6, 6, 6, 6, 6, 6, 6, 6, 6, 6, 6, 6, 6, 6, 6, 6, 6, 6, 6, 7, 7, 7, 7, 7, 7, 7, 7, 7, 7, 7, 7, 7, 7, 7, 7, 7, 7, 7, 7, 7, 7, 7, 7, 7, 7, 7, 7, 7, 7, 7, 7, 7, 7, 7, 7, 7, 7, 7, 7, 7, 7, 7, 7, 7, 7, 7, 7, 7, 7, 7, 7, 7, 7, 7, 7, 7, 7, 7, 7, 7, 7, 7, 7, 8, 8, 8, 8, 8, 8, 8, 8, 8, 8, 8, 8, 8, 8, 8, 8, 8, 8, 8, 8, 8, 8, 8, 8, 8, 8, 8, 8, 8, 8, 8, 8, 8, 8, 8, 8, 8, 8, 8, 8, 8, 8, 8, 8, 8, 8, 8, 8, 8, 8, 8, 8, 8, 8, 8, 8, 8, 8, 8, 8, 8, 8, 8, 8, 8, 8, 8, 8, 8, 8, 8, 8, 8, 8, 8, 8, 8, 8, 8, 8, 8, 8, 8, 8, 8, 8, 8, 8, 8, 8, 8, 8, 8, 8, 8, 8, 8, 8, 8, 8, 8, 8, 8, 8, 8, 8, 8, 8, 8, 8, 8, 8, 8, 8, 8, 8, 8, 8, 8, 8, 8, 8, 8, 8, 8, 8, 8, 8]⟩ : ByteArray) (i : Int) = (sz i : Int) := len8_all ⟨i, h⟩
set_option maxRecDepth 100000 in
theorem len64_j (k n c : Nat) (hn : n < 4294967296) (hc : c ≤ 32) : bits_Len64.j0 (k + 1) (n : Int) (c : Int) = some ((c + sz n : Nat) : Int) := by
  have h32 : sz n ≤ 32 := sz_le hn
  simp only [bits_Len64.j0]
  by_cases h1 : 65536 ≤ n
  · have e1 := sz_div (n := n) (k := 16) h1
    rw [if_pos (by omega)]
    by_cases h2 : 256 ≤ n / 65536
    · have e2 := sz_div (n := n / 65536) (k := 8) h2
      have i1 : n / 65536 / 256 < 256 := by omega
      have e3 : ((n : Int) / 65536 / 256) % 256 = ((n / 65536 / 256 : Nat) : Int) := by omega
      rw [if_pos (by omega), e3, if_pos (by omega), if_pos (by omega), len8 i1]
      have e1' : sz n = sz (n / 65536) + 16 := e1
      have e2' : sz (n / 65536) = sz (n / 65536 / 256) + 8 := e2
      rw [w64 (x := (c : Int) + 16) (by omega) (by omega), w64 (x := (c : Int) + 16 + 8) (by omega) (by omega), w64 (x := (sz (n / 65536 / 256) : Int)) (by omega) (by omega), w64 (by omega) (by omega)]
      congr 1; omega
    · have i1 : n / 65536 < 256 := by omega
      have e3 : ((n : Int) / 65536) % 256 = ((n / 65536 : Nat) : Int) := by omega
      have e1' : sz n = sz (n / 65536) + 16 := e1
      rw [if_neg (by omega), e3, if_pos (by omega), if_pos (by omega), len8 i1]
      rw [w64 (x := (c : Int) + 16) (by omega) (by omega), w64 (x := (sz (n / 65536) : Int)) (by omega) (by omega), w64 (by omega) (by omega)]
      congr 1; omega
  · rw [if_neg (by omega)]
    by_cases h2 : 256 ≤ n
    · have e2 : sz n = sz (n / 256) + 8 := sz_div (n := n) (k := 8) h2
      have i1 : n / 256 < 256 := by omega
      have e3 : ((n : Int) / 256) % 256 = ((n / 256 : Nat) : Int) := by omega
      rw [if_pos (by omega), e3, if_pos (by omega), if_pos (by omega), len8 i1]
      rw [w64 (x := (c : Int) + 8) (by omega) (by omega), w64 (x := (sz (n / 256) : Int)) (by omega) (by omega), w64 (by omega) (by omega)]
      congr 1; omega
    · have e3 : (n : Int) % 256 = (n : Int) := by omega
      rw [if_neg (by omega), e3, if_pos (by omega), if_pos (by omega), len8 (by omega)]
      rw [w64 (x := (sz n : Int)) (by omega) (by omega), w64 (by omega) (by omega)]
      congr 1
theorem len64 {n : Nat} (hn : n < 18446744073709551616) (k : Nat) : bits_Len64.f (k + 1) (n : Int) = some (sz n : Int) := by
  unfold bits_Len64.f
  by_cases h : 4294967296 ≤ n
  · have e : sz n = sz (n / 4294967296) + 32 := sz_div (n := n) (k := 32) h
    have := len64_j k (n / 4294967296) 32 (by omega) (by omega)
    rw [if_pos (by omega), show (n : Int) / 4294967296 = ((n / 4294967296 : Nat) : Int) by omega, show (32 : Int) = ((32 : Nat) : Int) by rfl, this]
    congr 2; omega
  · have := len64_j k n 0 (by omega) (by omega)
    rw [if_neg (by omega), show (0 : Int) = ((0 : Nat) : Int) by rfl, this]
    simp
theorem depth_eq {n : Nat} (h0 : n ≠ 0) (hn : n < 18446744073709551616) (k : Nat) : node_depth.f (k + 1) (n : Int) = some (n.log2 : Int) := by
  have := sz_le (k := 64) hn
  unfold node_depth.f
  rw [len64 hn]; simp only [Option.bind_some]
  rw [w64 (by omega) (by omega)]
  unfold sz; rw [if_neg h0]; congr 1; omega
theorem high_eq (h : Int) : node_high.f h = some (decide (Hi h)) := by
  unfold node_high.f
  by_cases h1 : h ≥ 1
  · rw [if_pos h1]; congr 1; rw [decide_eq_decide, hi_iff]; omega
  · rw [if_neg h1]; congr 1; symm; rw [decide_eq_false_iff_not, hi_iff]; omega
theorem check_eq (h : Int) {n : Nat} (hn : n < 18446744073709551616) (k : Nat) : node_Check.f (k + 1) h (n : Int) = some (if Nd h.toNat n then 0 else 1) := by
  unfold node_Check.f
  rw [high_eq]; simp only [Option.bind_some]
  by_cases h1 : Hi h
  · rw [decide_eq_true h1, if_pos rfl]
    rw [hi_iff] at h1
    by_cases h2 : n = 0
    · rw [if_pos (by omega), if_neg (by rw [nd_iff]; omega)]
    · rw [if_neg (by omega), depth_eq h2 hn]; simp only [Option.bind_some]
      by_cases h3 : (n.log2 : Int) > h
      · rw [if_pos h3, if_neg (by rw [nd_iff]; omega)]
      · rw [if_neg h3, if_pos (by rw [nd_iff]; omega)]
  · rw [decide_eq_false h1, if_neg (by simp), if_neg (by rw [nd_iff]; rw [hi_iff] at h1; omega)]
theorem both_eq (h : Int) {a b : Nat} (ha : a < 18446744073709551616) (hb : b < 18446744073709551616) (k : Nat) :
    node_both.f (k + 1) h (a : Int) (b : Int) = some (if Nd h.toNat a ∧ Nd h.toNat b then 0 else 1) := by
  unfold node_both.f
  rw [check_eq h ha, check_eq h hb]; simp only [Option.bind_some]
  by_cases h1 : Nd h.toNat a <;> by_cases h2 : Nd h.toNat b <;> simp [h1, h2]
theorem shr_eq (n : Nat) {k : Nat} (hk : k ≤ 64) : shr .u64 (n : Int) (k : Int) = ((n / 2 ^ k : Nat) : Int) := by
  unfold shr
  have : min ((k : Int)).toNat (IntKind.bits .u64) = k := by
    show min ((k : Int)).toNat 64 = k
    omega
  rw [this]; push_cast; rfl
theorem above_eq {a b : Nat} (ha0 : a ≠ 0) (hb0 : b ≠ 0) (ha : a < 18446744073709551616) (hb : b < 18446744073709551616) (k : Nat) :
    node_above.f (k + 1) (a : Int) (b : Int) = some (decide (Abv a b)) := by
  have h1 := log2_64 ha
  have h2 := log2_64 hb
  unfold node_above.f
  rw [depth_eq ha0 ha, depth_eq hb0 hb]; simp only [Option.bind_some]
  unfold Abv anc
  by_cases h : a.log2 ≤ b.log2
  · rw [if_pos (by omega), w64 (by omega) (by omega), if_pos (by omega), show ((b.log2 : Int) - a.log2) = ((b.log2 - a.log2 : Nat) : Int) by omega, shr_eq _ (by omega)]
    congr 1
    simp only [h, true_and]
    by_cases e : b / 2 ^ (b.log2 - a.log2) = a
    · rw [decide_eq_true e, e]; simp
    · rw [decide_eq_false e, beq_eq_false_iff_ne]; omega
  · rw [if_neg (by omega)]; congr 1; simp [h]
theorem Above_eq (h : Int) {a b : Nat} (ha : a < 18446744073709551616) (hb : b < 18446744073709551616) (k : Nat) :
    node_Above.f (k + 1) h (a : Int) (b : Int) = some (if Nd h.toNat a ∧ Nd h.toNat b then (decide (Abv a b), 0) else (false, 1)) := by
  unfold node_Above.f
  rw [both_eq h ha hb]; simp only [Option.bind_some]
  by_cases h1 : Nd h.toNat a ∧ Nd h.toNat b
  · rw [if_pos h1, if_pos rfl, above_eq h1.1.2.2.1 h1.2.2.2.1 ha hb, if_pos h1]; rfl
  · rw [if_neg h1, if_neg (by omega), if_neg h1]
theorem Depth_eq (h : Int) {n : Nat} (hn : n < 18446744073709551616) (k : Nat) : node_Depth.f (k + 1) h (n : Int) = some (if Nd h.toNat n then ((n.log2 : Int), 0) else (0, 1)) := by
  unfold node_Depth.f
  rw [check_eq h hn]; simp only [Option.bind_some]
  by_cases h1 : Nd h.toNat n
  · rw [if_pos h1, if_pos rfl, depth_eq h1.2.2.1 hn, if_pos h1]; rfl
  · rw [if_neg h1, if_neg (by omega), if_neg h1]
theorem sCheck_eq (h : Int) {i j : Nat} (hi : i < 18446744073709551616) (hj : j < 18446744073709551616) (k : Nat) :
    sub_Check.f (k + 1) h (i : Int) (j : Int) = some (if Sb h.toNat i j then 0 else 1) := by
  unfold sub_Check.f
  by_cases h0 : j = 0
  · subst h0
    rw [if_pos (by rfl), check_eq h hi]; simp only [Option.bind_some]
    by_cases h1 : Nd h.toNat i
    · rw [if_pos h1, if_pos ⟨h1, .inl rfl⟩]
    · rw [if_neg h1, if_neg (fun z => h1 z.1)]
  · rw [if_neg (by omega), Above_eq h hi hj]; simp only [Option.bind_some]
    by_cases h1 : Nd h.toNat i ∧ Nd h.toNat j
    · rw [if_pos h1]; simp only [if_true]
      by_cases h2 : Abv i j
      · rw [decide_eq_true h2, if_pos rfl]
        by_cases h3 : i = j
        · rw [if_pos (by omega), if_neg (by rintro ⟨_, z | ⟨_, z, _⟩⟩ <;> omega)]
        · rw [if_neg (by omega), if_pos ⟨h1.1, .inr ⟨h1.2, h3, h2⟩⟩]
      · rw [decide_eq_false h2, if_neg (by simp), if_neg (fun z => z.2.elim (fun y => h0 y) (fun y => h2 y.2.2))]
    · rw [if_neg h1, if_neg (by simp), if_neg (fun z => z.2.elim (fun y => h0 y) (fun y => h1 ⟨z.1, y.1⟩))]
theorem checkRoot_eq (h : Int) (k : Nat) : node_Check.f (k + 1) h 1 = some (if Hi h then 0 else 1) := by
  have := check_eq h root_lt k
  rw [show ((1 : Nat) : Int) = 1 by rfl] at this
  rw [this]
  by_cases h1 : Hi h
  · rw [if_pos h1, if_pos ((nd_root' h).2 h1)]
  · rw [if_neg h1, if_neg (fun z => h1 ((nd_root' h).1 z))]
theorem stepL_eq : ∀ h : Fin 33, 1 ≤ h.val → sub_Step.l0 8 (h.val : Int) 1 = some ((stp h.val : Int), 0) := by decide +kernel
theorem Step_eq (h : Int) {k : Nat} (hk : 10 ≤ k) : sub_Step.f k h = some (if Hi h then ((stp h.toNat : Int), 0) else (0, 1)) := by
  obtain ⟨k, rfl⟩ : ∃ m, k = m + 1 := ⟨k - 1, by omega⟩
  unfold sub_Step.f
  rw [checkRoot_eq]; simp only [Option.bind_some]
  by_cases h1 : Hi h
  · rw [if_pos h1, if_pos rfl, if_pos h1]
    rw [hi_iff] at h1
    have := stepL_eq ⟨h.toNat, by omega⟩ (by show 1 ≤ h.toNat; omega)
    have e : ((h.toNat : Nat) : Int) = h := by omega
    simp only [e] at this
    exact at_rounds (g := fun k => sub_Step.l0 k h 1) (fun k => (sub_Step.mono_l k) _ _) (show 8 ≤ k + 1 by omega) this
  · rw [if_neg h1, if_neg (by omega), if_neg h1]
theorem mn_cast (a b : Nat) : mn (a : Int) (b : Int) = ((min a b : Nat) : Int) := by unfold mn; split <;> omega
theorem nxt_cast (h i : Nat) (hi : i ≤ 32) (hh : h ≤ 32) : mn (wrap64 (wrap64 (wrap64 (Int.tdiv (i : Int) (stp h : Int)) + 1) * (stp h : Int))) (h : Int) = (nxt h i : Int) := by
  obtain ⟨s0, s1⟩ := stp_pos h
  have hd : i / stp h ≤ 32 := Nat.le_trans (Nat.div_le_self _ _) hi
  have hm : (i / stp h + 1) * stp h ≤ 33 * 6 := Nat.mul_le_mul (by omega) s1
  rw [Int.tdiv_eq_ediv_of_nonneg (by omega), ← Int.natCast_ediv]
  unfold nxt
  generalize i / stp h = r at hd hm
  rw [w64 (x := (r : Int)) (by omega) (by omega), show (r : Int) + 1 = ((r + 1 : Nat) : Int) by omega, w64 (x := ((r + 1 : Nat) : Int)) (by omega) (by omega), ← Int.natCast_mul]
  generalize (r + 1) * stp h = q at hm
  rw [w64 (by omega) (by omega), mn_cast]
theorem depths_eq {h i j : Nat} (hs : Sb h i j) (hj : j < 18446744073709551616) {k : Nat} (hk : 10 ≤ k) :
    sub_depths.f k (h : Int) (i : Int) (j : Int) = some ((i.log2 : Int), (if j = 0 then 0 else (j.log2 : Int)), (nxt h i.log2 : Int), decide (Spc h i.log2), 0) := by
  obtain ⟨hi, hj'⟩ := hs
  have hl := hi.2.2.2
  have h32 := hi.2.1
  obtain ⟨s0, s1⟩ := stp_pos h
  have hilt := hi.lt33
  have hH : Hi (h : Int) := by rw [hi_iff]; have := hi.1; omega
  have hsp : ∀ (b : Bool), b = decide ((i.log2 : Int) = h) → (if ((i.log2 % stp h : Nat) : Int) = 0 then true else b) = decide (Spc h i.log2) := by
    intro b hb
    by_cases c : i.log2 % stp h = 0
    · rw [if_pos (by omega)]; symm; rw [decide_eq_true_iff]; exact .inl c
    · rw [if_neg (by omega), hb, decide_eq_decide, spc_iff]; omega
  have hbe : (((i.log2 : Int)) == (h : Int)) = decide ((i.log2 : Int) = h) := by
    by_cases c : (i.log2 : Int) = h
    · rw [decide_eq_true c]; simp [c]
    · rw [decide_eq_false c]; simp [c]
  obtain ⟨k, rfl⟩ : ∃ m, k = m + 1 := ⟨k - 1, by omega⟩
  unfold sub_depths.f
  rw [Step_eq _ (by omega), if_pos hH]; simp only [Option.bind_some, Int.toNat_natCast]
  rw [if_pos trivial, Depth_eq _ (by omega), Int.toNat_natCast, if_pos hi]; simp only [Option.bind_some]
  rw [if_pos trivial]
  by_cases h0 : j = 0
  · subst h0
    rw [if_pos (by rfl), if_neg (by omega), nxt_cast h i.log2 (by omega) h32, tmod_cast]
    simp only [if_true]
    rw [← hsp _ hbe]
    split <;> simp
  · obtain ⟨hj1, _, _⟩ := hj'.resolve_left h0
    rw [if_neg (by omega), Depth_eq _ hj, Int.toNat_natCast, if_pos hj1]; simp only [Option.bind_some]
    rw [if_neg (by omega), nxt_cast h i.log2 (by omega) h32, tmod_cast, if_neg h0]
    rw [← hsp _ hbe]
    split <;> simp
theorem Useful_eq (h : Int) {i j : Nat} (hi : i < 18446744073709551616) (hj : j < 18446744073709551616) {k : Nat} (hk : 10 ≤ k) :
    sub_Useful.f k h (i : Int) (j : Int) = some (if Sb h.toNat i j then (decide (Usf h.toNat i j), 0) else (false, 1)) := by
  obtain ⟨k, rfl⟩ : ∃ m, k = m + 1 := ⟨k - 1, by omega⟩
  unfold sub_Useful.f
  rw [sCheck_eq h hi hj]; simp only [Option.bind_some]
  by_cases h1 : Sb h.toNat i j
  · have e := sb_h h1
    rw [if_pos h1, if_pos rfl, if_pos h1]
    by_cases h0 : j = 0
    · subst h0
      rw [if_pos (by rfl)]; congr 2
      by_cases c : i = 1
      · rw [decide_eq_true ((usf_0 _ _).2 c), c]; rfl
      · rw [decide_eq_false (fun z => c ((usf_0 _ _).1 z)), beq_eq_false_iff_ne]; omega
    · have := depths_eq h1 hj (k := k + 1) (by omega)
      rw [e] at this
      rw [if_neg (by omega), this]; simp only [Option.bind_some, if_true]
      rw [if_neg h0]
      have hu := usf_j h.toNat i h0
      by_cases c : Spc h.toNat i.log2
      · rw [decide_eq_true c, if_pos rfl, decide_eq_true (hu.2 (.inl c))]
      · rw [decide_eq_false c, if_neg (by simp)]; congr 2; rw [decide_eq_decide, hu]
        constructor
        · intro z; right; omega
        · rintro (z | z)
          · exact absurd z c
          · omega
  · rw [if_neg h1, if_neg (by omega), if_neg h1]
def sbs (l : List (Nat × Nat)) : List S39 := l.map fun p => ⟨(p.1 : Int), (p.2 : Int)⟩
theorem shl_eq {n k : Nat} (hk : k ≤ 64) (hb : n * 2 ^ k < 18446744073709551616) : shl .u64 (n : Int) (k : Int) = ((n * 2 ^ k : Nat) : Int) := by
  unfold shl
  have : min ((k : Int)).toNat (IntKind.bits .u64) = k := by
    show min ((k : Int)).toNat 64 = k
    omega
  have e : (n : Int) * 2 ^ k = ((n * 2 ^ k : Nat) : Int) := by push_cast; rfl
  rw [this, e, wu64 (by omega) (by omega)]
theorem nLeaf_eq (h : Int) {p : Nat} (hp : p < 18446744073709551616) : node_Leaf.f h (p : Int) = some (if Hi h then (if p < 2 ^ h.toNat then ((2 ^ h.toNat + p : Nat) : Int) else 0, if p < 2 ^ h.toNat then 0 else 4) else (0, 1)) := by
  unfold node_Leaf.f
  rw [high_eq]; simp only [Option.bind_some]
  by_cases h1 : Hi h
  · have hh := h1
    rw [hi_iff] at hh
    rw [decide_eq_true h1, if_pos rfl, if_pos (by omega), if_pos h1]
    have e : ((h.toNat : Nat) : Int) = h := by omega
    generalize hH : h.toNat = H at *
    subst e
    rw [shr_eq p (by omega)]
    have hz : 0 < 2 ^ H := pow_pos2 H
    by_cases c : p < 2 ^ H
    · have e1 : shl .u64 1 (H : Int) = ((2 ^ H : Nat) : Int) := by
        have hpH : 2 ^ H ≤ 4294967296 := pow_le_h (by omega)
        have := shl_eq (n := 1) (k := H) (by omega) (by omega)
        rw [Nat.one_mul] at this; exact this
      rw [Nat.div_eq_of_lt c, if_neg (by omega), e1, if_pos c, if_pos c]
      have hpH : 2 ^ H ≤ 4294967296 := pow_le_h (by omega)
      congr 2
      rw [Go.bits_or_u64_nat _ _ (by omega) (by omega)]
      have : 2 ^ H ||| p = 2 ^ H + p := by
        have := Nat.two_pow_add_eq_or_of_lt c 1
        rw [Nat.mul_one] at this; exact this.symm
      rw [this]
    · have : 1 ≤ p / 2 ^ H := (Nat.le_div_iff_mul_le hz).2 (by omega)
      rw [if_pos (by omega), if_neg c, if_neg c]
  · rw [decide_eq_false h1, if_neg (by simp), if_neg h1]
theorem rdT_sbs {l : List (Nat × Nat)} {i : Nat} (h : i < l.length) : rd_T39 (sbs l) (i : Int) = ⟨(l[i].1 : Int), (l[i].2 : Int)⟩ := by
  unfold rd_T39 sbs
  simp [List.getD_eq_getElem?_getD, h]
theorem sbs_len (l : List (Nat × Nat)) : (sbs l).length = l.length := by simp [sbs]
theorem lcheck_eq (h s : Int) (k : Nat) : layer_check.f (k + 1) h s = some (if Sch s ∧ Hi h then 0 else 1) := by
  unfold layer_check.f
  by_cases c1 : s < 1
  · rw [if_pos c1, if_neg (by rw [sch_iff]; omega)]
  · rw [if_neg c1]
    by_cases c2 : s > 3
    · rw [if_pos c2, if_neg (by rw [sch_iff]; omega)]
    · rw [if_neg c2, checkRoot_eq]; simp only [bnd]
      by_cases c3 : Hi h
      · rw [if_pos c3, if_pos ⟨(sch_iff s).2 (by omega), c3⟩]
      · rw [if_neg c3, if_neg (fun z => c3 z.2)]
theorem May_eq (h s : Int) {i j : Nat} (hi' : i < 18446744073709551616) (hj : j < 18446744073709551616) {k : Nat} (hk : 12 ≤ k) :
    layer_May.f k h s (i : Int) (j : Int) = some (if Sch s ∧ Sb h.toNat i j then (decide (May h.toNat s i j), 0) else (false, 1)) := by
  obtain ⟨k, rfl⟩ : ∃ m, k = m + 1 := ⟨k - 1, by omega⟩
  unfold layer_May.f
  rw [lcheck_eq, sCheck_eq h hi' hj]; simp only [bnd]
  by_cases c1 : Sch s ∧ Hi h
  · rw [if_pos c1]; simp only [if_true]
    by_cases c2 : Sb h.toNat i j
    · have c3 : Sch s ∧ Sb h.toNat i j := ⟨c1.1, c2⟩
      rw [if_pos c2, if_pos c3]
      simp only [layer_May.j0]
      rw [if_neg (by simp)]
      by_cases e1 : s = 1
      · rw [if_pos e1]; congr 2
        rw [Bool.eq_iff_iff, decide_eq_true_iff, may_iff]
        simp [e1]
      · rw [if_neg e1]
        by_cases e2 : s = 2
        · rw [if_pos e2]
          by_cases e3 : j = 0
          · subst e3
            rw [if_pos (by rfl)]; congr 2
            rw [Bool.eq_iff_iff, decide_eq_true_iff, may_iff]
            simp [e2]; omega
          · rw [if_neg (by omega)]; congr 2
            symm; rw [decide_eq_true_iff, may_iff]
            simp [e2, e3]
        · rw [if_neg e2, Useful_eq h hi' hj (by omega), if_pos c2]; simp only [bnd]
          congr 2
          rw [decide_eq_decide, may_iff]
          simp [e1, e2]
    · rw [if_neg c2, if_neg (fun z => c2 z.2)]; simp [layer_May.j0]
  · have c3 : ¬ (Sch s ∧ Sb h.toNat i j) := by
      rintro ⟨a, b⟩
      refine c1 ⟨a, ?_⟩
      have := b.1; rw [nd_iff] at this; rw [hi_iff]; omega
    rw [if_neg c1, if_neg c3]; simp [layer_May.j0]
theorem lpairs_all : ∀ h : Fin 33, 1 ≤ h.val → layer_Pairs.l0 40 (h.val : Int) 0 (stp h.val : Int) (h.val : Int) 0 = some ((lpn h.val : Int), 0) := by decide +kernel
theorem lPairs_eq (h : Int) {k : Nat} (hk : 40 ≤ k) : layer_Pairs.f k h = some (if Hi h then ((lpn h.toNat : Int), 0) else (0, 1)) := by
  unfold layer_Pairs.f
  rw [Step_eq h (by omega)]; simp only [bnd]
  by_cases c : Hi h
  · have hh := c
    rw [hi_iff] at hh
    have e : ((h.toNat : Nat) : Int) = h := by omega
    have := lpairs_all ⟨h.toNat, by omega⟩ (by show 1 ≤ h.toNat; omega)
    simp only [e] at this
    rw [if_pos c]; simp only [if_true]
    exact at_rounds (g := fun k => layer_Pairs.l0 k h 0 (stp h.toNat : Int) h 0) (fun k => layer_Pairs.mono_l k _ _ _ _ _) hk (by rw [if_pos c]; exact this)
  · rw [if_neg c]; simp [c]
theorem Many14_eq (h s : Int) {k : Nat} (hk : 40 ≤ k) : store_Many.f k h s = some (if Sch s ∧ Hi h then ((pmn h.toNat s : Int), 0) else (0, 1)) := by
  unfold store_Many.f
  rw [lPairs_eq h hk]; simp only [bnd]
  by_cases c : Hi h
  · have hh := c
    rw [hi_iff] at hh
    obtain ⟨H, rfl⟩ := Int.eq_ofNat_of_zero_le (show 0 ≤ h by omega)
    have hl := lpn_all ⟨H, by omega⟩ (by show 1 ≤ H; omega)
    simp only at hl
    have h3 : H * (H + 1) ≤ 32 * 33 := Nat.mul_le_mul (by omega) (by omega)
    rw [if_pos c]; simp only [if_true, Int.toNat_natCast]
    by_cases s1 : s = 1
    · have : Sch s ∧ Hi (H : Int) := ⟨(sch_iff s).2 (by omega), c⟩
      rw [if_pos s1, if_pos this, w64 (by omega) (by omega)]; unfold pmn; rw [if_pos s1]; rfl
    · rw [if_neg s1]
      by_cases s2 : s = 2
      · have : Sch s ∧ Hi (H : Int) := ⟨(sch_iff s).2 (by omega), c⟩
        have e1 : (H : Int) * ((H : Int) + 1) = ((H * (H + 1) : Nat) : Int) := by push_cast; rfl
        rw [if_pos s2, if_pos this, w64 (x := (H : Int) + 1) (by omega) (by omega), e1]
        unfold pmn; rw [if_neg s1, if_pos s2]
        generalize H * (H + 1) = q at *
        rw [w64 (x := (q : Int)) (by omega) (by omega), Int.tdiv_eq_ediv_of_nonneg (by omega), w64 (x := (q : Int) / 2) (by omega) (by omega), w64 (by omega) (by omega)]
        congr 2
      · rw [if_neg s2]
        by_cases s3 : s = 3
        · have : Sch s ∧ Hi (H : Int) := ⟨(sch_iff s).2 (by omega), c⟩
          rw [if_pos s3, if_pos this]
          unfold pmn; rw [if_neg s1, if_neg s2]
          generalize H * (H + 1) = q at *
          rw [w64 (by omega) (by omega)]; rfl
        · rw [if_neg s3, if_neg (fun z => by have := z.1; rw [sch_iff] at this; omega)]
  · rw [if_neg c]; simp [c]
theorem sbs_app (l m : List (Nat × Nat)) : sbs l ++ sbs m = sbs (l ++ m) := by simp [sbs]
theorem shr_anc {x h d : Nat} (hl : x.log2 = h) (hh : h ≤ 32) (hd : d ≤ h) : shr .u64 (x : Int) (wrap64 ((h : Int) - (d : Int))) = (anc x d : Int) := by
  rw [w64 (by omega) (by omega), show (h : Int) - (d : Int) = ((h - d : Nat) : Int) by omega, shr_eq _ (by omega)]
  unfold anc; rw [hl]
theorem xor_sib {n : Nat} (hn : n < 8589934592) : Go.bits .xor .u64 (n : Int) 1 = (sib n : Int) := by
  have := Go.bits_xor_u64_nat n 1 (by omega) (by omega)
  exact this
theorem pairs_l0 {h x : Nat} (hl : x.log2 = h) (hh : h ≤ 32) : ∀ (m d k : Nat) (L : List (Nat × Nat)), d + m = h + 1 → m < k → L.length + m ≤ 40 →
    store_Pairs.l0 k (h : Int) (x : Int) (sbs L) ((h + 1 : Nat) : Int) (d : Int) = some (sbs (L ++ ((List.range m).map fun q => (anc x (d + q), 0))), 0) := by
  intro m
  induction m with
  | zero =>
    intro d k L hd hk hL
    obtain ⟨k, rfl⟩ : ∃ m, k = m + 1 := ⟨k - 1, by omega⟩
    simp only [store_Pairs.l0]
    rw [if_neg (by omega)]; simp
  | succ m ih =>
    intro d k L hd hk hL
    obtain ⟨k, rfl⟩ : ∃ m, k = m + 1 := ⟨k - 1, by omega⟩
    simp only [store_Pairs.l0]
    rw [if_pos (by omega), if_pos (by rw [w64 (by omega) (by omega)]; omega), if_pos (by rw [sbs_len]; omega), shr_anc hl hh (by omega), w64 (x := (d : Int) + 1) (by omega) (by omega), show (d : Int) + 1 = ((d + 1 : Nat) : Int) by omega,
      show [(⟨(anc x d : Int), 0⟩ : S39)] = sbs [(anc x d, 0)] from rfl, sbs_app, ih (d + 1) k _ (by omega) (by omega) (by simp; omega)]
    congr 2
    rw [List.append_assoc, List.range_succ_eq_map]
    simp only [List.map_cons, List.map_map, List.singleton_append, Nat.add_zero]
    congr 4
    funext q
    simp only [Function.comp]
    rw [show d + 1 + q = d + (q + 1) by omega]
theorem pairs_l1 {h x : Nat} {s : Int} (hl : x.log2 = h) (hx : x ≠ 0) (h1 : 1 ≤ h) (hh : h ≤ 32) (hs : s ≠ 1) : ∀ (n t k : Nat) (L : List (Nat × Nat)), t + n = h → n * 40 + 20 ≤ k → L.length + n * 40 ≤ 2000 →
    store_Pairs.l1 k (h : Int) s (x : Int) (sbs L) (h : Int) (t : Int) = some (sbs (L ++ outl h s x t n), 0) ∧
    (t < h → ∀ (m e : Nat) (k : Nat) (L : List (Nat × Nat)), t < e → e + m = h + 1 → (n - 1) * 40 + 21 + m ≤ k → L.length + (n - 1) * 40 + m ≤ 2000 →
      store_Pairs.l2 k (h : Int) s (x : Int) (sbs L) (t : Int) (e : Int) (h : Int) (t : Int) = some (sbs (L ++ (inl h s x t e m ++ outl h s x (t + 1) (n - 1))), 0)) := by
  intro n
  have hxlt : x < 8589934592 := Nat.lt_of_lt_of_le (log2_hi x) (pow_le_32 (by omega))
  induction n with
  | zero =>
    intro t k L ht hk hL
    refine ⟨?_, fun c => absurd c (by omega)⟩
    obtain ⟨k, rfl⟩ : ∃ m, k = m + 1 := ⟨k - 1, by omega⟩
    simp only [store_Pairs.l1]
    rw [if_neg (by omega)]; simp [outl]
  | succ n ih =>
    have inner : ∀ (t : Nat), t + (n + 1) = h → ∀ (m e : Nat) (k : Nat) (L : List (Nat × Nat)), t < e → e + m = h + 1 → n * 40 + 21 + m ≤ k → L.length + n * 40 + m ≤ 2000 →
      store_Pairs.l2 k (h : Int) s (x : Int) (sbs L) (t : Int) (e : Int) (h : Int) (t : Int) = some (sbs (L ++ (inl h s x t e m ++ outl h s x (t + 1) n)), 0) := by
      intro t ht m
      induction m with
      | zero =>
        intro e k L he hm hk hL
        obtain ⟨k, rfl⟩ : ∃ m, k = m + 1 := ⟨k - 1, by omega⟩
        simp only [store_Pairs.l2]
        rw [if_neg (by omega), w64 (by omega) (by omega), show (t : Int) + 1 = ((t + 1 : Nat) : Int) by omega, (ih (t + 1) k L (by omega) (by omega) (by omega)).1]
        simp [inl]
      | succ m ihm =>
        intro e k L he hm hk hL
        obtain ⟨k, rfl⟩ : ∃ m, k = m + 1 := ⟨k - 1, by omega⟩
        obtain ⟨sb, _, _, _, _, _⟩ := pair_sb ⟨h1, hh⟩ hx hl he (show e ≤ h by omega)
        have a33 : anc x e < 8589934592 := Nat.lt_of_le_of_lt (anc_le x e) hxlt
        have b := sb_lt sb
        simp only [store_Pairs.l2]
        rw [if_pos (by omega), if_pos (by rw [w64 (by omega) (by omega)]; omega), if_pos (by rw [w64 (by omega) (by omega)]; omega), shr_anc hl hh (by omega), shr_anc hl hh (by omega), xor_sib a33, w64 (x := (e : Int) + 1) (by omega) (by omega), show (e : Int) + 1 = ((e + 1 : Nat) : Int) by omega,
          show [(⟨(anc x t : Int), (sib (anc x e) : Int)⟩ : S39)] = sbs [(anc x t, sib (anc x e))] from rfl, sbs_app]
        have r1 := ihm (e + 1) k (L ++ [(anc x t, sib (anc x e))]) (by omega) (by omega) (by omega) (by simp; omega)
        have r2 := ihm (e + 1) k L (by omega) (by omega) (by omega) (by omega)
        rw [sbs_len, inl]
        by_cases c3 : s = 3
        · have hu := Useful_eq (h : Int) b.1 b.2 (k := k) (by omega)
          rw [Int.toNat_natCast, if_pos sb] at hu
          rw [if_pos c3, hu]; simp only [bnd]
          rw [if_pos trivial]
          by_cases c4 : Usf h (anc x t) (sib (anc x e))
          · have o : okp h s (anc x t) (sib (anc x e)) = true := by simp [okp, c4]
            rw [decide_eq_true c4, if_pos rfl, if_pos (by omega), r1, if_pos o]
            simp [List.append_assoc]
          · have o : ¬ okp h s (anc x t) (sib (anc x e)) = true := by simp [okp, c3, c4]
            rw [decide_eq_false c4, if_neg (by simp), r2, if_neg o]
            simp
        · have o : okp h s (anc x t) (sib (anc x e)) = true := by simp [okp, c3]
          rw [if_neg c3, if_pos (by omega), r1, if_pos o]
          simp [List.append_assoc]
    intro t k L ht hk hL
    refine ⟨?_, fun c m e k L a1 a2 a3 a4 => inner t ht m e k L a1 a2 (by omega) (by omega)⟩
    obtain ⟨k, rfl⟩ : ∃ m, k = m + 1 := ⟨k - 1, by omega⟩
    simp only [store_Pairs.l1]
    rw [if_pos (by omega), w64 (by omega) (by omega), show (t : Int) + 1 = ((t + 1 : Nat) : Int) by omega, inner t ht (h - t) (t + 1) k L (by omega) (by omega) (by omega) (by omega), outl]
theorem Pairs_eq (h s : Int) {p : Nat} (hp : p < 18446744073709551616) {k : Nat} (hk : 1400 ≤ k) :
    store_Pairs.f k h s (p : Int) = some (if Sch s ∧ Lfi h p then (sbs (prs h.toNat s (2 ^ h.toNat + p)), 0) else ([], 1)) := by
  obtain ⟨k, rfl⟩ : ∃ m, k = m + 1 := ⟨k - 1, by omega⟩
  unfold store_Pairs.f
  rw [Many14_eq h s (by omega), nLeaf_eq h hp]; simp only [bnd]
  by_cases c1 : Sch s ∧ Hi h
  · rw [if_pos c1]; dsimp only
    rw [if_pos rfl, if_pos c1.2]
    by_cases c2 : p < 2 ^ h.toNat
    · have c3 : Sch s ∧ Lfi h p := ⟨c1.1, c1.2, c2⟩
      have hh := c1.2
      rw [hi_iff] at hh
      obtain ⟨H, rfl⟩ := Int.eq_ofNat_of_zero_le (show 0 ≤ h by omega)
      simp only [Int.toNat_natCast] at *
      have pm := pmn_le (h := H) (by omega) (by omega) s
      have hlog : (2 ^ H + p).log2 = H := leaf_log2 (by omega) (by rw [Nat.pow_succ]; omega)
      have hne : 2 ^ H + p ≠ 0 := by have := pow_pos2 H; omega
      rw [if_pos c2, if_pos c2, if_pos c3]
      simp only [store_Pairs.j0]
      rw [if_neg (by simp), if_pos (by omega), if_pos (by omega)]; simp only [bnd]
      by_cases s1 : s = 1
      · have := pairs_l0 hlog (by omega) (H + 1) 0 k [] (by omega) (by omega) (by simp; omega)
        rw [if_pos s1, w64 (by omega) (by omega), show (H : Int) + 1 = ((H + 1 : Nat) : Int) by omega, show (List.replicate 0 z39) = sbs [] from rfl, show (0 : Int) = ((0 : Nat) : Int) from rfl, this]
        unfold prs; rw [if_pos s1]; simp
      · have := (pairs_l1 (s := s) hlog hne (by omega) (by omega) s1 H 0 k [(1, 0)] (by omega) (by omega) (by simp; omega)).1
        rw [if_neg s1, if_pos (by simp), show (List.replicate 0 z39) ++ [(⟨1, 0⟩ : S39)] = sbs [(1, 0)] from rfl]
        rw [show ((0 : Nat) : Int) = 0 from rfl] at this
        rw [this]
        unfold prs; rw [if_neg s1]; rfl
    · have c3 : ¬ (Sch s ∧ Lfi h p) := fun z => c2 z.2.2
      rw [if_neg c2, if_neg c2, if_neg c3]; simp [store_Pairs.j0]
  · have c3 : ¬ (Sch s ∧ Lfi h p) := fun z => c1 ⟨z.1, z.2.1⟩
    rw [if_neg c1, if_neg c3]; simp [store_Pairs.j0]
def vl (v : Nat × Nat) : S29 := ⟨false, false, ⟨(v.1 : Int), (v.2 : Int)⟩, ⟨⟨0, 0⟩, ⟨0, 0⟩⟩, 0⟩
def en (p v : Nat × Nat) : S65 := ⟨⟨(p.1 : Int), (p.2 : Int)⟩, vl v⟩
def opn (v : S29) : Prop := v.f0 = false ∧ v.f1 = false ∧ v.f3 = ⟨⟨0, 0⟩, ⟨0, 0⟩⟩ ∧ v.f4 = 0
instance (v : S29) : Decidable (opn v) := by
  unfold opn
  have : Decidable (v.f3 = ⟨⟨0, 0⟩, ⟨0, 0⟩⟩) := decidable_of_iff (v.f3.f0.f0 = 0 ∧ v.f3.f0.f1 = 0 ∧ v.f3.f1.f0 = 0 ∧ v.f3.f1.f1 = 0) (by
    obtain ⟨_, _, _, ⟨⟨a, b⟩, ⟨c, d⟩⟩, _⟩ := v
    simp [and_assoc])
  exact inferInstance
theorem open_eq (v : S29) {k : Nat} (hk : 1 ≤ k) : store_open.f k [] v.f0 v.f1 v.f2.f0 v.f2.f1 v.f3.f0.f0 v.f3.f0.f1 v.f3.f1.f0 v.f3.f1.f1 v.f4 = some (decide (opn v)) := by
  obtain ⟨k, rfl⟩ : ∃ m, k = m + 1 := ⟨k - 1, by omega⟩
  obtain ⟨a, b, ⟨c, d⟩, ⟨⟨e, f⟩, ⟨g, h⟩⟩, i⟩ := v
  unfold store_open.f value_Check.f term_Check.f
  have hn : ∀ i : Int, i ≥ 0 → decide (i < (([] : List S75).length : Int)) = false := fun i hi => decide_eq_false (by simp; omega)
  cases a <;> cases b
  · by_cases z : e = 0 ∧ f = 0 ∧ g = 0 ∧ h = 0 ∧ i = 0
    · obtain ⟨rfl, rfl, rfl, rfl, rfl⟩ := z
      simp [value_Check.j0, opn]
    · have : ¬ opn (⟨false, false, ⟨c, d⟩, ⟨⟨e, f⟩, ⟨g, h⟩⟩, i⟩ : S29) := fun q => z (by simpa [opn, and_assoc] using q)
      rw [decide_eq_false this]
      simp only [value_Check.j0, List.length_nil, if_true, bnd, Bool.false_eq_true, if_false]
      rw [if_pos (by
        simp only [Bool.or_eq_true, Bool.not_eq_true', beq_eq_false_iff_ne, beq_self_eq_true, Bool.not_true, Bool.false_eq_true, false_or, ne_eq]
        omega)]
      rw [bnd, if_neg (by decide)]
  · have : ¬ opn (⟨false, true, ⟨c, d⟩, ⟨⟨e, f⟩, ⟨g, h⟩⟩, i⟩ : S29) := fun q => by simp [opn] at q
    rw [decide_eq_false this]
    simp only [value_Check.j0, List.length_nil, if_true, bnd, Bool.false_eq_true, if_false]
    split
    · rw [bnd, if_neg (by decide)]
    · rw [bnd, if_pos rfl]
  · have : ¬ opn (⟨true, false, ⟨c, d⟩, ⟨⟨e, f⟩, ⟨g, h⟩⟩, i⟩ : S29) := fun q => by simp [opn] at q
    rw [decide_eq_false this]
    by_cases z : i ≥ 0
    · simp [value_Check.j0, z, show ¬ i < 0 by omega]
    · simp [value_Check.j0, z]
  · have : ¬ opn (⟨true, true, ⟨c, d⟩, ⟨⟨e, f⟩, ⟨g, h⟩⟩, i⟩ : S29) := fun q => by simp [opn] at q
    rw [decide_eq_false this]
    by_cases z : i ≥ 0
    · simp [value_Check.j0, z, show ¬ i < 0 by omega]
    · simp [value_Check.j0, z]
def okn : List S65 → List (Nat × Nat) → Prop
  | [], [] => True
  | x :: l, p :: q => (x.f0 = ⟨(p.1 : Int), (p.2 : Int)⟩ ∧ opn x.f1) ∧ okn l q
  | _, _ => False
theorem okn_len : ∀ (l : List S65) (q : List (Nat × Nat)), okn l q → l.length = q.length
  | [], [], _ => rfl
  | [], _ :: _, h => h.elim
  | _ :: _, [], h => h.elim
  | x :: l, p :: q, h => by rw [List.length_cons, List.length_cons, okn_len l q h.2]
theorem okn_sym : ∀ (l : List S65) (q : List (Nat × Nat)), okn l q → ∀ x ∈ l, x.f1.f0 = false
  | x :: l, p :: q, h, y, hy => by
    rcases List.mem_cons.1 hy with rfl | hy
    · exact h.1.2.1
    · exact okn_sym l q h.2 y hy
theorem check_l (L : List S65) (P : List (Nat × Nat)) (hl : L.length = P.length) (hn : L.length ≤ 100000) : ∀ (q j k : Nat), j + q = L.length → q + 2 ≤ k → (∀ x ∈ L.take j, x.f1.f0 = false) →
    ((okn (L.drop j) (P.drop j) → store_Check.l0 k [] L (sbs P) L (L.length : Int) (j : Int) = some 0) ∧ (¬ okn (L.drop j) (P.drop j) → store_Check.l0 k [] L (sbs P) L (L.length : Int) (j : Int) = some 1)) := by
  intro q
  induction q with
  | zero =>
    intro j k hj hk _
    obtain ⟨k, rfl⟩ : ∃ m, k = m + 1 := ⟨k - 1, by omega⟩
    rw [List.drop_of_length_le (by omega), List.drop_of_length_le (by omega), store_Check.l0, if_neg (by omega)]
    exact ⟨fun _ => rfl, fun h => absurd trivial h⟩
  | succ q ih =>
    intro j k hj hk hs
    obtain ⟨k, rfl⟩ : ∃ m, k = m + 1 := ⟨k - 1, by omega⟩
    have j1 : j < L.length := by omega
    have j2 : j < P.length := by omega
    have r1 : rd_T65 L (j : Int) = L[j] := by simp [rd_T65, j1]
    have r2 : rd_T39 (sbs P) (j : Int) = ⟨(P[j].1 : Int), (P[j].2 : Int)⟩ := by simp [rd_T39, sbs, j2]
    have r3 : rd_T65 L 0 = L[0] := by simp [rd_T65, show 0 < L.length by omega]
    have d1 : L.drop j = L[j] :: L.drop (j + 1) := List.drop_eq_getElem_cons j1
    have d2 : P.drop j = P[j] :: P.drop (j + 1) := List.drop_eq_getElem_cons j2
    rw [store_Check.l0, if_pos (by omega), if_pos (by omega), if_pos (by omega), if_pos (by simp [sbs]; omega), r1, r2, r3, open_eq _ (by omega), d1, d2]
    simp only [okn, bnd]
    by_cases c1 : L[j].f0 = ⟨(P[j].1 : Int), (P[j].2 : Int)⟩
    · rw [if_neg (by rw [c1]; simp)]
      by_cases c2 : opn L[j].f1
      · rw [decide_eq_true c2, if_pos rfl, if_pos (by omega)]
        have s0 : L[0].f1.f0 = false := by
          rcases Nat.eq_zero_or_pos j with rfl | h0
          · exact c2.1
          · exact hs _ (by rw [List.mem_take_iff_getElem]; exact ⟨0, by omega, rfl⟩)
        rw [if_neg (by rw [s0, c2.1]; decide), w64 (by omega) (by omega), show (j : Int) + 1 = ((j + 1 : Nat) : Int) by omega]
        have i := ih (j + 1) k (by omega) (by omega) (by
          intro x hx
          rw [List.take_succ_eq_append_getElem j1, List.mem_append, List.mem_singleton] at hx
          rcases hx with hx | rfl
          · exact hs x hx
          · exact c2.1)
        exact ⟨fun z => i.1 z.2, fun z => i.2 (fun y => z ⟨⟨c1, c2⟩, y⟩)⟩
      · rw [decide_eq_false c2, if_neg (by simp)]
        exact ⟨fun z => absurd z.1.2 c2, fun _ => rfl⟩
    · rw [if_pos (by
        have : ¬ (L[j].f0.f0 = (P[j].1 : Int) ∧ L[j].f0.f1 = (P[j].2 : Int)) := by
          intro z; apply c1; generalize L[j].f0 = s at z; obtain ⟨x, y⟩ := s; simp at z; rw [z.1, z.2]
        simp only [Bool.or_eq_true, Bool.not_eq_true', beq_eq_false_iff_ne, ne_eq]
        rw [Classical.not_and_iff_not_or_not] at this; exact this)]
      exact ⟨fun z => absurd z.1.1 c1, fun _ => rfl⟩
open Classical in
theorem stCheck_eq (h s : Int) {p : Nat} (hp : p < 18446744073709551616) (L : List S65) (hn : L.length ≤ 100000) {k : Nat} (hk : 1410 ≤ k) (hk2 : L.length + 10 ≤ k) :
    store_Check.f k [] h s (p : Int) L = some (if Sch s ∧ Lfi h p ∧ okn L (prs h.toNat s (2 ^ h.toNat + p)) then 0 else 1) := by
  obtain ⟨k, rfl⟩ : ∃ m, k = m + 1 := ⟨k - 1, by omega⟩
  unfold store_Check.f
  rw [Pairs_eq h s hp (by omega)]; simp only [bnd]
  by_cases c : Sch s ∧ Lfi h p
  · rw [if_pos c]; dsimp only
    rw [if_pos rfl, show term_Check.f [] = some 0 from rfl]; simp only [bnd]
    rw [if_pos (by trivial)]
    by_cases cl : L.length = (prs h.toNat s (2 ^ h.toNat + p)).length
    · rw [show ((L.length : Int) != ((sbs (prs h.toNat s (2 ^ h.toNat + p))).length : Int)) = false by rw [show (sbs (prs h.toNat s (2 ^ h.toNat + p))).length = (prs h.toNat s (2 ^ h.toNat + p)).length from List.length_map _]; simp [cl], store_Check.j0, if_neg (by simp)]
      have z := check_l L _ cl hn L.length 0 k (by omega) (by omega) (by simp)
      simp only [List.drop_zero] at z
      by_cases co : okn L (prs h.toNat s (2 ^ h.toNat + p))
      · rw [if_pos ⟨c.1, c.2, co⟩]; exact z.1 co
      · rw [if_neg (fun q => co q.2.2)]; exact z.2 co
    · rw [show ((L.length : Int) != ((sbs (prs h.toNat s (2 ^ h.toNat + p))).length : Int)) = true by rw [show (sbs (prs h.toNat s (2 ^ h.toNat + p))).length = (prs h.toNat s (2 ^ h.toNat + p)).length from List.length_map _, bne_iff_ne]; omega, store_Check.j0, if_pos rfl, if_neg (fun q => cl (okn_len _ _ q.2.2))]
  · rw [if_neg c, store_Check.j0]; dsimp only
    rw [if_neg (by decide), store_Check.j0, if_pos rfl, if_neg (fun q => c ⟨q.1, q.2.1⟩)]
def Up (l : List Nat) : Prop := l.Pairwise (· < ·)
theorem Up.lt {a : Nat} {l : List Nat} (h : Up (a :: l)) {x : Nat} (hx : x ∈ l) : a < x := (List.pairwise_cons.1 h).1 x hx
def ch (n : Nat) : List Nat := [2 * n, 2 * n + 1]
theorem ints_app (a b : List Nat) : ints a ++ ints b = ints (a ++ b) := by simp [ints]
theorem ints_one (n : Nat) : [(n : Int)] = ints [n] := rfl
theorem ints_take (l : List Nat) (n : Nat) : (ints l).take n = ints (l.take n) := by simp [ints]
theorem ints_drop (l : List Nat) (n : Nat) : (ints l).drop n = ints (l.drop n) := by simp [ints]
instance (l : List Nat) : Decidable (Up l) := inferInstanceAs (Decidable (l.Pairwise (· < ·)))
def oct : Nat → Nat → List Nat
  | _, 0 => []
  | n, m + 1 => n % 256 :: oct (n / 256) m
theorem oct_len : ∀ (m n : Nat), (oct n m).length = m
  | 0, _ => rfl
  | m + 1, n => by rw [oct, List.length_cons, oct_len m]
def nm : List Nat → Nat
  | [] => 0
  | c :: l => c + 256 * nm l
theorem nm_oct : ∀ (m n : Nat), n < 256 ^ m → nm (oct n m) = n
  | 0, n, h => by rw [Nat.pow_zero] at h; rw [oct, nm]; omega
  | m + 1, n, h => by rw [oct, nm, nm_oct m _ (by rw [Nat.pow_succ] at h; omega)]; omega
theorem nm_lt : ∀ (l : List Nat), (∀ c ∈ l, c < 256) → nm l < 256 ^ l.length
  | [], _ => by simp [nm]
  | c :: l, h => by
    have hc := h c List.mem_cons_self
    have := nm_lt l fun d hd => h d (List.mem_cons_of_mem _ hd)
    rw [nm, List.length_cons, Nat.pow_succ]; omega
theorem oct_lt : ∀ (m n : Nat), ∀ c ∈ oct n m, c < 256
  | 0, _ => by simp [oct]
  | m + 1, n => by
    intro c hc
    rw [oct] at hc
    rcases List.mem_cons.1 hc with rfl | hc
    · exact Nat.mod_lt _ (by decide)
    · exact oct_lt m _ c hc
theorem put_l (o n : Nat) (ho : o ≤ 8) (hn : n < 18446744073709551616) : ∀ (q i k : Nat) (A : List Nat), i + q = o → q < k → A.length ≤ 1000000 + i →
    image_put.l0 k (ints A) (n : Int) (o : Int) (i : Int) = some (ints (A ++ oct (n / 256 ^ i) q)) := by
  intro q
  induction q with
  | zero =>
    intro i k A hi hk hA
    obtain ⟨k, rfl⟩ : ∃ m, k = m + 1 := ⟨k - 1, by omega⟩
    rw [image_put.l0, if_neg (by omega)]; simp [oct]
  | succ q ih =>
    intro i k A hi hk hA
    obtain ⟨k, rfl⟩ : ∃ m, k = m + 1 := ⟨k - 1, by omega⟩
    have e8 : wrap64 (8 * (i : Int)) = ((8 * i : Nat) : Int) := by rw [w64 (by omega) (by omega)]; omega
    have ep : 2 ^ (8 * i) = 256 ^ i := by rw [show (256 : Nat) = 2 ^ 8 by decide, ← Nat.pow_mul]
    rw [image_put.l0, if_pos (by omega), e8, if_pos (by omega), if_pos (by rw [ints_len]; omega), shr_eq n (by omega), ep, w64 (by omega) (by omega),
      show ((n / 256 ^ i : Nat) : Int) % 256 = (((n / 256 ^ i) % 256 : Nat) : Int) by omega, ints_one, ints_app, show (i : Int) + 1 = ((i + 1 : Nat) : Int) by omega,
      ih (i + 1) k _ (by omega) (by omega) (by simp; omega), oct, List.append_assoc, Nat.pow_succ, Nat.div_div_eq_div_mul]
    rfl
theorem put_eq {n o : Nat} (A : List Nat) (ho : o ≤ 8) (hn : n < 18446744073709551616) (hA : A.length ≤ 1000000) {k : Nat} (hk : 9 ≤ k) : image_put.f k (ints A) (n : Int) (o : Int) = some (ints (A ++ oct n o)) := by
  unfold image_put.f
  have := put_l o n ho hn o 0 k A (by omega) (by omega) (by omega)
  rw [show (0 : Int) = ((0 : Nat) : Int) from rfl, this, Nat.pow_zero, Nat.div_one]
theorem or_oct {x c i : Nat} (hi : i < 8) (hx : x < 256 ^ i) (hc : c < 256) : Go.bits .or .u64 (x : Int) (shl .u64 (IntKind.u64.wrap (c : Int)) ((8 * i : Nat) : Int)) = ((x + c * 256 ^ i : Nat) : Int) := by
  have p8 : (256 : Nat) ^ (i + 1) ≤ 256 ^ 8 := Nat.pow_le_pow_right (by decide) (by omega)
  have p9 : (256 : Nat) ^ 8 = 18446744073709551616 := by decide
  rw [Nat.pow_succ] at p8
  have ep : 2 ^ (8 * i) = 256 ^ i := by rw [show (256 : Nat) = 2 ^ 8 by decide, ← Nat.pow_mul]
  have hm : c * 256 ^ i ≤ 255 * 256 ^ i := Nat.mul_le_mul_right _ (by omega)
  rw [wu64 (by omega) (by omega), shl_eq (by omega) (by rw [ep]; omega), ep, Go.bits_or_u64_nat x (c * 256 ^ i) (by omega) (by omega)]
  congr 1
  have := Nat.two_pow_add_eq_or_of_lt (i := 8 * i) (b := x) (by rw [ep]; exact hx) c
  rw [ep, Nat.mul_comm] at this
  rw [Nat.or_comm, ← this]; omega
theorem nm_snoc : ∀ (A : List Nat) (c : Nat), nm (A ++ [c]) = nm A + c * 256 ^ A.length
  | [], c => by simp [nm]
  | a :: A, c => by
    rw [List.cons_append, nm, nm, nm_snoc A c, List.length_cons, Nat.pow_succ, Nat.mul_add, Nat.mul_comm 256 (c * 256 ^ A.length), Nat.mul_assoc]; omega
theorem number_l (c : List Nat) (h8 : c.length ≤ 8) (hc : ∀ x ∈ c, x < 256) : ∀ (q i k : Nat), i + q = c.length → q < k →
    image_number.l0 k (nm (c.take i) : Int) (ints c) (c.length : Int) (i : Int) = some (nm c : Int) := by
  intro q
  induction q with
  | zero =>
    intro i k hi hk
    obtain ⟨k, rfl⟩ : ∃ m, k = m + 1 := ⟨k - 1, by omega⟩
    rw [image_number.l0, if_neg (by omega), List.take_of_length_le (by omega)]
  | succ q ih =>
    intro i k hi hk
    obtain ⟨k, rfl⟩ : ∃ m, k = m + 1 := ⟨k - 1, by omega⟩
    have hlt : i < c.length := by omega
    have e8 : wrap64 (8 * (i : Int)) = ((8 * i : Nat) : Int) := by rw [w64 (by omega) (by omega)]; omega
    have hx : nm (c.take i) < 256 ^ i := by
      have := nm_lt (c.take i) fun y hy => hc y (List.mem_of_mem_take hy)
      rwa [List.length_take, show min i c.length = i by omega] at this
    rw [image_number.l0, if_pos (by omega), if_pos (by omega), if_pos (by rw [ints_len]; omega), e8, if_pos (by omega), ints_rd hlt, or_oct (by omega) hx (hc _ (List.getElem_mem hlt)), w64 (by omega) (by omega), show (i : Int) + 1 = ((i + 1 : Nat) : Int) by omega]
    have e : nm (c.take i) + c[i] * 256 ^ i = nm (c.take (i + 1)) := by
      rw [List.take_succ_eq_append_getElem hlt, nm_snoc, List.length_take, show min i c.length = i by omega]
    rw [e, ih (i + 1) k (by omega) (by omega)]
theorem number_eq {c : List Nat} (h8 : c.length ≤ 8) (hc : ∀ x ∈ c, x < 256) {k : Nat} (hk : 9 ≤ k) : image_number.f k (ints c) = some (nm c : Int) := by
  unfold image_number.f
  have := number_l c h8 hc c.length 0 k (by omega) (by omega)
  rw [List.take_zero] at this
  rw [ints_len, show (0 : Int) = ((0 : Nat) : Int) from rfl]; exact this
def so (a b : Nat) : List Nat := oct a 8 ++ oct b 8
theorem so_len (a b : Nat) : (so a b).length = 16 := by simp [so, oct_len]
theorem oct_get : ∀ (m n i : Nat) (h : i < (oct n m).length), (oct n m)[i] = n / 256 ^ i % 256
  | 0, _, _, h => by simp [oct] at h
  | m + 1, n, 0, h => by simp [oct]
  | m + 1, n, i + 1, h => by
    simp only [oct, List.getElem_cons_succ]
    rw [oct_get m (n / 256) i, Nat.pow_succ, Nat.div_div_eq_div_mul, Nat.mul_comm]
theorem so_get (a b i : Nat) (h : i < 16) : (so a b)[i]'(by rw [so_len]; exact h) = (if i < 8 then a else b) / 256 ^ (i % 8) % 256 := by
  unfold so
  by_cases c : i < 8
  · rw [List.getElem_append_left (by rw [oct_len]; exact c), oct_get, if_pos c, Nat.mod_eq_of_lt c]
  · rw [List.getElem_append_right (by rw [oct_len]; omega), oct_get, if_neg c]
    simp only [oct_len]
    rw [show i % 8 = i - 8 by omega]
theorem moct_l (a b : Nat) : ∀ (q i k : Nat) (A : List Nat), i + q = 16 → q < k → A.length = 16 → A.take i = (so a b).take i →
    mix_Octets.l0 k [(a : Int), (b : Int)] (ints A) 16 (i : Int) = some (ints (so a b)) := by
  intro q
  induction q with
  | zero =>
    intro i k A hi hk hA e
    obtain ⟨k, rfl⟩ : ∃ m, k = m + 1 := ⟨k - 1, by omega⟩
    rw [List.take_of_length_le (by omega), List.take_of_length_le (by rw [so_len]; omega)] at e
    rw [mix_Octets.l0, if_neg (by omega), e]
  | succ q ih =>
    intro i k A hi hk hA e
    obtain ⟨k, rfl⟩ : ∃ m, k = m + 1 := ⟨k - 1, by omega⟩
    have d8 : wrap64 (Int.tdiv (i : Int) 8) = ((i / 8 : Nat) : Int) := by rw [Int.tdiv_eq_ediv_of_nonneg (by omega), w64 (by omega) (by omega)]; omega
    have m8 : wrap64 (Int.tmod (i : Int) 8 * 8) = ((i % 8 * 8 : Nat) : Int) := by rw [Int.tmod_eq_emod_of_nonneg (by omega), w64 (by omega) (by omega)]; omega
    have ep : 2 ^ (i % 8 * 8) = 256 ^ (i % 8) := by rw [show (256 : Nat) = 2 ^ 8 by decide, ← Nat.pow_mul, Nat.mul_comm]
    have rdv : rd [(a : Int), (b : Int)] ((i / 8 : Nat) : Int) = (((if i < 8 then a else b) : Nat) : Int) := by
      by_cases c : i < 8
      · rw [if_pos c, show i / 8 = 0 by omega]; rfl
      · rw [if_neg c, show i / 8 = 1 by omega]; rfl
    rw [mix_Octets.l0, if_pos (by omega), d8, if_pos (by omega), if_pos (by omega), m8, if_pos (by omega), if_pos (by omega), if_pos (by rw [ints_len]; omega), rdv, shr_eq _ (by omega), ep, w64 (by omega) (by omega),
      show (i : Int) + 1 = ((i + 1 : Nat) : Int) by omega, Int.toNat_natCast,
      show (((if i < 8 then a else b) / 256 ^ (i % 8) : Nat) : Int) % 256 = (((if i < 8 then a else b) / 256 ^ (i % 8) % 256 : Nat) : Int) by omega]
    have es : (ints A).set i (((if i < 8 then a else b) / 256 ^ (i % 8) % 256 : Nat) : Int) = ints (A.set i ((if i < 8 then a else b) / 256 ^ (i % 8) % 256)) := by
      unfold ints; rw [List.map_set]; rfl
    rw [es]
    refine ih (i + 1) k _ (by omega) (by omega) (by rw [List.length_set]; exact hA) ?_
    have hi16 : i < 16 := by omega
    rw [List.take_succ_eq_append_getElem (by rw [List.length_set, hA]; exact hi16), List.take_succ_eq_append_getElem (by rw [so_len]; exact hi16), List.getElem_set_self, so_get a b i hi16, List.take_set_of_le (by omega), e]
theorem moct_eq (a b : Nat) {k : Nat} (hk : 17 ≤ k) : mix_Octets.f k (a : Int) (b : Int) = some (ints (so a b)) := by
  unfold mix_Octets.f mix_Octets.g
  rw [if_pos (by decide), bnd]
  have := moct_l a b 16 0 k (List.replicate 16 0) (by omega) (by omega) (by simp) (by simp)
  exact this
theorem nm_take_lt {c : List Nat} (hc : ∀ x ∈ c, x < 256) (i : Nat) : nm (c.take i) < 256 ^ i := by
  have := nm_lt (c.take i) fun y hy => hc y (List.mem_of_mem_take hy)
  rw [List.length_take] at this
  exact Nat.lt_of_lt_of_le this (Nat.pow_le_pow_right (by decide) (by omega))
theorem mread_l (c : List Nat) (hl : c.length = 16) (hc : ∀ x ∈ c, x < 256) : ∀ (q i k : Nat), i + q = 16 → q < k →
    mix_read.l0 k (ints c) (nm ((c.take 8).take i) : Int) (nm ((c.drop 8).take (i - 8)) : Int) 16 (i : Int) = some ((nm (c.take 8) : Int), (nm (c.drop 8) : Int)) := by
  have hct : ∀ x ∈ c.take 8, x < 256 := fun y hy => hc y (List.mem_of_mem_take hy)
  have hcd : ∀ x ∈ c.drop 8, x < 256 := fun y hy => hc y (List.mem_of_mem_drop hy)
  intro q
  induction q with
  | zero =>
    intro i k hi hk
    obtain ⟨k, rfl⟩ : ∃ m, k = m + 1 := ⟨k - 1, by omega⟩
    have a1 : (c.take 8).take i = c.take 8 := List.take_of_length_le (by rw [List.length_take]; omega)
    have a2 : (c.drop 8).take (i - 8) = c.drop 8 := List.take_of_length_le (by rw [List.length_drop]; omega)
    rw [mix_read.l0, if_neg (by omega), a1, a2]
  | succ q ih =>
    intro i k hi hk
    obtain ⟨k, rfl⟩ : ∃ m, k = m + 1 := ⟨k - 1, by omega⟩
    have hlt : i < c.length := by omega
    have d8 : wrap64 (Int.tdiv (i : Int) 8) = ((i / 8 : Nat) : Int) := by rw [Int.tdiv_eq_ediv_of_nonneg (by omega), w64 (by omega) (by omega)]; omega
    have m8 : wrap64 (Int.tmod (i : Int) 8 * 8) = ((8 * (i % 8) : Nat) : Int) := by rw [Int.tmod_eq_emod_of_nonneg (by omega), w64 (by omega) (by omega)]; omega
    rw [mix_read.l0, if_pos (by omega), if_pos (by omega), if_pos (by rw [ints_len]; omega), m8, if_pos (by omega), d8, ints_rd hlt, w64 (by omega) (by omega), show (i : Int) + 1 = ((i + 1 : Nat) : Int) by omega]
    by_cases c8 : i < 8
    · have e : nm ((c.take 8).take i) + c[i] * 256 ^ i = nm ((c.take 8).take (i + 1)) := by
        have hl8 : i < (c.take 8).length := by rw [List.length_take, hl]; omega
        have hl9 : ((c.take 8).take i).length = i := by rw [List.length_take, List.length_take, hl]; omega
        rw [List.take_succ_eq_append_getElem hl8, nm_snoc, hl9, List.getElem_take]
      rw [if_pos (by omega), show i % 8 = i by omega, or_oct c8 (nm_take_lt hct i) (hc _ (List.getElem_mem hlt)), e, show i - 8 = (i + 1) - 8 by omega]
      exact ih (i + 1) k (by omega) (by omega)
    · have e : nm ((c.drop 8).take (i - 8)) + c[i] * 256 ^ (i - 8) = nm ((c.drop 8).take (i + 1 - 8)) := by
        have hl8 : i - 8 < (c.drop 8).length := by rw [List.length_drop]; omega
        have hl9 : ((c.drop 8).take (i - 8)).length = i - 8 := by rw [List.length_take, List.length_drop]; omega
        rw [show i + 1 - 8 = (i - 8) + 1 by omega, List.take_succ_eq_append_getElem hl8, nm_snoc, hl9, List.getElem_drop]
        simp only [show 8 + (i - 8) = i by omega]
      rw [if_neg (by omega), if_pos (by omega), show i % 8 = i - 8 by omega, or_oct (by omega) (nm_take_lt hcd (i - 8)) (hc _ (List.getElem_mem hlt)), e,
        show (c.take 8).take i = (c.take 8).take (i + 1) from (List.take_of_length_le (by rw [List.length_take]; omega)).trans (List.take_of_length_le (by rw [List.length_take]; omega)).symm]
      exact ih (i + 1) k (by omega) (by omega)
theorem mread_eq {c : List Nat} (hl : c.length = 16) (hc : ∀ x ∈ c, x < 256) {k : Nat} (hk : 17 ≤ k) : mix_read.f k (ints c) = some ((nm (c.take 8) : Int), (nm (c.drop 8) : Int)) := by
  unfold mix_read.f
  have := mread_l c hl hc 16 0 k (by omega) (by omega)
  rw [ints_len, hl]
  exact this
theorem mof_eq {c : List Nat} (hl : c.length = 16) (hc : ∀ x ∈ c, x < 256) {k : Nat} (hk : 17 ≤ k) : mix_Of.f k (ints c) = some ((nm (c.take 8) : Int), (nm (c.drop 8) : Int), 0) := by
  unfold mix_Of.f
  rw [if_pos (by rw [ints_len]; omega), mread_eq hl hc hk, bnd]
def bdy (V : List (Nat × Nat)) : List Nat := V.flatMap fun v => so v.1 v.2
def stx (H S p : Nat) (V : List (Nat × Nat)) : List Nat := [1, S, H] ++ oct p 8 ++ bdy V
theorem bdy_len : ∀ V : List (Nat × Nat), (bdy V).length = 16 * V.length
  | [] => rfl
  | v :: V => by
    have := bdy_len V
    unfold bdy at *; rw [List.flatMap_cons, List.length_append, so_len, this, List.length_cons]; omega
theorem stx_len (H S p : Nat) (V : List (Nat × Nat)) : (stx H S p V).length = 11 + 16 * V.length := by simp [stx, oct_len, bdy_len]; omega
theorem so_lt (a b : Nat) : ∀ c ∈ so a b, c < 256 := by
  intro c hc; unfold so at hc
  rcases List.mem_append.1 hc with h | h
  · exact oct_lt _ _ c h
  · exact oct_lt _ _ c h
theorem stx_lt {H S p : Nat} (hH : H < 256) (hS : S < 256) (V : List (Nat × Nat)) : ∀ c ∈ stx H S p V, c < 256 := by
  intro c hc
  simp only [stx, bdy, List.mem_append, List.mem_cons, List.not_mem_nil, or_false, List.mem_flatMap] at hc
  rcases hc with ((rfl | rfl | rfl) | h) | ⟨v, _, h⟩
  · decide
  · exact hS
  · exact hH
  · exact oct_lt _ _ c h
  · exact so_lt _ _ c h
def ens (P V : List (Nat × Nat)) : List S65 := List.zipWith en P V
theorem ens_len {P V : List (Nat × Nat)} (h : V.length = P.length) : (ens P V).length = P.length := by simp [ens, h]
theorem ens_okn : ∀ (P V : List (Nat × Nat)), V.length = P.length → okn (ens P V) P
  | [], [], _ => trivial
  | [], _ :: _, h => by simp at h
  | _ :: _, [], h => by simp at h
  | p :: P, v :: V, h => ⟨⟨rfl, rfl, rfl, rfl, rfl⟩, ens_okn P V (by simpa using h)⟩
def Ub (x : S65) : Prop := (0 ≤ x.f1.f2.f0 ∧ x.f1.f2.f0 < 18446744073709551616) ∧ 0 ≤ x.f1.f2.f1 ∧ x.f1.f2.f1 < 18446744073709551616
def U2 (v : Nat × Nat) : Prop := v.1 < 18446744073709551616 ∧ v.2 < 18446744073709551616
theorem okn_ens : ∀ (L : List S65) (P : List (Nat × Nat)), okn L P → (∀ x ∈ L, Ub x) → ∃ V, V.length = P.length ∧ L = ens P V ∧ ∀ v ∈ V, U2 v
  | [], [], _, _ => ⟨[], rfl, rfl, by simp⟩
  | [], _ :: _, h, _ => h.elim
  | _ :: _, [], h, _ => h.elim
  | x :: L, p :: P, h, hU => by
    obtain ⟨V, h1, h2, h3⟩ := okn_ens L P h.2 fun y hy => hU y (List.mem_cons_of_mem _ hy)
    have hx := hU x List.mem_cons_self
    refine ⟨(x.f1.f2.f0.toNat, x.f1.f2.f1.toNat) :: V, by simp [h1], ?_, ?_⟩
    · rw [h2]; unfold ens; rw [List.zipWith_cons_cons]; congr 1
      obtain ⟨⟨e1, e2, e3, e4, e5⟩, _⟩ := h
      obtain ⟨⟨u1, u2⟩, u3, u4⟩ := hx
      obtain ⟨s, ⟨v0, v1, ⟨b0, b1⟩, v3, v4⟩⟩ := x
      dsimp only at e1 e2 e3 e4 e5 u1 u2 u3 u4 ⊢
      subst e1; subst e2; subst e3; subst e4; subst e5
      unfold en vl
      dsimp only
      rw [Int.toNat_of_nonneg u1, Int.toNat_of_nonneg u3]
    · intro v hv
      rcases List.mem_cons.1 hv with rfl | hv
      · obtain ⟨⟨u1, u2⟩, u3, u4⟩ := hx; exact ⟨by dsimp only; omega, by dsimp only; omega⟩
      · exact h3 v hv
theorem any_false : ∀ l : List S65, (∀ x ∈ l, x.f1.f0 = false) → se_any.f (fun x => some x.f1.f0) l = some false
  | [], _ => rfl
  | x :: l, h => by
    rw [se_any.f, h x List.mem_cons_self]; simp only [bnd]
    rw [if_neg (by simp), any_false l fun y hy => h y (List.mem_cons_of_mem _ hy)]
theorem istore_l (P V : List (Nat × Nat)) (hl : V.length = P.length) (hn : P.length ≤ 100000) : ∀ (q j k : Nat) (A : List Nat), j + q = P.length → q + 20 ≤ k → A.length ≤ 20 + 16 * j →
    image_Store.l0 k (ints A) (ens P V) (P.length : Int) (j : Int) = some (ints (A ++ bdy (V.drop j)), 0) := by
  intro q
  induction q with
  | zero =>
    intro j k A hj hk _
    obtain ⟨k, rfl⟩ : ∃ m, k = m + 1 := ⟨k - 1, by omega⟩
    rw [List.drop_of_length_le (by omega), image_Store.l0, if_neg (by omega)]
    simp [bdy]
  | succ q ih =>
    intro j k A hj hk hA
    obtain ⟨k, rfl⟩ : ∃ m, k = m + 1 := ⟨k - 1, by omega⟩
    have j1 : j < P.length := by omega
    have j2 : j < V.length := by omega
    have je : j < (ens P V).length := by rw [ens_len hl]; exact j1
    have r1 : rd_T65 (ens P V) (j : Int) = en P[j] V[j] := by
      unfold rd_T65; rw [Int.toNat_natCast, List.getD_eq_getElem?_getD, List.getElem?_eq_getElem je, Option.getD_some]; simp only [ens, List.getElem_zipWith]
    rw [image_Store.l0, if_pos (by omega), if_pos (by omega), if_pos (by rw [ens_len hl]; omega), r1]
    dsimp only [en, vl]
    rw [moct_eq _ _ (by omega)]; simp only [bnd]
    rw [if_pos (by rw [ints_len, ints_len, so_len]; omega), ints_app, w64 (by omega) (by omega), show (j : Int) + 1 = ((j + 1 : Nat) : Int) by omega, ih (j + 1) k _ (by omega) (by omega) (by rw [List.length_append, so_len]; omega), List.drop_eq_getElem_cons j2]
    unfold bdy
    rw [List.flatMap_cons, List.append_assoc]
open Classical in
theorem iStore_eq (h s : Int) {p : Nat} (hp : p < 18446744073709551616) (L : List S65) (hn : L.length ≤ 100000) (hU : ∀ x ∈ L, Ub x) {k : Nat} (hk : 1500 ≤ k) (hk2 : L.length + 100 ≤ k) :
    (∃ V, Sch s ∧ Lfi h p ∧ V.length = (prs h.toNat s (2 ^ h.toNat + p)).length ∧ L = ens (prs h.toNat s (2 ^ h.toNat + p)) V ∧ (∀ v ∈ V, U2 v) ∧ image_Store.f k h s (p : Int) L = some (ints (stx h.toNat s.toNat p V), 0)) ∨
      (¬ (Sch s ∧ Lfi h p ∧ okn L (prs h.toNat s (2 ^ h.toNat + p))) ∧ image_Store.f k h s (p : Int) L = some ([], 1)) := by
  obtain ⟨k, rfl⟩ : ∃ m, k = m + 1 := ⟨k - 1, by omega⟩
  by_cases c : Sch s ∧ Lfi h p ∧ okn L (prs h.toNat s (2 ^ h.toNat + p))
  · obtain ⟨V, h1, h2, h3⟩ := okn_ens L _ c.2.2 hU
    refine .inl ⟨V, c.1, c.2.1, h1, h2, h3, ?_⟩
    unfold image_Store.f
    rw [stCheck_eq h s hp L hn (by omega) (by omega), if_pos c]; simp only [bnd]
    have hh := c.2.1.1
    rw [hi_iff] at hh
    have hs := c.1
    unfold Sch at hs
    rw [if_pos (by trivial)]
    unfold api_Entry_74.f
    rw [if_pos (by omega), any_false L (okn_sym _ _ c.2.2)]; simp only [bnd]
    rw [image_Store.j0, if_neg (by simp), show ([1, s % 256, h % 256] : List Int) = ints [1, s.toNat, h.toNat] by
      have e1 : s % 256 = ((s.toNat : Nat) : Int) := by omega
      have e2 : h % 256 = ((h.toNat : Nat) : Int) := by omega
      rw [e1, e2]; rfl, show (8 : Int) = ((8 : Nat) : Int) from rfl, put_eq _ (by decide) hp (by simp) (by omega)]; simp only [bnd]
    have hl := ens_len h1
    have e := istore_l _ V h1 (by rw [← hl, ← h2]; exact hn) (prs h.toNat s (2 ^ h.toNat + p)).length 0 k ([1, s.toNat, h.toNat] ++ oct p 8) (by omega) (by rw [← hl, ← h2]; omega) (by simp [oct_len])
    rw [h2, hl]
    exact e
  · refine .inr ⟨c, ?_⟩
    unfold image_Store.f
    rw [stCheck_eq h s hp L hn (by omega) (by omega), if_neg c]; simp only [bnd]
    rw [if_neg (by decide), image_Store.j0, if_pos rfl]
def pcs : Nat → List Nat → List (Nat × Nat)
  | 0, _ => []
  | m + 1, l => (nm (l.take 8), nm ((l.drop 8).take 8)) :: pcs m (l.drop 16)
theorem pcs_len : ∀ (m : Nat) (l : List Nat), (pcs m l).length = m
  | 0, _ => rfl
  | m + 1, l => by rw [pcs, List.length_cons, pcs_len m]
theorem pcs_get : ∀ (m : Nat) (l : List Nat) (j : Nat) (h : j < m), (pcs m l)[j]'(by rw [pcs_len]; exact h) = (nm ((l.drop (16 * j)).take 8), nm ((l.drop (16 * j + 8)).take 8))
  | 0, _, _, h => absurd h (by omega)
  | m + 1, l, 0, _ => by simp [pcs]
  | m + 1, l, j + 1, h => by
    simp only [pcs, List.getElem_cons_succ]
    rw [pcs_get m (l.drop 16) j (by omega), List.drop_drop, List.drop_drop, show 16 + 16 * j = 16 * (j + 1) by omega, show 16 + (16 * j + 8) = 16 * (j + 1) + 8 by omega]
theorem pcs_bdy : ∀ (V : List (Nat × Nat)) (B : List Nat), (∀ v ∈ V, U2 v) → pcs V.length (bdy V ++ B) = V
  | [], _, _ => rfl
  | v :: V, B, h => by
    have p : (256 : Nat) ^ 8 = 18446744073709551616 := by decide
    have hv := h v List.mem_cons_self
    have e : bdy (v :: V) ++ B = oct v.1 8 ++ (oct v.2 8 ++ (bdy V ++ B)) := by simp [bdy, so, List.append_assoc]
    rw [List.length_cons, pcs, e]
    have t1 : (oct v.1 8 ++ (oct v.2 8 ++ (bdy V ++ B))).take 8 = oct v.1 8 := by
      rw [List.take_append_of_le_length (by rw [oct_len]; exact Nat.le_refl _), List.take_of_length_le (by rw [oct_len]; exact Nat.le_refl _)]
    have t2 : (oct v.1 8 ++ (oct v.2 8 ++ (bdy V ++ B))).drop 8 = oct v.2 8 ++ (bdy V ++ B) := by
      rw [List.drop_append_of_le_length (by rw [oct_len]; exact Nat.le_refl _), List.drop_of_length_le (by rw [oct_len]; exact Nat.le_refl _), List.nil_append]
    have t3 : (oct v.2 8 ++ (bdy V ++ B)).take 8 = oct v.2 8 := by
      rw [List.take_append_of_le_length (by rw [oct_len]; exact Nat.le_refl _), List.take_of_length_le (by rw [oct_len]; exact Nat.le_refl _)]
    have t4 : (oct v.2 8 ++ (bdy V ++ B)).drop 8 = bdy V ++ B := by
      rw [List.drop_append_of_le_length (by rw [oct_len]; exact Nat.le_refl _), List.drop_of_length_le (by rw [oct_len]; exact Nat.le_refl _), List.nil_append]
    rw [show (oct v.1 8 ++ (oct v.2 8 ++ (bdy V ++ B))).drop 16 = bdy V ++ B by rw [show (16 : Nat) = 8 + 8 from rfl, ← List.drop_drop, t2, t4], t1, t2, t3, nm_oct 8 _ (by rw [p]; exact hv.1), nm_oct 8 _ (by rw [p]; exact hv.2), pcs_bdy V B fun w hw => h w (List.mem_cons_of_mem _ hw)]
def fS (b : List Nat) : Nat := b.getD 1 0
def fH (b : List Nat) : Nat := b.getD 2 0
def fI (b : List Nat) : Nat := nm ((b.take 11).drop 3)
def fP (b : List Nat) : List (Nat × Nat) := prs (fH b) (fS b : Int) (2 ^ fH b + fI b)
def Rdb (b : List Nat) : Prop := 11 ≤ b.length ∧ b.getD 0 0 = 1 ∧ Sch (fS b : Int) ∧ Lfi (fH b : Int) (fI b) ∧ b.length = 11 + 16 * (fP b).length
theorem fI_lt {b : List Nat} (hb : ∀ c ∈ b, c < 256) (hn : 11 ≤ b.length) : fI b < 18446744073709551616 := by
  have p : (256 : Nat) ^ 8 = 18446744073709551616 := by decide
  have := nm_lt ((b.take 11).drop 3) fun c hc => hb c (List.mem_of_mem_take (List.mem_of_mem_drop hc))
  rw [show ((b.take 11).drop 3).length = 8 by rw [List.length_drop, List.length_take]; omega, p] at this
  exact this
theorem stx_f {H S p : Nat} {V : List (Nat × Nat)} (hp : p < 18446744073709551616) (B : List Nat) : (stx H S p V ++ B).getD 0 0 = 1 ∧ fS (stx H S p V ++ B) = S ∧ fH (stx H S p V ++ B) = H ∧ fI (stx H S p V ++ B) = p ∧ (stx H S p V ++ B).drop 11 = bdy V ++ B := by
  have q : (256 : Nat) ^ 8 = 18446744073709551616 := by decide
  have e : stx H S p V ++ B = ([1, S, H] ++ oct p 8) ++ (bdy V ++ B) := by unfold stx; rw [List.append_assoc]
  have l11 : ([1, S, H] ++ oct p 8).length = 11 := by simp [oct_len]
  refine ⟨by rw [e]; simp, by rw [e]; simp [fS], by rw [e]; simp [fH], ?_, ?_⟩
  · unfold fI
    rw [e, List.take_append_of_le_length (by rw [l11]; exact Nat.le_refl _), List.take_of_length_le (by rw [l11]; exact Nat.le_refl _)]
    show nm (oct p 8) = p
    exact nm_oct 8 p (by rw [q]; exact hp)
  · rw [e, List.drop_append_of_le_length (by rw [l11]; exact Nat.le_refl _), List.drop_of_length_le (by rw [l11]; exact Nat.le_refl _), List.nil_append]
theorem iread_l {b : List Nat} (hb : ∀ c ∈ b, c < 256) (hn : b.length ≤ 65536) (P : List (Nat × Nat)) (hm : b.length = 11 + 16 * P.length) (x y z : Int) : ∀ (q j k : Nat), j + q = P.length → q + 30 ≤ k →
    image_Read.l0 k (ints b) x y z ((ens P (pcs P.length (b.drop 11))).take j) (sbs P) (P.length : Int) (j : Int) = some (x, y, z, ens P (pcs P.length (b.drop 11)), 0) := by
  have el : (ens P (pcs P.length (b.drop 11))).length = P.length := ens_len (pcs_len _ _)
  intro q
  induction q with
  | zero =>
    intro j k hj hk
    obtain ⟨k, rfl⟩ : ∃ m, k = m + 1 := ⟨k - 1, by omega⟩
    rw [image_Read.l0, if_neg (by omega), List.take_of_length_le (by omega)]
  | succ q ih =>
    intro j k hj hk
    obtain ⟨k, rfl⟩ : ∃ m, k = m + 1 := ⟨k - 1, by omega⟩
    have jl : j < P.length := by omega
    have je : j < (ens P (pcs P.length (b.drop 11))).length := by omega
    have w1 : wrap64 (16 * (j : Int)) = 16 * (j : Int) := w64 (by omega) (by omega)
    have w2 : wrap64 (11 + 16 * (j : Int)) = ((11 + 16 * j : Nat) : Int) := by rw [w64 (by omega) (by omega)]; omega
    have w3 : wrap64 (27 + 16 * (j : Int)) = ((27 + 16 * j : Nat) : Int) := by rw [w64 (by omega) (by omega)]; omega
    have cl : ((b.take (27 + 16 * j)).drop (11 + 16 * j)).length = 16 := by rw [List.length_drop, List.length_take]; omega
    have ce : (b.take (27 + 16 * j)).drop (11 + 16 * j) = ((b.drop 11).drop (16 * j)).take 16 := by
      rw [List.drop_drop, List.drop_take, show 27 + 16 * j - (11 + 16 * j) = 16 by omega]
    have c1 : ((b.take (27 + 16 * j)).drop (11 + 16 * j)).take 8 = ((b.drop 11).drop (16 * j)).take 8 := by rw [ce, List.take_take]; rfl
    have c2 : ((b.take (27 + 16 * j)).drop (11 + 16 * j)).drop 8 = ((b.drop 11).drop (16 * j + 8)).take 8 := by rw [ce, List.drop_take, List.drop_drop]
    have r2 : rd_T39 (sbs P) (j : Int) = ⟨(P[j].1 : Int), (P[j].2 : Int)⟩ := by
      unfold rd_T39; simp [List.getD_eq_getElem?_getD, sbs, jl]
    have eg : (ens P (pcs P.length (b.drop 11)))[j] = en P[j] (nm (((b.drop 11).drop (16 * j)).take 8), nm (((b.drop 11).drop (16 * j + 8)).take 8)) := by
      simp only [ens, List.getElem_zipWith, pcs_get _ _ _ jl]
    rw [image_Read.l0, if_pos (by omega), w1, w2, w3, if_pos (by omega), if_pos (by omega), if_pos (by rw [ints_len]; omega), Int.toNat_natCast, Int.toNat_natCast, ints_take, ints_drop,
      mof_eq cl (fun c hc => hb c (List.mem_of_mem_take (List.mem_of_mem_drop hc))) (by omega)]; simp only [bnd]
    rw [if_pos trivial, if_pos (by omega), if_pos (by simp [sbs]; omega), if_pos (by rw [List.length_take]; omega), r2, c1, c2, w64 (by omega) (by omega), show (j : Int) + 1 = ((j + 1 : Nat) : Int) by omega]
    rw [show (ens P (pcs P.length (b.drop 11))).take j ++ [(⟨⟨(P[j].1 : Int), (P[j].2 : Int)⟩, ⟨false, false, ⟨(nm (((b.drop 11).drop (16 * j)).take 8) : Int), (nm (((b.drop 11).drop (16 * j + 8)).take 8) : Int)⟩, ⟨⟨0, 0⟩, ⟨0, 0⟩⟩, 0⟩⟩ : S65)] = (ens P (pcs P.length (b.drop 11))).take (j + 1) by
      rw [List.take_succ_eq_append_getElem je, eg]; rfl]
    exact ih (j + 1) k (by omega) (by omega)
open Classical in
theorem iRead_eq {b : List Nat} (hb : ∀ c ∈ b, c < 256) (hB : b.length < 4611686018427387904) {k : Nat} (hk : 10000 ≤ k) :
    image_Read.f k (ints b) = some (if b.length > 65536 then (0, 0, 0, [], 3) else if Rdb b then ((fH b : Int), (fS b : Int), (fI b : Int), ens (fP b) (pcs (fP b).length (b.drop 11)), 0) else (0, 0, 0, [], 2)) := by
  obtain ⟨k, rfl⟩ : ∃ m, k = m + 1 := ⟨k - 1, by omega⟩
  unfold image_Read.f
  rw [ints_len]
  by_cases c1 : b.length > 65536
  · rw [if_pos (by omega), if_pos c1]
  rw [if_neg (by omega), if_neg c1]
  by_cases c2 : b.length < 11
  · rw [if_pos (by omega), if_neg (fun r => by have := r.1; omega)]
  have h0 : 0 < b.length := by omega
  have h1 : 1 < b.length := by omega
  have h2 : 2 < b.length := by omega
  have g0 : rd (ints b) 0 = ((b.getD 0 0 : Nat) : Int) := by have := ints_rd h0; simp only [Int.natCast_zero] at this; rw [show (0 : Int) = ((0 : Nat) : Int) from rfl, ints_rd h0]; simp [List.getD_eq_getElem?_getD, h0]
  have g1 : rd (ints b) 1 = ((fS b : Nat) : Int) := by rw [show (1 : Int) = ((1 : Nat) : Int) from rfl, ints_rd h1]; simp [fS, List.getD_eq_getElem?_getD, h1]
  have g2 : rd (ints b) 2 = ((fH b : Nat) : Int) := by rw [show (2 : Int) = ((2 : Nat) : Int) from rfl, ints_rd h2]; simp [fH, List.getD_eq_getElem?_getD, h2]
  have l1 : fS b < 256 := by unfold fS; simp only [List.getD_eq_getElem?_getD, List.getElem?_eq_getElem h1, Option.getD_some]; exact hb _ (List.getElem_mem _)
  have l2 : fH b < 256 := by unfold fH; simp only [List.getD_eq_getElem?_getD, List.getElem?_eq_getElem h2, Option.getD_some]; exact hb _ (List.getElem_mem _)
  rw [if_neg (by omega), if_pos (by omega), g0]
  by_cases c3 : b.getD 0 0 = 1
  · rw [if_pos (by omega), if_pos (by omega), if_pos (by omega), if_pos (by decide), if_pos (by omega), ints_take, ints_drop, number_eq (by rw [List.length_drop, List.length_take]; omega) (fun c hc => hb c (List.mem_of_mem_take (List.mem_of_mem_drop hc))) (by omega)]; simp only [bnd]
    rw [g1, g2, w64 (x := (fH b : Int)) (by omega) (by omega), w64 (x := (fS b : Int)) (by omega) (by omega)]
    have hI := fI_lt hb (by omega)
    have pe := Pairs_eq (fH b : Int) (fS b : Int) hI (k := k + 1) (by omega)
    have eI : nm ((b.take 11).drop 3) = fI b := rfl
    rw [eI, pe]; simp only [bnd]
    rw [Int.toNat_natCast]
    by_cases c4 : Sch (fS b : Int) ∧ Lfi (fH b : Int) (fI b)
    · rw [if_pos c4]; dsimp only
      rw [if_pos rfl]
      have eP : sbs (prs (fH b) (fS b : Int) (2 ^ fH b + fI b)) = sbs (fP b) := rfl
      rw [eP]
      have hh := c4.2.1
      rw [hi_iff] at hh
      have pl := prs_len (show fH b ≤ 32 by omega) (fS b : Int) (2 ^ fH b + fI b)
      have sl : (sbs (fP b)).length = (fP b).length := List.length_map _
      have pl' : (fP b).length ≤ 1025 := pl
      rw [sl, w64 (x := 16 * ((fP b).length : Int)) (by omega) (by omega), w64 (by omega) (by omega)]
      by_cases c5 : b.length = 11 + 16 * (fP b).length
      · rw [show ((b.length : Int) != 11 + 16 * ((fP b).length : Int)) = false by rw [bne_eq_false_iff_eq]; omega, image_Read.j0, if_neg (by simp), if_pos (by rw [ints_len]; omega), if_pos ⟨by omega, c3, c4.1, c4.2, c5⟩]
        have e := iread_l hb (by omega) (fP b) c5 (fH b : Int) (fS b : Int) (fI b : Int) (fP b).length 0 k (by omega) (by omega)
        rw [ints_drop, ints_len, show (((b.drop 11).length : Nat) : Int) / 16 = ((fP b).length : Int) by rw [List.length_drop]; omega, w64 (by omega) (by omega)]
        exact e
      · rw [show ((b.length : Int) != 11 + 16 * ((fP b).length : Int)) = true by rw [bne_iff_ne]; omega, image_Read.j0, if_pos rfl, if_neg (fun r => c5 r.2.2.2.2)]
    · rw [if_neg c4]; dsimp only
      rw [if_neg (by decide), image_Read.j0, if_pos rfl, if_neg (fun r => c4 ⟨r.2.2.1, r.2.2.2.1⟩)]
  · rw [if_neg (by omega), if_neg (fun r => c3 r.2.1)]
theorem stx_fP {H S p : Nat} {V : List (Nat × Nat)} (hp : p < 18446744073709551616) : fP (stx H S p V) = prs H (S : Int) (2 ^ H + p) := by
  have := stx_f (H := H) (S := S) (V := V) hp []
  rw [List.append_nil] at this
  unfold fP; rw [this.2.1, this.2.2.1, this.2.2.2.1]
theorem stx_Rdb {H S p : Nat} {V : List (Nat × Nat)} (hp : p < 18446744073709551616) (hS : Sch (S : Int)) (hL : Lfi (H : Int) p) (hV : V.length = (prs H (S : Int) (2 ^ H + p)).length) : Rdb (stx H S p V) := by
  have f := stx_f (H := H) (S := S) (V := V) hp []
  rw [List.append_nil] at f
  refine ⟨by rw [stx_len]; omega, f.1, by rw [f.2.1]; exact hS, by rw [f.2.2.1, f.2.2.2.1]; exact hL, ?_⟩
  rw [stx_fP hp, stx_len, hV]
theorem ens_inj : ∀ {P V W : List (Nat × Nat)}, V.length = P.length → W.length = P.length → ens P V = ens P W → V = W
  | [], [], [], _, _, _ => rfl
  | [], _ :: _, _, h, _, _ => by simp at h
  | [], _, _ :: _, _, h, _ => by simp at h
  | _ :: _, [], _, h, _, _ => by simp at h
  | _ :: _, _, [], _, h, _ => by simp at h
  | p :: P, v :: V, w :: W, h1, h2, e => by
    unfold ens at e
    rw [List.zipWith_cons_cons, List.zipWith_cons_cons, List.cons.injEq] at e
    have := ens_inj (P := P) (V := V) (W := W) (by simpa using h1) (by simpa using h2) e.2
    have e1 := e.1
    unfold en vl at e1
    simp only [S65.mk.injEq, S29.mk.injEq, S25.mk.injEq, true_and, and_true] at e1
    obtain ⟨a, b⟩ := v
    obtain ⟨c, d⟩ := w
    simp only at e1
    rw [this, show a = c by omega, show b = d by omega]
theorem bits_nat64 (o : BinOp) (a b : Int) : ∃ n : Nat, Go.bits o .u64 a b = (n : Int) ∧ n < 18446744073709551616 := by
  unfold Go.bits
  simp only [IntKind.wrap_u64]
  have h : ∀ z : Int, ∃ n : Nat, z % 18446744073709551616 = (n : Int) ∧ n < 18446744073709551616 := fun z => ⟨(z % 18446744073709551616).toNat, by omega, by omega⟩
  exact h _
theorem rot13_ex (a : Int) : ∃ r, bits_RotateLeft64.f a 13 = some r := by
  unfold bits_RotateLeft64.f
  rw [if_pos (by decide +kernel), if_pos (by decide +kernel)]
  exact ⟨_, rfl⟩
theorem rot29_ex (a : Int) : ∃ r, bits_RotateLeft64.f a 29 = some r := by
  unfold bits_RotateLeft64.f
  rw [if_pos (by decide +kernel), if_pos (by decide +kernel)]
  exact ⟨_, rfl⟩
theorem mix_l : ∀ (q j k : Nat) (x y : Int), j + q = 8 → q < k → ∃ a b, mix_Mix.l0 k x y (j : Int) = some (a, b) := by
  intro q
  induction q with
  | zero =>
    intro j k x y hj hk
    obtain ⟨k, rfl⟩ : ∃ m, k = m + 1 := ⟨k - 1, by omega⟩
    simp only [mix_Mix.l0]
    rw [if_neg (by omega)]
    exact ⟨_, _, rfl⟩
  | succ q ih =>
    intro j k x y hj hk
    obtain ⟨k, rfl⟩ : ∃ m, k = m + 1 := ⟨k - 1, by omega⟩
    simp only [mix_Mix.l0]
    rw [if_pos (by omega)]
    obtain ⟨r, hr⟩ := rot13_ex (IntKind.u64.wrap (IntKind.u64.wrap (x + y) + IntKind.u64.wrap ((j : Int) * 11400714819323198485)))
    rw [hr]; simp only [bnd]
    obtain ⟨t, ht⟩ := rot29_ex (Go.bits .xor .u64 y r)
    rw [ht]; simp only [bnd]
    rw [show IntKind.u64.wrap ((j : Int) + 1) = ((j + 1 : Nat) : Int) by rw [IntKind.wrap_u64]; omega]
    exact ih (j + 1) k _ _ (by omega) (by omega)
theorem mPart_ex (a b i : Int) (h0 : 0 ≤ i) (h4 : i ≤ 4) {k : Nat} (hk : 12 ≤ k) : ∃ v : Nat × Nat, U2 v ∧ mix_Part.f k a b i = some ((v.1 : Int), (v.2 : Int), 0) := by
  obtain ⟨k, rfl⟩ : ∃ m, k = m + 1 := ⟨k - 1, by omega⟩
  unfold mix_Part.f
  rw [if_neg (by omega), mix_Part.j0, if_neg (by simp; omega)]
  unfold mix_Xor.f mix_Mix.f
  simp only [bnd]
  obtain ⟨x, y, e⟩ := mix_l 8 0 k (Go.bits .xor .u64 a (IntKind.u64.wrap (wrap64 (i + 1)))) (Go.bits .xor .u64 b 0) (by omega) (by omega)
  rw [show ((0 : Nat) : Int) = 0 from rfl] at e
  rw [e]; simp only [bnd]
  obtain ⟨m, hm, h1⟩ := bits_nat64 .xor x a
  obtain ⟨n, hn, h2⟩ := bits_nat64 .xor y b
  exact ⟨(m, n), ⟨h1, h2⟩, by rw [hm, hn]⟩
theorem vCheck_vl (v : Nat × Nat) {k : Nat} (hk : 1 ≤ k) : value_Check.f k [] false false (v.1 : Int) (v.2 : Int) 0 0 0 0 0 = some 0 := by
  obtain ⟨k, rfl⟩ : ∃ m, k = m + 1 := ⟨k - 1, by omega⟩
  simp [value_Check.f, term_Check.f, value_Check.j0]
theorem vis_vl (v : Nat × Nat) {k : Nat} (hk : 4 ≤ k) : value_is.f k [] [false] [vl v] = some 0 := by
  obtain ⟨k, rfl⟩ : ∃ m, k = m + 2 := ⟨k - 2, by omega⟩
  unfold value_is.f
  rw [value_is.l0, if_pos (by simp), if_pos (by decide), if_pos (by simp)]
  have e : rd_T29 [vl v] 0 = vl v := rfl
  rw [e]
  unfold vl
  dsimp only
  rw [vCheck_vl v (by omega)]; simp only [bnd]
  rw [if_pos trivial, if_neg (by simp), if_pos (by simp), if_neg (by simp [rdOf]), if_pos (by simp), if_neg (by simp [rd_T29]), show wrap64 (0 + 1) = 1 by unfold wrap64; omega, value_is.l0, if_neg (by simp)]
theorem vPart_vl (v : Nat × Nat) (i : Int) (h0 : 0 ≤ i) (h2 : i ≤ 2) {k : Nat} (hk : 20 ≤ k) : ∃ v' : Nat × Nat, U2 v' ∧ value_Part.f k [] false false (v.1 : Int) (v.2 : Int) 0 0 0 0 0 i = some (false, false, (v'.1 : Int), (v'.2 : Int), 0, 0, 0, 0, 0, [], 0) := by
  obtain ⟨k, rfl⟩ : ∃ m, k = m + 1 := ⟨k - 1, by omega⟩
  obtain ⟨v', u, e⟩ := mPart_ex (v.1 : Int) (v.2 : Int) i h0 (by omega) (k := k) (by omega)
  refine ⟨v', u, ?_⟩
  unfold value_Part.f
  have e1 := vis_vl v (k := k + 1) (by omega)
  unfold vl at e1
  rw [e1]; simp only [bnd]
  rw [if_pos trivial, if_neg (by omega), value_Part.j0, if_neg (by simp; omega), if_neg (by simp), e]; simp only [bnd]
  rfl
theorem lPart_vl (v : Nat × Nat) (i : Int) (h0 : 0 ≤ i) (h2 : i ≤ 2) {k : Nat} (hk : 20 ≤ k) : ∃ v' : Nat × Nat, U2 v' ∧ label_part.f k [] (vl v) 0 i = some ([], vl v', 0) := by
  obtain ⟨v', u, e⟩ := vPart_vl v i h0 h2 hk
  refine ⟨v', u, ?_⟩
  unfold label_part.f
  rw [if_pos rfl]
  show (value_Part.f k [] false false (v.1 : Int) (v.2 : Int) 0 0 0 0 0 i).bind _ = _
  rw [e]; rfl
theorem lPath_l (sd : List Int) (hs : ∀ s ∈ sd, 0 ≤ s ∧ s ≤ 2) (hl : sd.length ≤ 1000) : ∀ (q j k : Nat) (v : Nat × Nat), U2 v → j + q = sd.length → q + 25 ≤ k → ∃ v' : Nat × Nat, U2 v' ∧ label_path.l0 k [] (vl v) 0 sd (j : Int) = some ([], vl v', 0) := by
  intro q
  induction q with
  | zero =>
    intro j k v u hj hk
    obtain ⟨k, rfl⟩ : ∃ m, k = m + 1 := ⟨k - 1, by omega⟩
    rw [label_path.l0, if_neg (by omega)]
    exact ⟨v, u, rfl⟩
  | succ q ih =>
    intro j k v u hj hk
    obtain ⟨k, rfl⟩ : ∃ m, k = m + 1 := ⟨k - 1, by omega⟩
    have hj' : j < sd.length := by omega
    have b := hs _ (List.getElem_mem hj')
    rw [label_path.l0, if_pos (by omega), if_pos (by omega), rd_cast sd hj']
    obtain ⟨v', u', e⟩ := lPart_vl v _ b.1 b.2 (k := k) (by omega)
    rw [e]; simp only [bnd]
    rw [w64 (by omega) (by omega), show (j : Int) + 1 = ((j + 1 : Nat) : Int) by omega]
    exact ih (j + 1) k v' u' (by omega) (by omega)
def sds (b : Nat) : Nat → List Nat
  | 0 => []
  | m + 1 => (b / 2 ^ m % 2) :: sds b m
theorem sds_len (b : Nat) : ∀ m, (sds b m).length = m
  | 0 => rfl
  | m + 1 => by rw [sds, List.length_cons, sds_len b m]
theorem sds_two (b : Nat) : ∀ m, ∀ s ∈ sds b m, s < 2
  | 0, s, h => by simp [sds] at h
  | m + 1, s, h => by
    rcases List.mem_cons.1 h with rfl | h
    · omega
    · exact sds_two b m s h
theorem and_one {n : Nat} (h : n < 18446744073709551616) : Go.bits .and .u64 (n : Int) 1 = ((n % 2 : Nat) : Int) := by
  unfold Go.bits
  have e : (BitVec.ofInt 64 (n : Int) &&& BitVec.ofInt 64 1).toNat = n % 2 := by
    rw [BitVec.toNat_and]
    have e1 : (BitVec.ofInt 64 (n : Int)).toNat = n := by rw [BitVec.toNat_ofInt]; omega
    have e2 : (BitVec.ofInt 64 1).toNat = 1 := by decide
    rw [e1, e2, Nat.and_one_is_mod]
  show IntKind.u64.wrap ((BitVec.ofInt 64 (n : Int) &&& BitVec.ofInt 64 1).toNat : Int) = _
  rw [e, IntKind.wrap_u64]
  omega
theorem path_l {b m : Nat} (hb : b < 18446744073709551616) (hm : m ≤ 64) : ∀ (q j k : Nat), j + q = m → q < k →
    node_Path.l0 k (b : Int) (m : Int) (ints (List.replicate (m - j) 0 ++ sds b j)) (m : Int) (j : Int) = some (ints (sds b m), 0) := by
  intro q
  induction q with
  | zero =>
    intro j k hj hk
    obtain ⟨k, rfl⟩ : ∃ m, k = m + 1 := ⟨k - 1, by omega⟩
    obtain rfl : j = m := by omega
    rw [node_Path.l0, if_neg (by omega)]
    simp
  | succ q ih =>
    intro j k hj hk
    obtain ⟨k, rfl⟩ : ∃ m, k = m + 1 := ⟨k - 1, by omega⟩
    have e1 : wrap64 (wrap64 ((m : Int) - 1) - (j : Int)) = ((m - 1 - j : Nat) : Int) := by rw [w64 (x := (m : Int) - 1) (by omega) (by omega), w64 (by omega) (by omega)]; omega
    have hl : (ints (List.replicate (m - j) 0 ++ sds b j)).length = m := by rw [ints_len, List.length_append, List.length_replicate, sds_len]; omega
    have hq : b / 2 ^ j < 18446744073709551616 := Nat.lt_of_le_of_lt (Nat.div_le_self _ _) hb
    rw [node_Path.l0, if_pos (by omega), if_pos (by omega), e1, if_pos (by omega), if_pos (by rw [hl]; omega), shr_eq b (by omega), and_one hq, Int.toNat_natCast, w64 (x := ((b / 2 ^ j % 2 : Nat) : Int)) (by omega) (by omega), w64 (x := (j : Int) + 1) (by omega) (by omega), show (j : Int) + 1 = ((j + 1 : Nat) : Int) by omega]
    have e2 : (ints (List.replicate (m - j) 0 ++ sds b j)).set (m - 1 - j) ((b / 2 ^ j % 2 : Nat) : Int) = ints (List.replicate (m - (j + 1)) 0 ++ sds b (j + 1)) := by
      unfold ints
      rw [show ((b / 2 ^ j % 2 : Nat) : Int) = Int.ofNat (b / 2 ^ j % 2) from rfl, ← List.map_set, sds]
      congr 1
      rw [show m - j = (m - (j + 1)) + 1 by omega, List.replicate_succ', List.append_assoc, List.set_append_right _ _ (by rw [List.length_replicate]; omega), List.length_replicate, show m - 1 - j - (m - (j + 1)) = 0 by omega]
      rfl
    rw [e2]
    exact ih (j + 1) k (by omega) (by omega)
theorem nPath_eq (h : Int) {a b : Nat} (ha : a < 18446744073709551616) (hb : b < 18446744073709551616) (na : Nd h.toNat a) (nb : Nd h.toNat b) (ab : Abv a b) {k : Nat} (hk : 70 ≤ k) :
    node_Path.f k h (a : Int) (b : Int) = some (ints (sds b (b.log2 - a.log2)), 0) := by
  obtain ⟨k, rfl⟩ : ∃ m, k = m + 1 := ⟨k - 1, by omega⟩
  have la : a.log2 ≤ 32 := Nat.le_trans na.2.2.2 na.2.1
  have lb : b.log2 ≤ 32 := Nat.le_trans nb.2.2.2 nb.2.1
  have le : a.log2 ≤ b.log2 := ab.1
  unfold node_Path.f
  rw [both_eq h ha hb, if_pos ⟨na, nb⟩]; simp only [bnd]
  rw [if_pos trivial, above_eq na.2.2.1 nb.2.2.1 ha hb]; simp only [bnd]
  rw [decide_eq_true ab, if_pos rfl, depth_eq nb.2.2.1 hb, bnd, depth_eq na.2.2.1 ha, bnd]
  have e : wrap64 ((b.log2 : Int) - (a.log2 : Int)) = ((b.log2 - a.log2 : Nat) : Int) := by rw [w64 (by omega) (by omega)]; omega
  rw [e, if_pos (by omega), Int.toNat_natCast, if_pos (by omega)]
  have z := path_l hb (show b.log2 - a.log2 ≤ 64 by omega) (b.log2 - a.log2) 0 (k + 1) (by omega) (by omega)
  simp only [Nat.sub_zero, sds, List.append_nil] at z
  rw [show ints (List.replicate (b.log2 - a.log2) 0) = List.replicate (b.log2 - a.log2) (0 : Int) by simp [ints]] at z
  exact z
theorem lPath_vl (h : Int) {a b : Nat} (ha : a < 18446744073709551616) (hb : b < 18446744073709551616) (na : Nd h.toNat a) (nb : Nd h.toNat b) (ab : Abv a b) (v : Nat × Nat) (u : U2 v) {k : Nat} (hk : 100 ≤ k) :
    ∃ v' : Nat × Nat, U2 v' ∧ label_path.f k [] (vl v) 0 h (a : Int) (b : Int) = some ([], vl v', 0) := by
  unfold label_path.f
  rw [nPath_eq h ha hb na nb ab (by omega)]; simp only [bnd]
  have lb : b.log2 ≤ 32 := Nat.le_trans nb.2.2.2 nb.2.1
  obtain ⟨v', u', e⟩ := lPath_l (ints (sds b (b.log2 - a.log2))) (fun s hs => by
    obtain ⟨t, ht, rfl⟩ := List.mem_map.1 hs
    have := sds_two b _ t ht
    exact ⟨Int.natCast_nonneg t, by show (t : Int) ≤ 2; omega⟩) (by rw [ints_len, sds_len]; omega) (b.log2 - a.log2) 0 k v u (by rw [ints_len, sds_len]; omega) (by omega)
  refine ⟨v', u', ?_⟩
  rw [if_pos trivial]
  exact e
theorem lLabel_vl (h : Int) {i j : Nat} (hi : i < 18446744073709551616) (hj : j < 18446744073709551616) (s : Sb h.toNat i j) (v : Nat × Nat) (u : U2 v) {k : Nat} (hk : 100 ≤ k) :
    ∃ v' : Nat × Nat, U2 v' ∧ label_label.f k [] (vl v) 0 h (i : Int) (j : Int) = some ([], vl v', 0) := by
  have n1 : Nd h.toNat 1 := ⟨s.1.1, s.1.2.1, by omega, by rw [log2_one]; omega⟩
  obtain ⟨v1, u1, e1⟩ := lPath_vl h (a := 1) (b := i) (by decide) hi n1 s.1 (abv_root s.1.2.2.1) v u hk
  obtain ⟨v2, u2, e2⟩ := lPart_vl v1 2 (by omega) (by omega) (k := k) (by omega)
  unfold label_label.f
  rw [show ((1 : Nat) : Int) = 1 from rfl] at e1
  rw [e1]; simp only [bnd]
  rw [e2]; simp only [bnd]
  by_cases c : j = 0
  · subst c
    rw [if_pos (by rfl)]
    exact ⟨v2, u2, rfl⟩
  · rw [if_neg (by omega)]
    have s2 := s.2.resolve_left c
    exact lPath_vl h hi hj s.1 s2.1 s2.2.2 v2 u2 hk
theorem lStart_vl (v : Nat × Nat) {k : Nat} (hk : 4 ≤ k) : label_start.f k [] (vl v) = some 0 := by
  unfold label_start.f
  rw [if_pos (by decide)]
  show (value_Check.f k [] false false (v.1 : Int) (v.2 : Int) 0 0 0 0 0).bind _ = _
  rw [vCheck_vl v (by omega)]; simp only [bnd]
  rw [if_pos trivial]
  simp [vl]
theorem lKeyG_vl (h s : Int) {i j : Nat} (hi : i < 18446744073709551616) (hj : j < 18446744073709551616) (hs : Sch s) (sb : Sb h.toNat i j) (my : May h.toNat s i j) (v : Nat × Nat) (u : U2 v) {k : Nat} (hk : 100 ≤ k) :
    ∃ v' : Nat × Nat, U2 v' ∧ label_Key.g k [] h s (vl v) (i : Int) (j : Int) = some (vl v', [], 0) := by
  obtain ⟨v1, u1, e1⟩ := lLabel_vl h hi hj sb v u hk
  unfold label_Key.g
  rw [lStart_vl v (by omega)]; simp only [bnd]
  rw [May_eq h s hi hj (by omega), if_pos ⟨hs, sb⟩]; simp only [bnd]
  rw [if_neg (by simp [my]), e1]; simp only [bnd]
  by_cases c : s = 1
  · rw [if_neg (by simp [c])]; simp only [bnd]
    rw [if_pos trivial]
    exact ⟨v1, u1, rfl⟩
  · rw [if_pos c]
    obtain ⟨v2, u2, e2⟩ := lPart_vl v1 2 (by omega) (by omega) (k := k) (by omega)
    rw [e2]; simp only [bnd]
    rw [if_pos trivial]
    exact ⟨v2, u2, rfl⟩
theorem lKey_vl (h s : Int) {i j : Nat} (hi : i < 18446744073709551616) (hj : j < 18446744073709551616) (hs : Sch s) (sb : Sb h.toNat i j) (my : May h.toNat s i j) (v : Nat × Nat) (u : U2 v) {k : Nat} (hk : 100 ≤ k) :
    ∃ v' : Nat × Nat, U2 v' ∧ label_Key.f k [] h s false false (v.1 : Int) (v.2 : Int) 0 0 0 0 0 (i : Int) (j : Int) = some (false, false, (v'.1 : Int), (v'.2 : Int), 0, 0, 0, 0, 0, [], 0) := by
  obtain ⟨v', u', e⟩ := lKeyG_vl h s hi hj hs sb my v u hk
  refine ⟨v', u', ?_⟩
  unfold label_Key.f
  show (label_Key.g k [] h s (vl v) (i : Int) (j : Int)).bind _ = _
  rw [e]; rfl
theorem lLabelG_vl (h : Int) {i j : Nat} (hi : i < 18446744073709551616) (hj : j < 18446744073709551616) (sb : Sb h.toNat i j) (v : Nat × Nat) (u : U2 v) {k : Nat} (hk : 100 ≤ k) :
    ∃ v' : Nat × Nat, U2 v' ∧ label_Label.g k [] h (vl v) (i : Int) (j : Int) = some (vl v', [], 0) := by
  obtain ⟨v1, u1, e1⟩ := lLabel_vl h hi hj sb v u hk
  obtain ⟨k, rfl⟩ : ∃ m, k = m + 1 := ⟨k - 1, by omega⟩
  unfold label_Label.g
  rw [lStart_vl v (by omega)]; simp only [bnd]
  rw [sCheck_eq h hi hj, if_pos sb]; simp only [bnd]
  rw [if_neg (by simp), e1]; simp only [bnd]
  rw [if_pos trivial]
  exact ⟨v1, u1, rfl⟩
theorem lLabelF_vl (h : Int) {i j : Nat} (hi : i < 18446744073709551616) (hj : j < 18446744073709551616) (sb : Sb h.toNat i j) (v : Nat × Nat) (u : U2 v) {k : Nat} (hk : 100 ≤ k) :
    ∃ v' : Nat × Nat, U2 v' ∧ label_Label.f k [] h false false (v.1 : Int) (v.2 : Int) 0 0 0 0 0 (i : Int) (j : Int) = some (false, false, (v'.1 : Int), (v'.2 : Int), 0, 0, 0, 0, 0, [], 0) := by
  obtain ⟨v', u', e⟩ := lLabelG_vl h hi hj sb v u hk
  refine ⟨v', u', ?_⟩
  unfold label_Label.f
  show (label_Label.g k [] h (vl v) (i : Int) (j : Int)).bind _ = _
  rw [e]; rfl
theorem lWalk_vl (v : Nat × Nat) {k : Nat} (hk : 4 ≤ k) : label_Walk.f k [] false false (v.1 : Int) (v.2 : Int) 0 0 0 0 0 [] = some (false, false, (v.1 : Int), (v.2 : Int), 0, 0, 0, 0, 0, [], 0) := by
  unfold label_Walk.f label_Walk.g
  rw [if_pos rfl]
  show ((label_start.f k [] (vl v)).bind _).bind _ = _
  rw [lStart_vl v (by omega)]; rfl
theorem rdE {L : List S65} {j : Nat} (hj : j < L.length) : rd_T65 L (j : Int) = L[j] := by
  unfold rd_T65
  rw [Int.toNat_natCast, List.getD_eq_getElem?_getD, List.getElem?_eq_getElem hj]; rfl
theorem set_two (X : List S65) {j : Nat} (hj : j < X.length) (e : S65) (v : S29) :
    (X.set j e).set j ⟨⟨(rd_T65 (X.set j e) (j : Int)).f0.f0, (rd_T65 (X.set j e) (j : Int)).f0.f1⟩, v⟩ = X.set j ⟨e.f0, v⟩ := by
  rw [rdE (show j < (X.set j e).length by rw [List.length_set]; exact hj), List.getElem_set_self, List.set_set]
theorem ens_snoc {P V : List (Nat × Nat)} {j : Nat} (hj : j < P.length) (hV : V.length = j) (v : Nat × Nat) : ens (P.take (j + 1)) (V ++ [v]) = ens (P.take j) V ++ [en P[j] v] := by
  unfold ens
  rw [List.take_succ_eq_append_getElem hj, List.zipWith_append (by rw [List.length_take]; omega)]
  rfl
theorem make_l (h s : Int) (P : List (Nat × Nat)) (hs : Sch s) (hn : P.length ≤ 100000) (hP : ∀ p ∈ P, p.1 < 18446744073709551616 ∧ p.2 < 18446744073709551616 ∧ Sb h.toNat p.1 p.2 ∧ May h.toNat s p.1 p.2) (v : Nat × Nat) (u : U2 v) :
    ∀ (q j k : Nat) (V : List (Nat × Nat)), j + q = P.length → q + 110 ≤ k → V.length = j → (∀ v ∈ V, U2 v) →
      ∃ V' : List (Nat × Nat), V'.length = P.length ∧ (∀ v ∈ V', U2 v) ∧ store_Make.l0 k [] h s (ens (P.take j) V ++ List.replicate (P.length - j) z65) (sbs P) (P.length : Int) (j : Int) false false (v.1 : Int) (v.2 : Int) 0 0 0 0 0 = some (ens P V', [], 0) := by
  intro q
  induction q with
  | zero =>
    intro j k V hj hk hV hU
    obtain ⟨k, rfl⟩ : ∃ m, k = m + 1 := ⟨k - 1, by omega⟩
    refine ⟨V, by omega, hU, ?_⟩
    rw [store_Make.l0, if_neg (by omega), List.take_of_length_le (by omega), show P.length - j = 0 by omega, List.replicate_zero, List.append_nil]
  | succ q ih =>
    intro j k V hj hk hV hU
    obtain ⟨k, rfl⟩ : ∃ m, k = m + 1 := ⟨k - 1, by omega⟩
    have hj' : j < P.length := by omega
    obtain ⟨p1, p2, sb, my⟩ := hP _ (List.getElem_mem hj')
    have le : (ens (P.take j) V).length = j := by rw [ens_len (by rw [List.length_take]; omega), List.length_take]; omega
    have lx : (ens (P.take j) V ++ List.replicate (P.length - j) z65).length = P.length := by rw [List.length_append, le, List.length_replicate]; omega
    have fin : ∀ v', (ens (P.take j) V ++ List.replicate (P.length - j) z65).set j (en P[j] v') = ens (P.take (j + 1)) (V ++ [v']) ++ List.replicate (P.length - (j + 1)) z65 := by
      intro v'
      rw [ens_snoc hj' hV, List.append_assoc, List.set_append_right _ _ (by omega), le, Nat.sub_self, show P.length - j = (P.length - (j + 1)) + 1 by omega, List.replicate_succ]
      rfl
    rw [store_Make.l0, if_pos (by omega), if_pos (by omega), if_pos (by rw [sbs_len]; omega), if_pos (by rw [lx]; omega)]; simp only [bnd]
    rw [rdT_sbs hj', Int.toNat_natCast, w64 (x := (j : Int) + 1) (by omega) (by omega), show (j : Int) + 1 = ((j + 1 : Nat) : Int) by omega]
    dsimp only
    by_cases c : P[j].2 = 0
    · rw [if_pos (by omega)]
      obtain ⟨v', u', e⟩ := lKey_vl h s p1 p2 hs sb my v u (k := k) (by omega)
      rw [e]; simp only [bnd]
      rw [if_pos trivial, set_two _ (by rw [lx]; omega)]
      have f := fin v'
      unfold en vl at f
      rw [f]
      exact ih (j + 1) k _ (by omega) (by omega) (by rw [List.length_append, hV]; rfl) (fun x hx => by
        rcases List.mem_append.1 hx with hx | hx
        · exact hU x hx
        · rw [List.mem_singleton.1 hx]; exact u')
    · rw [if_neg (by omega)]
      obtain ⟨v', u', e⟩ := lLabelF_vl h p1 p2 sb v u (k := k) (by omega)
      rw [e]; simp only [bnd]
      rw [if_pos trivial, set_two _ (by rw [lx]; omega)]
      have f := fin v'
      unfold en vl at f
      rw [f]
      exact ih (j + 1) k _ (by omega) (by omega) (by rw [List.length_append, hV]; rfl) (fun x hx => by
        rcases List.mem_append.1 hx with hx | hx
        · exact hU x hx
        · rw [List.mem_singleton.1 hx]; exact u')
open Classical in
theorem Make_vl (h s : Int) {p : Nat} (hp : p < 18446744073709551616) (v : Nat × Nat) (u : U2 v) {k : Nat} (hk : 1500 ≤ k) :
    (Sch s ∧ Lfi h p ∧ ∃ V : List (Nat × Nat), V.length = (prs h.toNat s (2 ^ h.toNat + p)).length ∧ (∀ v ∈ V, U2 v) ∧ store_Make.f k [] h s false false (v.1 : Int) (v.2 : Int) 0 0 0 0 0 (p : Int) = some (ens (prs h.toNat s (2 ^ h.toNat + p)) V, [], 0)) ∨
      (¬ (Sch s ∧ Lfi h p) ∧ store_Make.f k [] h s false false (v.1 : Int) (v.2 : Int) 0 0 0 0 0 (p : Int) = some ([], [], 1)) := by
  obtain ⟨k, rfl⟩ : ∃ m, k = m + 1 := ⟨k - 1, by omega⟩
  unfold store_Make.f
  rw [Pairs_eq h s hp (by omega)]; simp only [bnd]
  rw [lWalk_vl v (by omega)]; simp only [bnd]
  by_cases c : Sch s ∧ Lfi h p
  · refine .inl ⟨c.1, c.2, ?_⟩
    have ch := c.2.1
    rw [hi_iff] at ch
    have hx : 2 ^ h.toNat + p ≠ 0 := by have := Nat.pow_pos (n := h.toNat) (show 0 < 2 by decide); omega
    have hl : (2 ^ h.toNat + p).log2 = h.toNat := by
      rw [Nat.log2_eq_iff hx]
      have := c.2.2
      rw [Nat.pow_succ]
      omega
    have pl := prs_len (show h.toNat ≤ 32 by omega) s (2 ^ h.toNat + p)
    obtain ⟨P, hP⟩ : ∃ P, P = prs h.toNat s (2 ^ h.toNat + p) := ⟨_, rfl⟩
    rw [if_pos c, ← hP]
    rw [← hP] at pl
    dsimp only
    rw [if_pos rfl, store_Make.j0, if_neg (by simp), sbs_len, if_pos (by omega), Int.toNat_natCast, if_pos (by omega)]
    have z := make_l h s P c.1 (by omega) (fun q hq => by
      rw [hP] at hq
      have m := prs_mem c.1 ⟨by omega, by omega⟩ hx hl hq
      have n1 := m.1.1.lt33
      refine ⟨by omega, ?_, m.1, m.2.2.2⟩
      rcases m.1.2 with z | z
      · omega
      · have := z.1.lt33; omega) v u P.length 0 k [] (by omega) (by omega) rfl (by simp)
    obtain ⟨V, h1, h2, h3⟩ := z
    refine ⟨V, h1, h2, ?_⟩
    have e0 : ens (P.take 0) [] ++ List.replicate (P.length - 0) z65 = List.replicate P.length z65 := by simp [ens]
    rw [e0] at h3
    exact h3
  · refine .inr ⟨c, ?_⟩
    rw [if_neg c]; dsimp only
    rw [if_neg (by decide), store_Make.j0, if_pos rfl]
theorem outl_lpn : ∀ h : Fin 33, (outl h.val 3 (2 ^ h.val) 0 h.val).length = lpn h.val := by decide +kernel
theorem log_two (h : Nat) : (2 ^ h).log2 = h := leaf_log2 (Nat.le_refl _) (by rw [Nat.pow_succ]; have := pow_pos2 h; omega)
theorem okp_dep {h x y t e : Nat} {s : Int} (hx : x ≠ 0) (hy : y ≠ 0) (lx : x.log2 = h) (ly : y.log2 = h) (ht : t < e) (he : e ≤ h) :
    okp h s (anc x t) (sib (anc x e)) = okp h s (anc y t) (sib (anc y e)) := by
  have a1 := anc_log2 hx (show t ≤ x.log2 by omega)
  have a2 := anc_log2 hy (show t ≤ y.log2 by omega)
  have b1 := anc_two hx (show 1 ≤ e by omega) (by omega)
  have b2 := anc_two hy (show 1 ≤ e by omega) (by omega)
  have c1 := sib_pos b1
  have c2 := sib_pos b2
  have d1 := sib_log2 b1
  have d2 := sib_log2 b2
  rw [anc_log2 hx (by omega)] at d1
  rw [anc_log2 hy (by omega)] at d2
  unfold okp
  congr 1
  rw [decide_eq_decide, usf_j _ _ (by omega), usf_j _ _ (by omega), a1, a2, d1, d2]
theorem inl_dep {h x y t : Nat} {s : Int} (hx : x ≠ 0) (hy : y ≠ 0) (lx : x.log2 = h) (ly : y.log2 = h) : ∀ {m e : Nat}, t < e → e + m ≤ h + 1 →
    (inl h s x t e m).length = (inl h s y t e m).length
  | 0, e, _, _ => rfl
  | m + 1, e, ht, he => by
    rw [inl, inl, List.length_append, List.length_append, inl_dep hx hy lx ly (by omega) (by omega), okp_dep (s := s) hx hy lx ly ht (by omega)]
    split <;> rfl
theorem outl_dep {h x y : Nat} {s : Int} (hx : x ≠ 0) (hy : y ≠ 0) (lx : x.log2 = h) (ly : y.log2 = h) : ∀ {m t : Nat}, t + m = h →
    (outl h s x t m).length = (outl h s y t m).length
  | 0, t, _ => rfl
  | m + 1, t, ht => by
    rw [outl, outl, List.length_append, List.length_append, inl_dep hx hy lx ly (by omega) (by omega), outl_dep hx hy lx ly (by omega)]
theorem inl_all {h : Nat} {s : Int} {x t : Nat} (hs : s ≠ 3) : ∀ {m e : Nat}, (inl h s x t e m).length = m
  | 0, e => rfl
  | m + 1, e => by rw [inl, List.length_append, inl_all hs, if_pos (by simp [okp, hs])]; simp; omega
theorem outl_all {h : Nat} {s : Int} {x : Nat} (hs : s ≠ 3) : ∀ {m t : Nat}, t + m = h → (outl h s x t m).length = m * (m + 1) / 2
  | 0, t, _ => rfl
  | m + 1, t, ht => by
    rw [outl, List.length_append, inl_all hs, outl_all hs (by omega)]
    have : (m + 1) * (m + 1 + 1) = m * (m + 1) + 2 * (m + 1) := by
      rw [Nat.add_mul, Nat.mul_add m (m + 1) 1]; omega
    omega
theorem prs_pmn {h x : Nat} {s : Int} (hs : Sch s) (hh : h ≤ 32) (hx : x ≠ 0) (lx : x.log2 = h) : (prs h s x).length = pmn h s := by
  rw [sch_iff] at hs
  unfold prs pmn
  by_cases s1 : s = 1
  · rw [if_pos s1, if_pos s1]; simp
  · rw [if_neg s1, if_neg s1, List.length_cons]
    by_cases s2 : s = 2
    · rw [if_pos s2, outl_all (by omega) (by omega)]
    · rw [if_neg s2]
      obtain rfl : s = 3 := by omega
      have h0 : 2 ^ h ≠ 0 := by have := pow_pos2 h; omega
      rw [outl_dep hx h0 lx (log_two h) (by omega)]
      rw [show (outl h 3 (2 ^ h) 0 h).length = lpn h from outl_lpn ⟨h, by omega⟩]
end Go.Proofs.Ytoljdfgkkkpnbaa.Med
