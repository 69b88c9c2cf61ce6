/- Plain facts that the proof of StoreMay needs. -/
import Derived.Test.YtkleiaeihihjnaaK0
import Derived.Laws.Bits64b
import Derived.Laws.Bits64
import Derived.Test.YtkleiaeihihjnaaMPx0
import Derived.Test.YtkleiaeihihjnaaMPx2
import Derived.Test.YtkleiaeihihjnaaMPx3
import Derived.Test.YtkleiaeihihjnaaMPx4
import Derived.Test.YtkleiaeihihjnaaMPx5
import Derived.Test.YtkleiaeihihjnaaMPx6
import Derived.Test.YtkleiaeihihjnaaMPx7
set_option linter.unusedVariables false
set_option linter.unusedSimpArgs false
set_option linter.unusedSectionVars false
namespace Go.Proofs.Ytkleiaeihihjnaa.Med
open Go.RowKit Go.Proofs.YtkleiaeihihjnaaW.PrintWords Go.Proofs.YtkleiaeihihjnaaW.PrintMore Go.Proofs.Ytkleiaeihihjnaa.MP
theorem bnd {α β : Type} (a : α) (f : α → Option β) : (some a).bind f = f a := by
  have h := Option.bind_some a f
  exact h
theorem w64 {x : Int} (h0 : -9223372036854775808 ≤ x) (h1 : x ≤ 9223372036854775807) : wrap64 x = x := by unfold wrap64; omega
theorem wu64 {x : Int} (h0 : 0 ≤ x) (h1 : x < 18446744073709551616) : IntKind.u64.wrap x = x := by
  have : IntKind.u64.wrap x = x % 18446744073709551616 := by rfl
  omega
theorem wf_u64 {x : Int} (h : (Lit.int .u64 x).wf = true) : ∃ n : Nat, x = (n : Int) ∧ n < 18446744073709551616 := by
  have h0 : IntKind.u64.min = 0 := by decide
  have h1 : IntKind.u64.max = 18446744073709551615 := by decide
  simp [Lit.wf, h0, h1] at h
  exact ⟨x.toNat, by omega, by omega⟩
theorem log2_iff {n d : Nat} (hn : n ≠ 0) : n.log2 = d ↔ 2 ^ d ≤ n ∧ n < 2 ^ (d + 1) := Nat.log2_eq_iff hn
theorem log2_lo {n : Nat} (hn : n ≠ 0) : 2 ^ n.log2 ≤ n := Nat.log2_self_le hn
theorem log2_hi (n : Nat) : n < 2 ^ (n.log2 + 1) := Nat.lt_log2_self
theorem log2_one : Nat.log2 1 = 0 := by decide
theorem pow_pos2 (k : Nat) : 0 < 2 ^ k := Nat.two_pow_pos k
theorem pow_split {a b : Nat} (h : a ≤ b) : 2 ^ b = 2 ^ a * 2 ^ (b - a) := by rw [← Nat.pow_add]; congr 1; omega
theorem pow_mono {a b : Nat} (h : a ≤ b) : 2 ^ a ≤ 2 ^ b := Nat.pow_le_pow_right (by omega) h
theorem pow_le_32 {d : Nat} (h : d ≤ 33) : 2 ^ d ≤ 8589934592 := pow_mono (b := 33) h
theorem log2_div {n k : Nat} (hn : n ≠ 0) (hk : k ≤ n.log2) : (n / 2 ^ k).log2 = n.log2 - k ∧ n / 2 ^ k ≠ 0 := by
  have h1 := log2_lo hn
  have h2 := log2_hi n
  have hp := pow_pos2 k
  rw [pow_split hk] at h1
  have e : n.log2 + 1 = k + (n.log2 - k + 1) := by omega
  rw [e, Nat.pow_add] at h2
  have g1 : 2 ^ (n.log2 - k) ≤ n / 2 ^ k := (Nat.le_div_iff_mul_le hp).2 (by rw [Nat.mul_comm]; exact h1)
  have g2 : n / 2 ^ k < 2 ^ (n.log2 - k + 1) := Nat.div_lt_of_lt_mul h2
  have g3 : n / 2 ^ k ≠ 0 := by have := pow_pos2 (n.log2 - k); omega
  exact ⟨(log2_iff g3).2 ⟨g1, g2⟩, g3⟩
def anc (n d : Nat) : Nat := n / 2 ^ (n.log2 - d)
theorem anc_log2 {n d : Nat} (hn : n ≠ 0) (hd : d ≤ n.log2) : (anc n d).log2 = d := by
  have := (log2_div hn (k := n.log2 - d) (by omega)).1
  unfold anc; omega
theorem anc_ne {n d : Nat} (hn : n ≠ 0) : anc n d ≠ 0 := (log2_div hn (k := n.log2 - d) (by omega)).2
theorem anc_self (n : Nat) : anc n n.log2 = n := by unfold anc; simp
theorem anc_le (n d : Nat) : anc n d ≤ n := Nat.div_le_self _ _
theorem anc_zero {n : Nat} (hn : n ≠ 0) : anc n 0 = 1 := by
  have h := anc_log2 hn (Nat.zero_le _)
  have h0 := anc_ne (d := 0) hn
  have := (log2_iff h0).1 h
  omega
theorem anc_anc {n d e : Nat} (hn : n ≠ 0) (hd : d ≤ n.log2) (he : e ≤ d) : anc (anc n d) e = anc n e := by
  unfold anc
  rw [show (n / 2 ^ (n.log2 - d)).log2 = d from anc_log2 hn hd, Nat.div_div_eq_div_mul, ← Nat.pow_add]
  congr 2; omega
def Abv (a b : Nat) : Prop := a.log2 ≤ b.log2 ∧ anc b a.log2 = a
instance (a b : Nat) : Decidable (Abv a b) := inferInstanceAs (Decidable (_ ∧ _))
theorem Abv.trans {a b c : Nat} (hc : c ≠ 0) (h : Abv a b) (k : Abv b c) : Abv a c := by
  refine ⟨Nat.le_trans h.1 k.1, ?_⟩
  rw [← anc_anc hc k.1 h.1, k.2]; exact h.2
theorem abv_anc {n d : Nat} (hn : n ≠ 0) (hd : d ≤ n.log2) : Abv (anc n d) n := by
  unfold Abv; rw [anc_log2 hn hd]; exact ⟨hd, rfl⟩
theorem abv_root {n : Nat} (hn : n ≠ 0) : Abv 1 n := ⟨by rw [log2_one]; omega, by rw [log2_one]; exact anc_zero hn⟩
def rt (h n : Nat) : Nat := (n + 1) * 2 ^ (h - n.log2)
theorem leaf_log2 {h x : Nat} (h0 : 2 ^ h ≤ x) (h1 : x < 2 ^ (h + 1)) : x.log2 = h := by
  have : x ≠ 0 := by have := pow_pos2 h; omega
  exact (log2_iff this).2 ⟨h0, h1⟩
theorem log2_half {n : Nat} (h : 2 ≤ n) : (n / 2).log2 + 1 = n.log2 := by
  have h1 : 1 ≤ n.log2 := (Nat.le_log2 (by omega)).2 (by simpa using h)
  have := (log2_div (n := n) (k := 1) (by omega) h1).1
  rw [Nat.pow_one] at this; omega
def sz (n : Nat) : Nat := if n = 0 then 0 else n.log2 + 1
theorem sz_div {n k : Nat} (h : 2 ^ k ≤ n) : sz n = sz (n / 2 ^ k) + k := by
  have hp := pow_pos2 k
  have hn : n ≠ 0 := by omega
  have hk : k ≤ n.log2 := (Nat.le_log2 hn).2 h
  obtain ⟨a, b⟩ := log2_div hn hk
  unfold sz; rw [if_neg hn, if_neg b, a]; omega
theorem sz_le {n k : Nat} (h : n < 2 ^ k) : sz n ≤ k := by
  unfold sz; split
  · omega
  · rename_i hn; have := (Nat.log2_lt hn).2 h; omega
theorem log2_64 {n : Nat} (hn : n < 18446744073709551616) : n.log2 < 64 := by
  by_cases h : n = 0
  · subst h; decide
  · exact (Nat.log2_lt h).2 hn
def Nd (h n : Nat) : Prop := 1 ≤ h ∧ h ≤ 32 ∧ n ≠ 0 ∧ n.log2 ≤ h
instance (h n : Nat) : Decidable (Nd h n) := inferInstanceAs (Decidable (_ ∧ _))
theorem Nd.lt {h n : Nat} (d : Nd h n) : n < 2 ^ (h + 1) := Nat.lt_of_lt_of_le (log2_hi n) (pow_mono (by have := d.2.2.2; omega))
theorem Nd.lt33 {h n : Nat} (d : Nd h n) : n < 8589934592 := Nat.lt_of_lt_of_le d.lt (pow_le_32 (by have := d.2.1; omega))
theorem nd_root {h : Nat} : Nd h 1 ↔ 1 ≤ h ∧ h ≤ 32 := by unfold Nd; rw [log2_one]; omega
def Hi (h : Int) : Prop := 1 ≤ h ∧ h ≤ 32
instance (h : Int) : Decidable (Hi h) := inferInstanceAs (Decidable (_ ∧ _))
theorem hi_iff (h : Int) : Hi h ↔ 1 ≤ h ∧ h ≤ 32 := Iff.rfl
theorem nd_iff (h n : Nat) : Nd h n ↔ 1 ≤ h ∧ h ≤ 32 ∧ n ≠ 0 ∧ n.log2 ≤ h := Iff.rfl
def Sb (h i j : Nat) : Prop := Nd h i ∧ (j = 0 ∨ (Nd h j ∧ i ≠ j ∧ Abv i j))
instance (h i j : Nat) : Decidable (Sb h i j) := inferInstanceAs (Decidable (_ ∧ _))
def stp (h : Nat) : Nat := if h ≤ 1 then 1 else if h ≤ 4 then 2 else if h ≤ 9 then 3 else if h ≤ 16 then 4 else if h ≤ 25 then 5 else 6
theorem stp_pos (h : Nat) : 1 ≤ stp h ∧ stp h ≤ 6 := by unfold stp; constructor <;> (repeat' split) <;> omega
theorem root_lt : (1 : Nat) < 18446744073709551616 := by omega
theorem nd_root' (h : Int) : Nd h.toNat 1 ↔ Hi h := by rw [nd_root, hi_iff]; omega
def nxt (h i : Nat) : Nat := min ((i / stp h + 1) * stp h) h
def Spc (h i : Nat) : Prop := i % stp h = 0 ∨ i = h
instance (h i : Nat) : Decidable (Spc h i) := inferInstanceAs (Decidable (_ ∨ _))
theorem spc_iff (h i : Nat) : Spc h i ↔ i % stp h = 0 ∨ i = h := Iff.rfl
theorem tmod_cast (i s : Nat) : Int.tmod (i : Int) (s : Int) = ((i % s : Nat) : Int) := by rw [Int.tmod_eq_emod_of_nonneg (by omega)]; rfl
def Usf (h i j : Nat) : Prop := (j = 0 ∧ i = 1) ∨ (j ≠ 0 ∧ (Spc h i.log2 ∨ j.log2 ≤ nxt h i.log2))
instance (h i j : Nat) : Decidable (Usf h i j) := inferInstanceAs (Decidable (_ ∨ _))
theorem usf_iff (h i j : Nat) : Usf h i j ↔ (j = 0 ∧ i = 1) ∨ (j ≠ 0 ∧ (Spc h i.log2 ∨ j.log2 ≤ nxt h i.log2)) := Iff.rfl
theorem usf_0 (h i : Nat) : Usf h i 0 ↔ i = 1 := by rw [usf_iff]; simp
theorem usf_j (h i : Nat) {j : Nat} (h0 : j ≠ 0) : Usf h i j ↔ (Spc h i.log2 ∨ j.log2 ≤ nxt h i.log2) := by rw [usf_iff]; simp [h0]
theorem sb_h {h : Int} {i j : Nat} (s : Sb h.toNat i j) : ((h.toNat : Nat) : Int) = h := by have := s.1.1; omega
def hi (h n : Nat) : Nat := rt h n - 1 - 2 ^ h
theorem pow_le_h {h : Nat} (hh : h ≤ 32) : 2 ^ h ≤ 4294967296 := pow_mono (b := 32) hh
def Rise (m : Nat) : Nat → List (Nat × Nat) → Prop
  | _, [] => True
  | from_, x :: l => from_ ≤ x.1 ∧ x.1 ≤ x.2 ∧ x.2 < m ∧ Rise m (x.2 + 1) l
theorem Rise.mono {m : Nat} {l : List (Nat × Nat)} {a b : Nat} (h : Rise m a l) (hb : b ≤ a) : Rise m b l := by
  cases l with
  | nil => trivial
  | cons x l => exact ⟨Nat.le_trans hb h.1, h.2⟩
theorem sb_lt {h i j : Nat} (s : Sb h i j) : i < 18446744073709551616 ∧ j < 18446744073709551616 := by
  refine ⟨by have := s.1.lt33; omega, ?_⟩
  rcases s.2 with z | z
  · omega
  · have := z.1.lt33; omega
def Lfi (h : Int) (p : Nat) : Prop := Hi h ∧ p < 2 ^ h.toNat
instance (h : Int) (p : Nat) : Decidable (Lfi h p) := inferInstanceAs (Decidable (_ ∧ _))
def Sch (s : Int) : Prop := 1 ≤ s ∧ s ≤ 3
instance (s : Int) : Decidable (Sch s) := inferInstanceAs (Decidable (_ ∧ _))
theorem sch_iff (s : Int) : Sch s ↔ 1 ≤ s ∧ s ≤ 3 := Iff.rfl
def May (h : Nat) (s : Int) (i j : Nat) : Prop := (s = 1 ∧ j = 0) ∨ (s = 2 ∧ (j ≠ 0 ∨ i = 1)) ∨ (s ≠ 1 ∧ s ≠ 2 ∧ Usf h i j)
instance (h : Nat) (s : Int) (i j : Nat) : Decidable (May h s i j) := inferInstanceAs (Decidable (_ ∨ _))
theorem may_iff (h : Nat) (s : Int) (i j : Nat) : May h s i j ↔ (s = 1 ∧ j = 0) ∨ (s = 2 ∧ (j ≠ 0 ∨ i = 1)) ∨ (s ≠ 1 ∧ s ≠ 2 ∧ Usf h i j) := Iff.rfl
def lpn (h : Nat) : Nat := ((List.range h).map fun i => if i % stp h = 0 then h - i else nxt h i - i).sum
theorem lpn_all : ∀ h : Fin 33, 1 ≤ h.val → h.val ≤ lpn h.val ∧ 2 * lpn h.val ≤ h.val * (h.val + 1) ∧ (stp h.val ≤ 1 → 2 * lpn h.val = h.val * (h.val + 1)) := by decide +kernel
def pmn (h : Nat) (s : Int) : Nat := if s = 1 then h + 1 else if s = 2 then h * (h + 1) / 2 + 1 else lpn h + 1
theorem pmn_le {h : Nat} (h1 : 1 ≤ h) (h2 : h ≤ 32) (s : Int) : pmn h s ≤ 529 := by
  have := lpn_all ⟨h, by omega⟩ h1
  simp only at this
  have h3 : h * (h + 1) ≤ 32 * 33 := Nat.mul_le_mul (by omega) (by omega)
  unfold pmn
  split
  · omega
  · split <;> omega
def sib (n : Nat) : Nat := n ^^^ 1
theorem sib_eq (n : Nat) : sib n = if n % 2 = 0 then n + 1 else n - 1 := by
  unfold sib
  have h1 : (n ^^^ 1) / 2 = n / 2 := by rw [Nat.xor_div_two]; simp
  have h2 : (n ^^^ 1) % 2 = (n + 1) % 2 := by
    have h3 : (n ^^^ 1) % 2 ^ 1 = n % 2 ^ 1 ^^^ 1 % 2 ^ 1 := Nat.xor_mod_two_pow
    rw [Nat.pow_one] at h3
    rw [h3]
    rcases Nat.mod_two_eq_zero_or_one n with z | z
    · rw [z]; have : (0 ^^^ 1 % 2 : Nat) = 1 := by decide
      omega
    · rw [z]; have : (1 ^^^ 1 % 2 : Nat) = 0 := by decide
      omega
  split <;> omega
theorem sib_half (n : Nat) : sib n / 2 = n / 2 := by rw [sib_eq]; split <;> omega
theorem sib_ne (n : Nat) : sib n ≠ n := by rw [sib_eq]; split <;> omega
theorem sib_pos {n : Nat} (h : 2 ≤ n) : 2 ≤ sib n := by rw [sib_eq]; split <;> omega
theorem sib_log2 {n : Nat} (h : 2 ≤ n) : (sib n).log2 = n.log2 := by
  have h1 := log2_half h
  have h2 := log2_half (sib_pos h)
  rw [sib_half] at h2; omega
theorem anc_half {n d : Nat} (h : 2 ≤ n) (hd : d < n.log2) : anc n d = anc (n / 2) d := by
  have h1 := log2_half h
  unfold anc
  rw [show n.log2 - d = 1 + ((n / 2).log2 - d) by omega, Nat.pow_add, Nat.pow_one, Nat.div_div_eq_div_mul]
theorem anc_sib {n d : Nat} (h : 2 ≤ n) (hd : d < n.log2) : anc (sib n) d = anc n d := by
  rw [anc_half h hd, anc_half (sib_pos h) (by rw [sib_log2 h]; exact hd), sib_half]
theorem anc_two {x e : Nat} (hx : x ≠ 0) (h1 : 1 ≤ e) (h2 : e ≤ x.log2) : 2 ≤ anc x e := by
  have h := anc_log2 hx h2
  have h0 := anc_ne (d := e) hx
  have := (log2_iff h0).1 h
  have := pow_mono h1
  omega
theorem pair_sb {h x t e : Nat} (hh : 1 ≤ h ∧ h ≤ 32) (hx : x ≠ 0) (hl : x.log2 = h) (ht : t < e) (he : e ≤ h) :
    Sb h (anc x t) (sib (anc x e)) ∧ Abv (anc x t) x ∧ ¬ Abv (sib (anc x e)) x ∧ sib (anc x e) ≠ 0 ∧ (anc x t).log2 = t ∧ (sib (anc x e)).log2 = e := by
  have l1 := anc_log2 hx (show t ≤ x.log2 by omega)
  have l2 := anc_log2 hx (show e ≤ x.log2 by omega)
  have n1 := anc_ne (d := t) hx
  have n2 := anc_two hx (show 1 ≤ e by omega) (by omega)
  have n3 := sib_pos n2
  have l3 := sib_log2 n2
  have s0 : sib (anc x e) ≠ 0 := by omega
  refine ⟨⟨⟨hh.1, hh.2, n1, by omega⟩, .inr ⟨⟨hh.1, hh.2, s0, by omega⟩, fun z => ?_, by omega, ?_⟩⟩, abv_anc hx (by omega), ?_, s0, l1, by omega⟩
  · rw [← z] at l3; omega
  · rw [l1, anc_sib n2 (by omega), anc_anc hx (by omega) (by omega)]
  · rintro ⟨_, z⟩
    rw [l3, l2] at z
    exact sib_ne _ z.symm
def okp (h : Nat) (s : Int) (i j : Nat) : Bool := decide (s ≠ 3) || decide (Usf h i j)
def inl (h : Nat) (s : Int) (x t : Nat) : Nat → Nat → List (Nat × Nat)
  | _, 0 => []
  | e, m + 1 => (if okp h s (anc x t) (sib (anc x e)) = true then [(anc x t, sib (anc x e))] else []) ++ inl h s x t (e + 1) m
def outl (h : Nat) (s : Int) (x : Nat) : Nat → Nat → List (Nat × Nat)
  | _, 0 => []
  | t, m + 1 => inl h s x t (t + 1) (h - t) ++ outl h s x (t + 1) m
def prs (h : Nat) (s : Int) (x : Nat) : List (Nat × Nat) := if s = 1 then (List.range (h + 1)).map fun d => (anc x d, 0) else (1, 0) :: outl h s x 0 h
theorem mem_inl {h : Nat} {s : Int} {x t : Nat} {p : Nat × Nat} : ∀ {m e : Nat}, p ∈ inl h s x t e m ↔ ∃ d, e ≤ d ∧ d < e + m ∧ p = (anc x t, sib (anc x d)) ∧ okp h s (anc x t) (sib (anc x d)) = true
  | 0, e => by simp [inl]; omega
  | m + 1, e => by
    rw [inl, List.mem_append, mem_inl (m := m)]
    constructor
    · rintro (z | ⟨d, h1, h2, h3⟩)
      · split at z
        · rename_i c
          simp only [List.mem_singleton] at z
          exact ⟨e, Nat.le_refl _, by omega, z, c⟩
        · simp at z
      · exact ⟨d, by omega, by omega, h3⟩
    · rintro ⟨d, h1, h2, h3, h4⟩
      by_cases c : d = e
      · subst c; left; rw [if_pos h4]; simp [h3]
      · right; exact ⟨d, by omega, by omega, h3, h4⟩
theorem mem_outl {h : Nat} {s : Int} {x : Nat} {p : Nat × Nat} : ∀ {m t : Nat}, t + m = h → (p ∈ outl h s x t m ↔ ∃ q d, t ≤ q ∧ q < d ∧ d ≤ h ∧ p = (anc x q, sib (anc x d)) ∧ okp h s (anc x q) (sib (anc x d)) = true)
  | 0, t, ht => by simp [outl]; omega
  | m + 1, t, ht => by
    rw [outl, List.mem_append, mem_inl, mem_outl (m := m) (by omega)]
    constructor
    · rintro (⟨d, h1, h2, h3, h4⟩ | ⟨q, d, h1, h2, h3, h4⟩)
      · exact ⟨t, d, Nat.le_refl _, by omega, by omega, h3, h4⟩
      · exact ⟨q, d, by omega, h2, h3, h4⟩
    · rintro ⟨q, d, h1, h2, h3, h4⟩
      by_cases c : q = t
      · subst c; left; exact ⟨d, by omega, by omega, h4⟩
      · right; exact ⟨q, d, by omega, h2, h3, h4⟩
theorem inl_len {h : Nat} {s : Int} {x t : Nat} : ∀ {m e : Nat}, (inl h s x t e m).length ≤ m
  | 0, e => by simp [inl]
  | m + 1, e => by
    rw [inl, List.length_append]
    have := inl_len (h := h) (s := s) (x := x) (t := t) (m := m) (e := e + 1)
    split <;> simp <;> omega
theorem outl_len {h : Nat} {s : Int} {x : Nat} : ∀ {m t : Nat}, (outl h s x t m).length ≤ m * h
  | 0, t => by simp [outl]
  | m + 1, t => by
    rw [outl, List.length_append, Nat.add_mul, Nat.one_mul]
    have := outl_len (h := h) (s := s) (x := x) (m := m) (t := t + 1)
    have := inl_len (h := h) (s := s) (x := x) (t := t) (m := h - t) (e := t + 1)
    omega
theorem prs_len {h : Nat} (hh : h ≤ 32) (s : Int) (x : Nat) : (prs h s x).length ≤ 1025 := by
  unfold prs
  split
  · simp; omega
  · have := outl_len (h := h) (s := s) (x := x) (m := h) (t := 0)
    have : h * h ≤ 32 * 32 := Nat.mul_le_mul hh hh
    simp only [List.length_cons]; omega
theorem prs_mem {H x : Nat} {s : Int} (hs : Sch s) (hh : 1 ≤ H ∧ H ≤ 32) (hx : x ≠ 0) (hl : x.log2 = H) {q : Nat × Nat} (hq : q ∈ prs H s x) :
    Sb H q.1 q.2 ∧ Abv q.1 x ∧ (q.2 = 0 ∨ ¬ Abv q.2 x) ∧ May H s q.1 q.2 := by
  rw [sch_iff] at hs
  unfold prs at hq
  by_cases s1 : s = 1
  · rw [if_pos s1] at hq
    simp only [List.mem_map, List.mem_range] at hq
    obtain ⟨d, hd, rfl⟩ := hq
    have l1 := anc_log2 hx (show d ≤ x.log2 by omega)
    have l2 : (anc x d).log2 ≤ H := by omega
    exact ⟨⟨⟨hh.1, hh.2, anc_ne hx, l2⟩, .inl rfl⟩, abv_anc hx (by omega), .inl rfl, .inl ⟨s1, rfl⟩⟩
  · rw [if_neg s1] at hq
    rcases List.mem_cons.1 hq with rfl | hq
    · have n1 : Nd H 1 := nd_root.2 hh
      refine ⟨⟨n1, .inl rfl⟩, abv_root hx, .inl rfl, ?_⟩
      by_cases s2 : s = 2
      · exact .inr (.inl ⟨s2, .inr rfl⟩)
      · exact .inr (.inr ⟨s1, s2, (usf_0 _ _).2 rfl⟩)
    · obtain ⟨t, d, h1, h2, h3, rfl, o⟩ := (mem_outl (by omega)).1 hq
      obtain ⟨a, b, c, e, _, _⟩ := pair_sb hh hx hl h2 h3
      refine ⟨a, b, .inr c, ?_⟩
      by_cases s2 : s = 2
      · exact .inr (.inl ⟨s2, .inl e⟩)
      · refine .inr (.inr ⟨s1, s2, ?_⟩)
        have s3 : s = 3 := by omega
        simpa [okp, s3] using o
def ints (l : List Nat) : List Int := l.map Int.ofNat
theorem ints_len (l : List Nat) : (ints l).length = l.length := by simp [ints]
theorem rd_cast (l : List Int) {i : Nat} (h : i < l.length) : rd l (i : Int) = l[i] := by
  unfold rd
  simp [List.getD_eq_getElem?_getD, h]
set_option maxRecDepth 100000 in
theorem len8_all : ∀ i : Fin 256, bt (⟨#[0, 1, 2, 2, 3, 3, 3, 3, 4, 4, 4, 4, 4, 4, 4, 4, 5, 5, 5, 5, 5, 5, 5, 5, 5, 5, 5, 5, 5, 5, 5, 5, 6, 6, 6, 6, 6, 6, 6, 6, 6, 6, 6, 6, 6, 6, 6, 6, 6, 6, 6, 6, 6, 6, 6, 6, 6, 6, 6, 6, 6, 6, 6, 6, 7, 7, 7, 7, 7, 7, 7, 7, 7, 7, 7, 7, 7, 7, 7, 7, 7, 7, 7, 7, 7, 7, 7, 7, 7, 7, 7, 7, 7, 7, 7, 7, 7, 7, 7, 7, 7, 7, 7, 7, 7, 7, 7, 7, 7, 7, 7, 7, 7, 7, 7, 7, 7, 7, 7, 7, 7, 7, 7, 7, 7, 7, 7, 7, 8, 8, 8, 8, 8, 8, 8, 8, 8, 8, 8, 8, 8, 8, 8, 8, 8, 8, 8, 8, 8, 8, 8, 8, 8, 8, 8, 8, 8, 8, 8, 8, 8, 8, 8, 8, 8, 8, 8, 8, 8, 8, 8, 8, 8, 8, 8, 8, 8, 8, 8, 8, 8, 8, 8, 8, 8, 8, 8, 8, 8, 8, 8, 8, 8, 8, 8, 8, 8, 8, 8, 8, 8, 8, 8, 8, 8, 8, 8, 8, 8, 8, 8, 8, 8, 8, 8, 8, 8, 8, 8, 8, 8, 8, 8, 8, 8, 8, 8, 8, 8, 8, 8, 8, 8, 8, 8, 8, 8, 8, 8, 8, 8, 8, 8, 8, 8, 8, 8, 8, 8, 8, 8, 8, 8, 8, 8, 8]⟩ : ByteArray) (i.val : Int) = (sz i.val : Int) := by decide +kernel
set_option maxRecDepth 100000 in
theorem len8 {i : Nat} (h : i < 256) : bt (⟨#[0, 1, 2, 2, 3, 3, 3, 3, 4, 4, 4, 4, 4, 4, 4, 4, 5, 5, 5, 5, 5, 5, 5, 5, 5, 5, 5, 5, 5, 5, 5, 5, 6, 6, 6, 6, 6, 6, 6, 6, 6, 6, 6, 6, 6, 6, 6, 6, 6, 6, 6, 6, 6, 6, 6, 6, 6, 6, 6, 6, 6, 6, 6, 6, 7, 7, 7, 7, 7, 7, 7, 7, 7, 7, 7, 7, 7, 7, 7, 7, 7, 7, 7, 7, 7, 7, 7, 7, 7, 7, 7, 7, 7, 7, 7, 7, 7, 7, 7, 7, 7, 7, 7, 7, 7, 7, 7, 7, 7, 7, 7, 7, 7, 7, 7, 7, 7, 7, 7, 7, 7, 7, 7, 7, 7, 7, 7, 7, 8, 8, 8, 8, 8, 8, 8, 8, 8, 8, 8, 8, 8, 8, 8, 8, 8, 8, 8, 8, 8, 8, 8, 8, 8, 8, 8, 8, 8, 8, 8, 8, 8, 8, 8, 8, 8, 8, 8, 8, 8, 8, 8, 8, 8, 8, 8, 8, 8, 8, 8, 8, 8, 8, 8, 8, 8, 8, 8, 8, 8, 8, 8, 8, 8, 8, 8, 8, 8, 8, 8, 8, 8, 8, 8, 8, 8, 8, 8, 8, 8, 8, 8, 8, 8, 8, 8, 8, 8, 8, 8, 8, 8, 8, 8, 8, 8, 8, 8, 8, 8, 8, 8, 8, 8, 8, 8, 8, 8, 8, 8, 8, 8, 8, 8, 8, 8, 8, 8, 8, 8, 8, 8, 8, 8, 8, 8, 8]⟩ : ByteArray) (i : Int) = (sz i : Int) := len8_all ⟨i, h⟩
set_option maxRecDepth 100000 in
theorem len64_j (k n c : Nat) (hn : n < 4294967296) (hc : c ≤ 32) : bits_Len64.j0 (k + 1) (n : Int) (c : Int) = some ((c + sz n : Nat) : Int) := by
  have h32 : sz n ≤ 32 := sz_le hn
  simp only [bits_Len64.j0]
  by_cases h1 : 65536 ≤ n
  · have e1 := sz_div (n := n) (k := 16) h1
    rw [if_pos (by omega)]
    by_cases h2 : 256 ≤ n / 65536
    · have e2 := sz_div (n := n / 65536) (k := 8) h2
      have i1 : n / 65536 / 256 < 256 := by omega
      have e3 : ((n : Int) / 65536 / 256) % 256 = ((n / 65536 / 256 : Nat) : Int) := by omega
      rw [if_pos (by omega), e3, if_pos (by omega), if_pos (by omega), len8 i1]
      have e1' : sz n = sz (n / 65536) + 16 := e1
      have e2' : sz (n / 65536) = sz (n / 65536 / 256) + 8 := e2
      rw [w64 (x := (c : Int) + 16) (by omega) (by omega), w64 (x := (c : Int) + 16 + 8) (by omega) (by omega), w64 (x := (sz (n / 65536 / 256) : Int)) (by omega) (by omega), w64 (by omega) (by omega)]
      congr 1; omega
    · have i1 : n / 65536 < 256 := by omega
      have e3 : ((n : Int) / 65536) % 256 = ((n / 65536 : Nat) : Int) := by omega
      have e1' : sz n = sz (n / 65536) + 16 := e1
      rw [if_neg (by omega), e3, if_pos (by omega), if_pos (by omega), len8 i1]
      rw [w64 (x := (c : Int) + 16) (by omega) (by omega), w64 (x := (sz (n / 65536) : Int)) (by omega) (by omega), w64 (by omega) (by omega)]
      congr 1; omega
  · rw [if_neg (by omega)]
    by_cases h2 : 256 ≤ n
    · have e2 : sz n = sz (n / 256) + 8 := sz_div (n := n) (k := 8) h2
      have i1 : n / 256 < 256 := by omega
      have e3 : ((n : Int) / 256) % 256 = ((n / 256 : Nat) : Int) := by omega
      rw [if_pos (by omega), e3, if_pos (by omega), if_pos (by omega), len8 i1]
      rw [w64 (x := (c : Int) + 8) (by omega) (by omega), w64 (x := (sz (n / 256) : Int)) (by omega) (by omega), w64 (by omega) (by omega)]
      congr 1; omega
    · have e3 : (n : Int) % 256 = (n : Int) := by omega
      rw [if_neg (by omega), e3, if_pos (by omega), if_pos (by omega), len8 (by omega)]
      rw [w64 (x := (sz n : Int)) (by omega) (by omega), w64 (by omega) (by omega)]
      congr 1
theorem len64 {n : Nat} (hn : n < 18446744073709551616) (k : Nat) : bits_Len64.f (k + 1) (n : Int) = some (sz n : Int) := by
  unfold bits_Len64.f
  by_cases h : 4294967296 ≤ n
  · have e : sz n = sz (n / 4294967296) + 32 := sz_div (n := n) (k := 32) h
    have := len64_j k (n / 4294967296) 32 (by omega) (by omega)
    rw [if_pos (by omega), show (n : Int) / 4294967296 = ((n / 4294967296 : Nat) : Int) by omega, show (32 : Int) = ((32 : Nat) : Int) by rfl, this]
    congr 2; omega
  · have := len64_j k n 0 (by omega) (by omega)
    rw [if_neg (by omega), show (0 : Int) = ((0 : Nat) : Int) by rfl, this]
    simp
theorem depth_eq {n : Nat} (h0 : n ≠ 0) (hn : n < 18446744073709551616) (k : Nat) : node_depth.f (k + 1) (n : Int) = some (n.log2 : Int) := by
  have := sz_le (k := 64) hn
  unfold node_depth.f
  rw [len64 hn]; simp only [Option.bind_some]
  rw [w64 (by omega) (by omega)]
  unfold sz; rw [if_neg h0]; congr 1; omega
theorem high_eq (h : Int) : node_high.f h = some (decide (Hi h)) := by
  unfold node_high.f
  by_cases h1 : h ≥ 1
  · rw [if_pos h1]; congr 1; rw [decide_eq_decide, hi_iff]; omega
  · rw [if_neg h1]; congr 1; symm; rw [decide_eq_false_iff_not, hi_iff]; omega
theorem check_eq (h : Int) {n : Nat} (hn : n < 18446744073709551616) (k : Nat) : node_Check.f (k + 1) h (n : Int) = some (if Nd h.toNat n then 0 else 1) := by
  unfold node_Check.f
  rw [high_eq]; simp only [Option.bind_some]
  by_cases h1 : Hi h
  · rw [decide_eq_true h1, if_pos rfl]
    rw [hi_iff] at h1
    by_cases h2 : n = 0
    · rw [if_pos (by omega), if_neg (by rw [nd_iff]; omega)]
    · rw [if_neg (by omega), depth_eq h2 hn]; simp only [Option.bind_some]
      by_cases h3 : (n.log2 : Int) > h
      · rw [if_pos h3, if_neg (by rw [nd_iff]; omega)]
      · rw [if_neg h3, if_pos (by rw [nd_iff]; omega)]
  · rw [decide_eq_false h1, if_neg (by simp), if_neg (by rw [nd_iff]; rw [hi_iff] at h1; omega)]
theorem both_eq (h : Int) {a b : Nat} (ha : a < 18446744073709551616) (hb : b < 18446744073709551616) (k : Nat) :
    node_both.f (k + 1) h (a : Int) (b : Int) = some (if Nd h.toNat a ∧ Nd h.toNat b then 0 else 1) := by
  unfold node_both.f
  rw [check_eq h ha, check_eq h hb]; simp only [Option.bind_some]
  by_cases h1 : Nd h.toNat a <;> by_cases h2 : Nd h.toNat b <;> simp [h1, h2]
theorem shr_eq (n : Nat) {k : Nat} (hk : k ≤ 64) : shr .u64 (n : Int) (k : Int) = ((n / 2 ^ k : Nat) : Int) := by
  unfold shr
  have : min ((k : Int)).toNat (IntKind.bits .u64) = k := by
    show min ((k : Int)).toNat 64 = k
    omega
  rw [this]; push_cast; rfl
theorem above_eq {a b : Nat} (ha0 : a ≠ 0) (hb0 : b ≠ 0) (ha : a < 18446744073709551616) (hb : b < 18446744073709551616) (k : Nat) :
    node_above.f (k + 1) (a : Int) (b : Int) = some (decide (Abv a b)) := by
  have h1 := log2_64 ha
  have h2 := log2_64 hb
  unfold node_above.f
  rw [depth_eq ha0 ha, depth_eq hb0 hb]; simp only [Option.bind_some]
  unfold Abv anc
  by_cases h : a.log2 ≤ b.log2
  · rw [if_pos (by omega), w64 (by omega) (by omega), if_pos (by omega), show ((b.log2 : Int) - a.log2) = ((b.log2 - a.log2 : Nat) : Int) by omega, shr_eq _ (by omega)]
    congr 1
    simp only [h, true_and]
    by_cases e : b / 2 ^ (b.log2 - a.log2) = a
    · rw [decide_eq_true e, e]; simp
    · rw [decide_eq_false e, beq_eq_false_iff_ne]; omega
  · rw [if_neg (by omega)]; congr 1; simp [h]
theorem Above_eq (h : Int) {a b : Nat} (ha : a < 18446744073709551616) (hb : b < 18446744073709551616) (k : Nat) :
    node_Above.f (k + 1) h (a : Int) (b : Int) = some (if Nd h.toNat a ∧ Nd h.toNat b then (decide (Abv a b), 0) else (false, 1)) := by
  unfold node_Above.f
  rw [both_eq h ha hb]; simp only [Option.bind_some]
  by_cases h1 : Nd h.toNat a ∧ Nd h.toNat b
  · rw [if_pos h1, if_pos rfl, above_eq h1.1.2.2.1 h1.2.2.2.1 ha hb, if_pos h1]; rfl
  · rw [if_neg h1, if_neg (by omega), if_neg h1]
theorem Depth_eq (h : Int) {n : Nat} (hn : n < 18446744073709551616) (k : Nat) : node_Depth.f (k + 1) h (n : Int) = some (if Nd h.toNat n then ((n.log2 : Int), 0) else (0, 1)) := by
  unfold node_Depth.f
  rw [check_eq h hn]; simp only [Option.bind_some]
  by_cases h1 : Nd h.toNat n
  · rw [if_pos h1, if_pos rfl, depth_eq h1.2.2.1 hn, if_pos h1]; rfl
  · rw [if_neg h1, if_neg (by omega), if_neg h1]
theorem sCheck_eq (h : Int) {i j : Nat} (hi : i < 18446744073709551616) (hj : j < 18446744073709551616) (k : Nat) :
    sub_Check.f (k + 1) h (i : Int) (j : Int) = some (if Sb h.toNat i j then 0 else 1) := by
  unfold sub_Check.f
  by_cases h0 : j = 0
  · subst h0
    rw [if_pos (by rfl), check_eq h hi]; simp only [Option.bind_some]
    by_cases h1 : Nd h.toNat i
    · rw [if_pos h1, if_pos ⟨h1, .inl rfl⟩]
    · rw [if_neg h1, if_neg (fun z => h1 z.1)]
  · rw [if_neg (by omega), Above_eq h hi hj]; simp only [Option.bind_some]
    by_cases h1 : Nd h.toNat i ∧ Nd h.toNat j
    · rw [if_pos h1]; simp only [if_true]
      by_cases h2 : Abv i j
      · rw [decide_eq_true h2, if_pos rfl]
        by_cases h3 : i = j
        · rw [if_pos (by omega), if_neg (by rintro ⟨_, z | ⟨_, z, _⟩⟩ <;> omega)]
        · rw [if_neg (by omega), if_pos ⟨h1.1, .inr ⟨h1.2, h3, h2⟩⟩]
      · rw [decide_eq_false h2, if_neg (by simp), if_neg (fun z => z.2.elim (fun y => h0 y) (fun y => h2 y.2.2))]
    · rw [if_neg h1, if_neg (by simp), if_neg (fun z => z.2.elim (fun y => h0 y) (fun y => h1 ⟨z.1, y.1⟩))]
theorem checkRoot_eq (h : Int) (k : Nat) : node_Check.f (k + 1) h 1 = some (if Hi h then 0 else 1) := by
  have := check_eq h root_lt k
  rw [show ((1 : Nat) : Int) = 1 by rfl] at this
  rw [this]
  by_cases h1 : Hi h
  · rw [if_pos h1, if_pos ((nd_root' h).2 h1)]
  · rw [if_neg h1, if_neg (fun z => h1 ((nd_root' h).1 z))]
theorem stepL_eq : ∀ h : Fin 33, 1 ≤ h.val → sub_Step.l0 8 (h.val : Int) 1 = some ((stp h.val : Int), 0) := by decide +kernel
theorem Step_eq (h : Int) {k : Nat} (hk : 10 ≤ k) : sub_Step.f k h = some (if Hi h then ((stp h.toNat : Int), 0) else (0, 1)) := by
  obtain ⟨k, rfl⟩ : ∃ m, k = m + 1 := ⟨k - 1, by omega⟩
  unfold sub_Step.f
  rw [checkRoot_eq]; simp only [Option.bind_some]
  by_cases h1 : Hi h
  · rw [if_pos h1, if_pos rfl, if_pos h1]
    rw [hi_iff] at h1
    have := stepL_eq ⟨h.toNat, by omega⟩ (by show 1 ≤ h.toNat; omega)
    have e : ((h.toNat : Nat) : Int) = h := by omega
    simp only [e] at this
    exact at_rounds (g := fun k => sub_Step.l0 k h 1) (fun k => (sub_Step.mono_l k) _ _) (show 8 ≤ k + 1 by omega) this
  · rw [if_neg h1, if_neg (by omega), if_neg h1]
theorem mn_cast (a b : Nat) : mn (a : Int) (b : Int) = ((min a b : Nat) : Int) := by unfold mn; split <;> omega
theorem nxt_cast (h i : Nat) (hi : i ≤ 32) (hh : h ≤ 32) : mn (wrap64 (wrap64 (wrap64 (Int.tdiv (i : Int) (stp h : Int)) + 1) * (stp h : Int))) (h : Int) = (nxt h i : Int) := by
  obtain ⟨s0, s1⟩ := stp_pos h
  have hd : i / stp h ≤ 32 := Nat.le_trans (Nat.div_le_self _ _) hi
  have hm : (i / stp h + 1) * stp h ≤ 33 * 6 := Nat.mul_le_mul (by omega) s1
  rw [Int.tdiv_eq_ediv_of_nonneg (by omega), ← Int.natCast_ediv]
  unfold nxt
  generalize i / stp h = r at hd hm
  rw [w64 (x := (r : Int)) (by omega) (by omega), show (r : Int) + 1 = ((r + 1 : Nat) : Int) by omega, w64 (x := ((r + 1 : Nat) : Int)) (by omega) (by omega), ← Int.natCast_mul]
  generalize (r + 1) * stp h = q at hm
  rw [w64 (by omega) (by omega), mn_cast]
theorem depths_eq {h i j : Nat} (hs : Sb h i j) (hj : j < 18446744073709551616) {k : Nat} (hk : 10 ≤ k) :
    sub_depths.f k (h : Int) (i : Int) (j : Int) = some ((i.log2 : Int), (if j = 0 then 0 else (j.log2 : Int)), (nxt h i.log2 : Int), decide (Spc h i.log2), 0) := by
  obtain ⟨hi, hj'⟩ := hs
  have hl := hi.2.2.2
  have h32 := hi.2.1
  obtain ⟨s0, s1⟩ := stp_pos h
  have hilt := hi.lt33
  have hH : Hi (h : Int) := by rw [hi_iff]; have := hi.1; omega
  have hsp : ∀ (b : Bool), b = decide ((i.log2 : Int) = h) → (if ((i.log2 % stp h : Nat) : Int) = 0 then true else b) = decide (Spc h i.log2) := by
    intro b hb
    by_cases c : i.log2 % stp h = 0
    · rw [if_pos (by omega)]; symm; rw [decide_eq_true_iff]; exact .inl c
    · rw [if_neg (by omega), hb, decide_eq_decide, spc_iff]; omega
  have hbe : (((i.log2 : Int)) == (h : Int)) = decide ((i.log2 : Int) = h) := by
    by_cases c : (i.log2 : Int) = h
    · rw [decide_eq_true c]; simp [c]
    · rw [decide_eq_false c]; simp [c]
  obtain ⟨k, rfl⟩ : ∃ m, k = m + 1 := ⟨k - 1, by omega⟩
  unfold sub_depths.f
  rw [Step_eq _ (by omega), if_pos hH]; simp only [Option.bind_some, Int.toNat_natCast]
  rw [if_pos trivial, Depth_eq _ (by omega), Int.toNat_natCast, if_pos hi]; simp only [Option.bind_some]
  rw [if_pos trivial]
  by_cases h0 : j = 0
  · subst h0
    rw [if_pos (by rfl), if_neg (by omega), nxt_cast h i.log2 (by omega) h32, tmod_cast]
    simp only [if_true]
    rw [← hsp _ hbe]
    split <;> simp
  · obtain ⟨hj1, _, _⟩ := hj'.resolve_left h0
    rw [if_neg (by omega), Depth_eq _ hj, Int.toNat_natCast, if_pos hj1]; simp only [Option.bind_some]
    rw [if_neg (by omega), nxt_cast h i.log2 (by omega) h32, tmod_cast, if_neg h0]
    rw [← hsp _ hbe]
    split <;> simp
theorem Useful_eq (h : Int) {i j : Nat} (hi : i < 18446744073709551616) (hj : j < 18446744073709551616) {k : Nat} (hk : 10 ≤ k) :
    sub_Useful.f k h (i : Int) (j : Int) = some (if Sb h.toNat i j then (decide (Usf h.toNat i j), 0) else (false, 1)) := by
  obtain ⟨k, rfl⟩ : ∃ m, k = m + 1 := ⟨k - 1, by omega⟩
  unfold sub_Useful.f
  rw [sCheck_eq h hi hj]; simp only [Option.bind_some]
  by_cases h1 : Sb h.toNat i j
  · have e := sb_h h1
    rw [if_pos h1, if_pos rfl, if_pos h1]
    by_cases h0 : j = 0
    · subst h0
      rw [if_pos (by rfl)]; congr 2
      by_cases c : i = 1
      · rw [decide_eq_true ((usf_0 _ _).2 c), c]; rfl
      · rw [decide_eq_false (fun z => c ((usf_0 _ _).1 z)), beq_eq_false_iff_ne]; omega
    · have := depths_eq h1 hj (k := k + 1) (by omega)
      rw [e] at this
      rw [if_neg (by omega), this]; simp only [Option.bind_some, if_true]
      rw [if_neg h0]
      have hu := usf_j h.toNat i h0
      by_cases c : Spc h.toNat i.log2
      · rw [decide_eq_true c, if_pos rfl, decide_eq_true (hu.2 (.inl c))]
      · rw [decide_eq_false c, if_neg (by simp)]; congr 2; rw [decide_eq_decide, hu]
        constructor
        · intro z; right; omega
        · rintro (z | z)
          · exact absurd z c
          · omega
  · rw [if_neg h1, if_neg (by omega), if_neg h1]
def sbs (l : List (Nat × Nat)) : List S48 := l.map fun p => ⟨(p.1 : Int), (p.2 : Int)⟩
theorem shl_eq {n k : Nat} (hk : k ≤ 64) (hb : n * 2 ^ k < 18446744073709551616) : shl .u64 (n : Int) (k : Int) = ((n * 2 ^ k : Nat) : Int) := by
  unfold shl
  have : min ((k : Int)).toNat (IntKind.bits .u64) = k := by
    show min ((k : Int)).toNat 64 = k
    omega
  have e : (n : Int) * 2 ^ k = ((n * 2 ^ k : Nat) : Int) := by push_cast; rfl
  rw [this, e, wu64 (by omega) (by omega)]
theorem nLeaf_eq (h : Int) {p : Nat} (hp : p < 18446744073709551616) : node_Leaf.f h (p : Int) = some (if Hi h then (if p < 2 ^ h.toNat then ((2 ^ h.toNat + p : Nat) : Int) else 0, if p < 2 ^ h.toNat then 0 else 4) else (0, 1)) := by
  unfold node_Leaf.f
  rw [high_eq]; simp only [Option.bind_some]
  by_cases h1 : Hi h
  · have hh := h1
    rw [hi_iff] at hh
    rw [decide_eq_true h1, if_pos rfl, if_pos (by omega), if_pos h1]
    have e : ((h.toNat : Nat) : Int) = h := by omega
    generalize hH : h.toNat = H at *
    subst e
    rw [shr_eq p (by omega)]
    have hz : 0 < 2 ^ H := pow_pos2 H
    by_cases c : p < 2 ^ H
    · have e1 : shl .u64 1 (H : Int) = ((2 ^ H : Nat) : Int) := by
        have hpH : 2 ^ H ≤ 4294967296 := pow_le_h (by omega)
        have := shl_eq (n := 1) (k := H) (by omega) (by omega)
        rw [Nat.one_mul] at this; exact this
      rw [Nat.div_eq_of_lt c, if_neg (by omega), e1, if_pos c, if_pos c]
      have hpH : 2 ^ H ≤ 4294967296 := pow_le_h (by omega)
      congr 2
      rw [Go.bits_or_u64_nat _ _ (by omega) (by omega)]
      have : 2 ^ H ||| p = 2 ^ H + p := by
        have := Nat.two_pow_add_eq_or_of_lt c 1
        rw [Nat.mul_one] at this; exact this.symm
      rw [this]
    · have : 1 ≤ p / 2 ^ H := (Nat.le_div_iff_mul_le hz).2 (by omega)
      rw [if_pos (by omega), if_neg c, if_neg c]
  · rw [decide_eq_false h1, if_neg (by simp), if_neg h1]
theorem rdT_sbs {l : List (Nat × Nat)} {i : Nat} (h : i < l.length) : rd_T48 (sbs l) (i : Int) = ⟨(l[i].1 : Int), (l[i].2 : Int)⟩ := by
  unfold rd_T48 sbs
  simp [List.getD_eq_getElem?_getD, h]
theorem sbs_len (l : List (Nat × Nat)) : (sbs l).length = l.length := by simp [sbs]
theorem lcheck_eq (h s : Int) (k : Nat) : layer_check.f (k + 1) h s = some (if Sch s ∧ Hi h then 0 else 1) := by
  unfold layer_check.f
  by_cases c1 : s < 1
  · rw [if_pos c1, if_neg (by rw [sch_iff]; omega)]
  · rw [if_neg c1]
    by_cases c2 : s > 3
    · rw [if_pos c2, if_neg (by rw [sch_iff]; omega)]
    · rw [if_neg c2, checkRoot_eq]; simp only [bnd]
      by_cases c3 : Hi h
      · rw [if_pos c3, if_pos ⟨(sch_iff s).2 (by omega), c3⟩]
      · rw [if_neg c3, if_neg (fun z => c3 z.2)]
theorem May_eq (h s : Int) {i j : Nat} (hi' : i < 18446744073709551616) (hj : j < 18446744073709551616) {k : Nat} (hk : 12 ≤ k) :
    layer_May.f k h s (i : Int) (j : Int) = some (if Sch s ∧ Sb h.toNat i j then (decide (May h.toNat s i j), 0) else (false, 1)) := by
  obtain ⟨k, rfl⟩ : ∃ m, k = m + 1 := ⟨k - 1, by omega⟩
  unfold layer_May.f
  rw [lcheck_eq, sCheck_eq h hi' hj]; simp only [bnd]
  by_cases c1 : Sch s ∧ Hi h
  · rw [if_pos c1]; simp only [if_true]
    by_cases c2 : Sb h.toNat i j
    · have c3 : Sch s ∧ Sb h.toNat i j := ⟨c1.1, c2⟩
      rw [if_pos c2, if_pos c3]
      simp only [layer_May.j0]
      rw [if_neg (by simp)]
      by_cases e1 : s = 1
      · rw [if_pos e1]; congr 2
        rw [Bool.eq_iff_iff, decide_eq_true_iff, may_iff]
        simp [e1]
      · rw [if_neg e1]
        by_cases e2 : s = 2
        · rw [if_pos e2]
          by_cases e3 : j = 0
          · subst e3
            rw [if_pos (by rfl)]; congr 2
            rw [Bool.eq_iff_iff, decide_eq_true_iff, may_iff]
            simp [e2]; omega
          · rw [if_neg (by omega)]; congr 2
            symm; rw [decide_eq_true_iff, may_iff]
            simp [e2, e3]
        · rw [if_neg e2, Useful_eq h hi' hj (by omega), if_pos c2]; simp only [bnd]
          congr 2
          rw [decide_eq_decide, may_iff]
          simp [e1, e2]
    · rw [if_neg c2, if_neg (fun z => c2 z.2)]; simp [layer_May.j0]
  · have c3 : ¬ (Sch s ∧ Sb h.toNat i j) := by
      rintro ⟨a, b⟩
      refine c1 ⟨a, ?_⟩
      have := b.1; rw [nd_iff] at this; rw [hi_iff]; omega
    rw [if_neg c1, if_neg c3]; simp [layer_May.j0]
theorem lpairs_all : ∀ h : Fin 33, 1 ≤ h.val → layer_Pairs.l0 40 (h.val : Int) 0 (stp h.val : Int) (h.val : Int) 0 = some ((lpn h.val : Int), 0) := by decide +kernel
theorem lPairs_eq (h : Int) {k : Nat} (hk : 40 ≤ k) : layer_Pairs.f k h = some (if Hi h then ((lpn h.toNat : Int), 0) else (0, 1)) := by
  unfold layer_Pairs.f
  rw [Step_eq h (by omega)]; simp only [bnd]
  by_cases c : Hi h
  · have hh := c
    rw [hi_iff] at hh
    have e : ((h.toNat : Nat) : Int) = h := by omega
    have := lpairs_all ⟨h.toNat, by omega⟩ (by show 1 ≤ h.toNat; omega)
    simp only [e] at this
    rw [if_pos c]; simp only [if_true]
    exact at_rounds (g := fun k => layer_Pairs.l0 k h 0 (stp h.toNat : Int) h 0) (fun k => layer_Pairs.mono_l k _ _ _ _ _) hk (by rw [if_pos c]; exact this)
  · rw [if_neg c]; simp [c]
theorem Many14_eq (h s : Int) {k : Nat} (hk : 40 ≤ k) : store_Many.f k h s = some (if Sch s ∧ Hi h then ((pmn h.toNat s : Int), 0) else (0, 1)) := by
  unfold store_Many.f
  rw [lPairs_eq h hk]; simp only [bnd]
  by_cases c : Hi h
  · have hh := c
    rw [hi_iff] at hh
    obtain ⟨H, rfl⟩ := Int.eq_ofNat_of_zero_le (show 0 ≤ h by omega)
    have hl := lpn_all ⟨H, by omega⟩ (by show 1 ≤ H; omega)
    simp only at hl
    have h3 : H * (H + 1) ≤ 32 * 33 := Nat.mul_le_mul (by omega) (by omega)
    rw [if_pos c]; simp only [if_true, Int.toNat_natCast]
    by_cases s1 : s = 1
    · have : Sch s ∧ Hi (H : Int) := ⟨(sch_iff s).2 (by omega), c⟩
      rw [if_pos s1, if_pos this, w64 (by omega) (by omega)]; unfold pmn; rw [if_pos s1]; rfl
    · rw [if_neg s1]
      by_cases s2 : s = 2
      · have : Sch s ∧ Hi (H : Int) := ⟨(sch_iff s).2 (by omega), c⟩
        have e1 : (H : Int) * ((H : Int) + 1) = ((H * (H + 1) : Nat) : Int) := by push_cast; rfl
        rw [if_pos s2, if_pos this, w64 (x := (H : Int) + 1) (by omega) (by omega), e1]
        unfold pmn; rw [if_neg s1, if_pos s2]
        generalize H * (H + 1) = q at *
        rw [w64 (x := (q : Int)) (by omega) (by omega), Int.tdiv_eq_ediv_of_nonneg (by omega), w64 (x := (q : Int) / 2) (by omega) (by omega), w64 (by omega) (by omega)]
        congr 2
      · rw [if_neg s2]
        by_cases s3 : s = 3
        · have : Sch s ∧ Hi (H : Int) := ⟨(sch_iff s).2 (by omega), c⟩
          rw [if_pos s3, if_pos this]
          unfold pmn; rw [if_neg s1, if_neg s2]
          generalize H * (H + 1) = q at *
          rw [w64 (by omega) (by omega)]; rfl
        · rw [if_neg s3, if_neg (fun z => by have := z.1; rw [sch_iff] at this; omega)]
  · rw [if_neg c]; simp [c]
theorem sbs_app (l m : List (Nat × Nat)) : sbs l ++ sbs m = sbs (l ++ m) := by simp [sbs]
theorem shr_anc {x h d : Nat} (hl : x.log2 = h) (hh : h ≤ 32) (hd : d ≤ h) : shr .u64 (x : Int) (wrap64 ((h : Int) - (d : Int))) = (anc x d : Int) := by
  rw [w64 (by omega) (by omega), show (h : Int) - (d : Int) = ((h - d : Nat) : Int) by omega, shr_eq _ (by omega)]
  unfold anc; rw [hl]
theorem xor_sib {n : Nat} (hn : n < 8589934592) : Go.bits .xor .u64 (n : Int) 1 = (sib n : Int) := by
  have := Go.bits_xor_u64_nat n 1 (by omega) (by omega)
  exact this
theorem pairs_l0 {h x : Nat} (hl : x.log2 = h) (hh : h ≤ 32) : ∀ (m d k : Nat) (L : List (Nat × Nat)), d + m = h + 1 → m < k → L.length + m ≤ 40 →
    store_Pairs.l0 k (h : Int) (x : Int) (sbs L) ((h + 1 : Nat) : Int) (d : Int) = some (sbs (L ++ ((List.range m).map fun q => (anc x (d + q), 0))), 0) := by
  intro m
  induction m with
  | zero =>
    intro d k L hd hk hL
    obtain ⟨k, rfl⟩ : ∃ m, k = m + 1 := ⟨k - 1, by omega⟩
    simp only [store_Pairs.l0]
    rw [if_neg (by omega)]; simp
  | succ m ih =>
    intro d k L hd hk hL
    obtain ⟨k, rfl⟩ : ∃ m, k = m + 1 := ⟨k - 1, by omega⟩
    simp only [store_Pairs.l0]
    rw [if_pos (by omega), if_pos (by rw [w64 (by omega) (by omega)]; omega), if_pos (by rw [sbs_len]; omega), shr_anc hl hh (by omega), w64 (x := (d : Int) + 1) (by omega) (by omega), show (d : Int) + 1 = ((d + 1 : Nat) : Int) by omega,
      show [(⟨(anc x d : Int), 0⟩ : S48)] = sbs [(anc x d, 0)] from rfl, sbs_app, ih (d + 1) k _ (by omega) (by omega) (by simp; omega)]
    congr 2
    rw [List.append_assoc, List.range_succ_eq_map]
    simp only [List.map_cons, List.map_map, List.singleton_append, Nat.add_zero]
    congr 4
    funext q
    simp only [Function.comp]
    rw [show d + 1 + q = d + (q + 1) by omega]
theorem pairs_l1 {h x : Nat} {s : Int} (hl : x.log2 = h) (hx : x ≠ 0) (h1 : 1 ≤ h) (hh : h ≤ 32) (hs : s ≠ 1) : ∀ (n t k : Nat) (L : List (Nat × Nat)), t + n = h → n * 40 + 20 ≤ k → L.length + n * 40 ≤ 2000 →
    store_Pairs.l1 k (h : Int) s (x : Int) (sbs L) (h : Int) (t : Int) = some (sbs (L ++ outl h s x t n), 0) ∧
    (t < h → ∀ (m e : Nat) (k : Nat) (L : List (Nat × Nat)), t < e → e + m = h + 1 → (n - 1) * 40 + 21 + m ≤ k → L.length + (n - 1) * 40 + m ≤ 2000 →
      store_Pairs.l2 k (h : Int) s (x : Int) (sbs L) (t : Int) (e : Int) (h : Int) (t : Int) = some (sbs (L ++ (inl h s x t e m ++ outl h s x (t + 1) (n - 1))), 0)) := by
  intro n
  have hxlt : x < 8589934592 := Nat.lt_of_lt_of_le (log2_hi x) (pow_le_32 (by omega))
  induction n with
  | zero =>
    intro t k L ht hk hL
    refine ⟨?_, fun c => absurd c (by omega)⟩
    obtain ⟨k, rfl⟩ : ∃ m, k = m + 1 := ⟨k - 1, by omega⟩
    simp only [store_Pairs.l1]
    rw [if_neg (by omega)]; simp [outl]
  | succ n ih =>
    have inner : ∀ (t : Nat), t + (n + 1) = h → ∀ (m e : Nat) (k : Nat) (L : List (Nat × Nat)), t < e → e + m = h + 1 → n * 40 + 21 + m ≤ k → L.length + n * 40 + m ≤ 2000 →
      store_Pairs.l2 k (h : Int) s (x : Int) (sbs L) (t : Int) (e : Int) (h : Int) (t : Int) = some (sbs (L ++ (inl h s x t e m ++ outl h s x (t + 1) n)), 0) := by
      intro t ht m
      induction m with
      | zero =>
        intro e k L he hm hk hL
        obtain ⟨k, rfl⟩ : ∃ m, k = m + 1 := ⟨k - 1, by omega⟩
        simp only [store_Pairs.l2]
        rw [if_neg (by omega), w64 (by omega) (by omega), show (t : Int) + 1 = ((t + 1 : Nat) : Int) by omega, (ih (t + 1) k L (by omega) (by omega) (by omega)).1]
        simp [inl]
      | succ m ihm =>
        intro e k L he hm hk hL
        obtain ⟨k, rfl⟩ : ∃ m, k = m + 1 := ⟨k - 1, by omega⟩
        obtain ⟨sb, _, _, _, _, _⟩ := pair_sb ⟨h1, hh⟩ hx hl he (show e ≤ h by omega)
        have a33 : anc x e < 8589934592 := Nat.lt_of_le_of_lt (anc_le x e) hxlt
        have b := sb_lt sb
        simp only [store_Pairs.l2]
        rw [if_pos (by omega), if_pos (by rw [w64 (by omega) (by omega)]; omega), if_pos (by rw [w64 (by omega) (by omega)]; omega), shr_anc hl hh (by omega), shr_anc hl hh (by omega), xor_sib a33, w64 (x := (e : Int) + 1) (by omega) (by omega), show (e : Int) + 1 = ((e + 1 : Nat) : Int) by omega,
          show [(⟨(anc x t : Int), (sib (anc x e) : Int)⟩ : S48)] = sbs [(anc x t, sib (anc x e))] from rfl, sbs_app]
        have r1 := ihm (e + 1) k (L ++ [(anc x t, sib (anc x e))]) (by omega) (by omega) (by omega) (by simp; omega)
        have r2 := ihm (e + 1) k L (by omega) (by omega) (by omega) (by omega)
        rw [sbs_len, inl]
        by_cases c3 : s = 3
        · have hu := Useful_eq (h : Int) b.1 b.2 (k := k) (by omega)
          rw [Int.toNat_natCast, if_pos sb] at hu
          rw [if_pos c3, hu]; simp only [bnd]
          rw [if_pos trivial]
          by_cases c4 : Usf h (anc x t) (sib (anc x e))
          · have o : okp h s (anc x t) (sib (anc x e)) = true := by simp [okp, c4]
            rw [decide_eq_true c4, if_pos rfl, if_pos (by omega), r1, if_pos o]
            simp [List.append_assoc]
          · have o : ¬ okp h s (anc x t) (sib (anc x e)) = true := by simp [okp, c3, c4]
            rw [decide_eq_false c4, if_neg (by simp), r2, if_neg o]
            simp
        · have o : okp h s (anc x t) (sib (anc x e)) = true := by simp [okp, c3]
          rw [if_neg c3, if_pos (by omega), r1, if_pos o]
          simp [List.append_assoc]
    intro t k L ht hk hL
    refine ⟨?_, fun c m e k L a1 a2 a3 a4 => inner t ht m e k L a1 a2 (by omega) (by omega)⟩
    obtain ⟨k, rfl⟩ : ∃ m, k = m + 1 := ⟨k - 1, by omega⟩
    simp only [store_Pairs.l1]
    rw [if_pos (by omega), w64 (by omega) (by omega), show (t : Int) + 1 = ((t + 1 : Nat) : Int) by omega, inner t ht (h - t) (t + 1) k L (by omega) (by omega) (by omega) (by omega), outl]
theorem Pairs_eq (h s : Int) {p : Nat} (hp : p < 18446744073709551616) {k : Nat} (hk : 1400 ≤ k) :
    store_Pairs.f k h s (p : Int) = some (if Sch s ∧ Lfi h p then (sbs (prs h.toNat s (2 ^ h.toNat + p)), 0) else ([], 1)) := by
  obtain ⟨k, rfl⟩ : ∃ m, k = m + 1 := ⟨k - 1, by omega⟩
  unfold store_Pairs.f
  rw [Many14_eq h s (by omega), nLeaf_eq h hp]; simp only [bnd]
  by_cases c1 : Sch s ∧ Hi h
  · rw [if_pos c1]; dsimp only
    rw [if_pos rfl, if_pos c1.2]
    by_cases c2 : p < 2 ^ h.toNat
    · have c3 : Sch s ∧ Lfi h p := ⟨c1.1, c1.2, c2⟩
      have hh := c1.2
      rw [hi_iff] at hh
      obtain ⟨H, rfl⟩ := Int.eq_ofNat_of_zero_le (show 0 ≤ h by omega)
      simp only [Int.toNat_natCast] at *
      have pm := pmn_le (h := H) (by omega) (by omega) s
      have hlog : (2 ^ H + p).log2 = H := leaf_log2 (by omega) (by rw [Nat.pow_succ]; omega)
      have hne : 2 ^ H + p ≠ 0 := by have := pow_pos2 H; omega
      rw [if_pos c2, if_pos c2, if_pos c3]
      simp only [store_Pairs.j0]
      rw [if_neg (by simp), if_pos (by omega), if_pos (by omega)]; simp only [bnd]
      by_cases s1 : s = 1
      · have := pairs_l0 hlog (by omega) (H + 1) 0 k [] (by omega) (by omega) (by simp; omega)
        rw [if_pos s1, w64 (by omega) (by omega), show (H : Int) + 1 = ((H + 1 : Nat) : Int) by omega, show (List.replicate 0 z48) = sbs [] from rfl, show (0 : Int) = ((0 : Nat) : Int) from rfl, this]
        unfold prs; rw [if_pos s1]; simp
      · have := (pairs_l1 (s := s) hlog hne (by omega) (by omega) s1 H 0 k [(1, 0)] (by omega) (by omega) (by simp; omega)).1
        rw [if_neg s1, if_pos (by simp), show (List.replicate 0 z48) ++ [(⟨1, 0⟩ : S48)] = sbs [(1, 0)] from rfl]
        rw [show ((0 : Nat) : Int) = 0 from rfl] at this
        rw [this]
        unfold prs; rw [if_neg s1]; rfl
    · have c3 : ¬ (Sch s ∧ Lfi h p) := fun z => c2 z.2.2
      rw [if_neg c2, if_neg c2, if_neg c3]; simp [store_Pairs.j0]
  · have c3 : ¬ (Sch s ∧ Lfi h p) := fun z => c1 ⟨z.1, z.2.1⟩
    rw [if_neg c1, if_neg c3]; simp [store_Pairs.j0]
theorem bits_nat64 (o : BinOp) (a b : Int) : ∃ n : Nat, Go.bits o .u64 a b = (n : Int) ∧ n < 18446744073709551616 := by
  unfold Go.bits
  simp only [IntKind.wrap_u64]
  have h : ∀ z : Int, ∃ n : Nat, z % 18446744073709551616 = (n : Int) ∧ n < 18446744073709551616 := fun z => ⟨(z % 18446744073709551616).toNat, by omega, by omega⟩
  exact h _
theorem rot13_ex (a : Int) : ∃ r, bits_RotateLeft64.f a 13 = some r := by
  unfold bits_RotateLeft64.f
  rw [if_pos (by decide +kernel), if_pos (by decide +kernel)]
  exact ⟨_, rfl⟩
theorem rot29_ex (a : Int) : ∃ r, bits_RotateLeft64.f a 29 = some r := by
  unfold bits_RotateLeft64.f
  rw [if_pos (by decide +kernel), if_pos (by decide +kernel)]
  exact ⟨_, rfl⟩
theorem mix_l : ∀ (q j k : Nat) (x y : Int), j + q = 8 → q < k → ∃ a b, mix_Mix.l0 k x y (j : Int) = some (a, b) := by
  intro q
  induction q with
  | zero =>
    intro j k x y hj hk
    obtain ⟨k, rfl⟩ : ∃ m, k = m + 1 := ⟨k - 1, by omega⟩
    simp only [mix_Mix.l0]
    rw [if_neg (by omega)]
    exact ⟨_, _, rfl⟩
  | succ q ih =>
    intro j k x y hj hk
    obtain ⟨k, rfl⟩ : ∃ m, k = m + 1 := ⟨k - 1, by omega⟩
    simp only [mix_Mix.l0]
    rw [if_pos (by omega)]
    obtain ⟨r, hr⟩ := rot13_ex (IntKind.u64.wrap (IntKind.u64.wrap (x + y) + IntKind.u64.wrap ((j : Int) * 11400714819323198485)))
    rw [hr]; simp only [bnd]
    obtain ⟨t, ht⟩ := rot29_ex (Go.bits .xor .u64 y r)
    rw [ht]; simp only [bnd]
    rw [show IntKind.u64.wrap ((j : Int) + 1) = ((j + 1 : Nat) : Int) by rw [IntKind.wrap_u64]; omega]
    exact ih (j + 1) k _ _ (by omega) (by omega)
theorem mPart_ex (a b i : Int) (h0 : 0 ≤ i) (h4 : i ≤ 4) {k : Nat} (hk : 12 ≤ k) : ∃ v : Nat × Nat, (v.1 < 18446744073709551616 ∧ v.2 < 18446744073709551616) ∧ mix_Part.f k a b i = some ((v.1 : Int), (v.2 : Int), 0) := by
  obtain ⟨k, rfl⟩ : ∃ m, k = m + 1 := ⟨k - 1, by omega⟩
  unfold mix_Part.f
  rw [if_neg (by omega), mix_Part.j0, if_neg (by simp; omega)]
  unfold mix_Xor.f mix_Mix.f
  simp only [bnd]
  obtain ⟨x, y, e⟩ := mix_l 8 0 k (Go.bits .xor .u64 a (IntKind.u64.wrap (wrap64 (i + 1)))) (Go.bits .xor .u64 b 0) (by omega) (by omega)
  rw [show ((0 : Nat) : Int) = 0 from rfl] at e
  rw [e]; simp only [bnd]
  obtain ⟨m, hm, h1⟩ := bits_nat64 .xor x a
  obtain ⟨n, hn, h2⟩ := bits_nat64 .xor y b
  exact ⟨(m, n), ⟨h1, h2⟩, by rw [hm, hn]⟩
def sds (b : Nat) : Nat → List Nat
  | 0 => []
  | m + 1 => (b / 2 ^ m % 2) :: sds b m
theorem sds_len (b : Nat) : ∀ m, (sds b m).length = m
  | 0 => rfl
  | m + 1 => by rw [sds, List.length_cons, sds_len b m]
theorem sds_two (b : Nat) : ∀ m, ∀ s ∈ sds b m, s < 2
  | 0, s, h => by simp [sds] at h
  | m + 1, s, h => by
    rcases List.mem_cons.1 h with rfl | h
    · omega
    · exact sds_two b m s h
theorem and_one {n : Nat} (h : n < 18446744073709551616) : Go.bits .and .u64 (n : Int) 1 = ((n % 2 : Nat) : Int) := by
  unfold Go.bits
  have e : (BitVec.ofInt 64 (n : Int) &&& BitVec.ofInt 64 1).toNat = n % 2 := by
    rw [BitVec.toNat_and]
    have e1 : (BitVec.ofInt 64 (n : Int)).toNat = n := by rw [BitVec.toNat_ofInt]; omega
    have e2 : (BitVec.ofInt 64 1).toNat = 1 := by decide
    rw [e1, e2, Nat.and_one_is_mod]
  show IntKind.u64.wrap ((BitVec.ofInt 64 (n : Int) &&& BitVec.ofInt 64 1).toNat : Int) = _
  rw [e, IntKind.wrap_u64]
  omega
theorem path_l {b m : Nat} (hb : b < 18446744073709551616) (hm : m ≤ 64) : ∀ (q j k : Nat), j + q = m → q < k →
    node_Path.l0 k (b : Int) (m : Int) (ints (List.replicate (m - j) 0 ++ sds b j)) (m : Int) (j : Int) = some (ints (sds b m), 0) := by
  intro q
  induction q with
  | zero =>
    intro j k hj hk
    obtain ⟨k, rfl⟩ : ∃ m, k = m + 1 := ⟨k - 1, by omega⟩
    obtain rfl : j = m := by omega
    rw [node_Path.l0, if_neg (by omega)]
    simp
  | succ q ih =>
    intro j k hj hk
    obtain ⟨k, rfl⟩ : ∃ m, k = m + 1 := ⟨k - 1, by omega⟩
    have e1 : wrap64 (wrap64 ((m : Int) - 1) - (j : Int)) = ((m - 1 - j : Nat) : Int) := by rw [w64 (x := (m : Int) - 1) (by omega) (by omega), w64 (by omega) (by omega)]; omega
    have hl : (ints (List.replicate (m - j) 0 ++ sds b j)).length = m := by rw [ints_len, List.length_append, List.length_replicate, sds_len]; omega
    have hq : b / 2 ^ j < 18446744073709551616 := Nat.lt_of_le_of_lt (Nat.div_le_self _ _) hb
    rw [node_Path.l0, if_pos (by omega), if_pos (by omega), e1, if_pos (by omega), if_pos (by rw [hl]; omega), shr_eq b (by omega), and_one hq, Int.toNat_natCast, w64 (x := ((b / 2 ^ j % 2 : Nat) : Int)) (by omega) (by omega), w64 (x := (j : Int) + 1) (by omega) (by omega), show (j : Int) + 1 = ((j + 1 : Nat) : Int) by omega]
    have e2 : (ints (List.replicate (m - j) 0 ++ sds b j)).set (m - 1 - j) ((b / 2 ^ j % 2 : Nat) : Int) = ints (List.replicate (m - (j + 1)) 0 ++ sds b (j + 1)) := by
      unfold ints
      rw [show ((b / 2 ^ j % 2 : Nat) : Int) = Int.ofNat (b / 2 ^ j % 2) from rfl, ← List.map_set, sds]
      congr 1
      rw [show m - j = (m - (j + 1)) + 1 by omega, List.replicate_succ', List.append_assoc, List.set_append_right _ _ (by rw [List.length_replicate]; omega), List.length_replicate, show m - 1 - j - (m - (j + 1)) = 0 by omega]
      rfl
    rw [e2]
    exact ih (j + 1) k (by omega) (by omega)
theorem nPath_eq (h : Int) {a b : Nat} (ha : a < 18446744073709551616) (hb : b < 18446744073709551616) (na : Nd h.toNat a) (nb : Nd h.toNat b) (ab : Abv a b) {k : Nat} (hk : 70 ≤ k) :
    node_Path.f k h (a : Int) (b : Int) = some (ints (sds b (b.log2 - a.log2)), 0) := by
  obtain ⟨k, rfl⟩ : ∃ m, k = m + 1 := ⟨k - 1, by omega⟩
  have la : a.log2 ≤ 32 := Nat.le_trans na.2.2.2 na.2.1
  have lb : b.log2 ≤ 32 := Nat.le_trans nb.2.2.2 nb.2.1
  have le : a.log2 ≤ b.log2 := ab.1
  unfold node_Path.f
  rw [both_eq h ha hb, if_pos ⟨na, nb⟩]; simp only [bnd]
  rw [if_pos trivial, above_eq na.2.2.1 nb.2.2.1 ha hb]; simp only [bnd]
  rw [decide_eq_true ab, if_pos rfl, depth_eq nb.2.2.1 hb, bnd, depth_eq na.2.2.1 ha, bnd]
  have e : wrap64 ((b.log2 : Int) - (a.log2 : Int)) = ((b.log2 - a.log2 : Nat) : Int) := by rw [w64 (by omega) (by omega)]; omega
  rw [e, if_pos (by omega), Int.toNat_natCast, if_pos (by omega)]
  have z := path_l hb (show b.log2 - a.log2 ≤ 64 by omega) (b.log2 - a.log2) 0 (k + 1) (by omega) (by omega)
  simp only [Nat.sub_zero, sds, List.append_nil] at z
  rw [show ints (List.replicate (b.log2 - a.log2) 0) = List.replicate (b.log2 - a.log2) (0 : Int) by simp [ints]] at z
  exact z
def vs (T : Int) : S34 := ⟨true, false, ⟨0, 0⟩, ⟨⟨0, 0⟩, ⟨0, 0⟩⟩, T⟩
def vb (b : S24) : S34 := ⟨false, false, b, ⟨⟨0, 0⟩, ⟨0, 0⟩⟩, 0⟩
def vopn (l : List S45) (v : S34) : Prop := (v.f0 = true ∧ v = vs v.f4 ∧ 0 ≤ v.f4 ∧ v.f4 < (l.length : Int) ∧ (rd_T45 l v.f4).f0 ≠ 5) ∨ (v.f0 = false ∧ v = vb v.f2)
def Inv (l : List S45) : Prop := (∀ t ∈ l, TmWf t) ∧ l.length ≤ 65536
theorem Inv.nil : Inv [] := ⟨by simp, by simp⟩
def vmay (l : List S45) (v : S34) : Prop := (v.f0 = true ∧ v = vs v.f4 ∧ 0 ≤ v.f4 ∧ v.f4 < (l.length : Int)) ∨ (v.f0 = false ∧ v.f1 = true ∧ v.f2 = ⟨0, 0⟩ ∧ v.f4 = 0) ∨ (v.f0 = false ∧ v = vb v.f2)
open Classical in
theorem vCheck_eq {l : List S45} (I : Inv l) (v : S34) {k : Nat} (hk : 1 ≤ k) :
    value_Check.f k l v.f0 v.f1 v.f2.f0 v.f2.f1 v.f3.f0.f0 v.f3.f0.f1 v.f3.f1.f0 v.f3.f1.f1 v.f4 = some (if tok l ∧ vmay l v then 0 else 1) := by
  obtain ⟨k, rfl⟩ : ∃ m, k = m + 1 := ⟨k - 1, by omega⟩
  obtain ⟨a, b, ⟨c, d⟩, ⟨⟨e, f⟩, ⟨g, h⟩⟩, i⟩ := v
  unfold value_Check.f term_Check.f
  rw [if_pos I.1]; simp only [bnd]
  by_cases ht : tok l
  · rw [if_pos ht]
    simp only [ht, true_and]
    cases a
    · rw [if_neg (by simp)]
      cases b
      · simp only [value_Check.j0, Bool.false_eq_true, if_false, if_true]
        by_cases z : e = 0 ∧ f = 0 ∧ g = 0 ∧ h = 0 ∧ i = 0
        · obtain ⟨rfl, rfl, rfl, rfl, rfl⟩ := z
          simp [vmay, vb]
        · rw [if_pos (by
            simp only [Bool.or_eq_true, Bool.not_eq_true', beq_eq_false_iff_ne, beq_self_eq_true, Bool.not_true, Bool.false_eq_true, false_or, ne_eq]
            omega), if_neg (fun q => z (by
            rcases q with q | q | q
            · simp at q
            · simp at q
            · simpa [vb, and_assoc] using q))]
      · simp only [value_Check.j0, Bool.false_eq_true, if_false, if_true]
        by_cases z : c = 0 ∧ d = 0 ∧ i = 0
        · obtain ⟨rfl, rfl, rfl⟩ := z
          simp [vmay, vb]
        · rw [if_pos (by
            simp only [Bool.or_eq_true, Bool.not_eq_true', beq_eq_false_iff_ne, Bool.not_true, Bool.false_eq_true, false_or, ne_eq]
            omega), if_neg (fun q => z (by
            rcases q with q | q | q
            · simp at q
            · simpa [and_assoc] using q
            · simp [vb] at q))]
    · rw [if_pos rfl]
      by_cases hi : 0 ≤ i ∧ i < (l.length : Int)
      · rw [if_pos (by omega), decide_eq_true hi.2]
        simp only [value_Check.j0, if_true]
        by_cases z : b = false ∧ c = 0 ∧ d = 0 ∧ e = 0 ∧ f = 0 ∧ g = 0 ∧ h = 0
        · obtain ⟨rfl, rfl, rfl, rfl, rfl, rfl, rfl⟩ := z
          simp [vmay, vs, hi]
        · rw [if_pos (by
            cases b
            · simp only [Bool.or_eq_true, Bool.not_eq_true', beq_eq_false_iff_ne, Bool.not_true, Bool.false_eq_true, false_or, ne_eq]
              simp only [true_and] at z
              omega
            · simp), if_neg (fun q => z (by
            rcases q with q | q | q
            · simpa [vs, and_assoc, hi] using q
            · simp at q
            · simp at q))]
      · have hv : ¬ vmay l (⟨true, b, ⟨c, d⟩, ⟨⟨e, f⟩, ⟨g, h⟩⟩, i⟩ : S34) := fun q => hi (by
          rcases q with q | q | q
          · exact q.2.2
          · simp at q
          · simp at q)
        rw [if_neg hv]
        by_cases z : i ≥ 0
        · rw [if_pos z, decide_eq_false (by omega)]
          simp only [value_Check.j0, Bool.false_eq_true, if_false, if_true]
          cases b <;> simp
        · rw [if_neg z]
          simp only [value_Check.j0, Bool.false_eq_true, if_false, if_true]
          cases b <;> simp
  · rw [if_neg ht]
    simp only [ht, false_and, if_false]
    cases a
    · rw [if_neg (by simp)]
      simp [value_Check.j0]
    · rw [if_pos rfl]
      split <;> simp [value_Check.j0]
theorem vopn_iff {l : List S45} {v : S34} : vopn l v ↔ vmay l v ∧ v.f1 = false ∧ (v.f0 = true → (rd_T45 l v.f4).f0 ≠ 5) := by
  unfold vopn vmay
  constructor
  · rintro (⟨h0, h1, h2, h3, h4⟩ | ⟨h0, h1⟩)
    · exact ⟨.inl ⟨h0, h1, h2, h3⟩, by rw [h1]; rfl, fun _ => h4⟩
    · exact ⟨.inr (.inr ⟨h0, h1⟩), by rw [h1]; rfl, fun z => by rw [h0] at z; cases z⟩
  · rintro ⟨(⟨h0, h1, h2, h3⟩ | ⟨h0, h1, _⟩ | ⟨h0, h1⟩), f, g⟩
    · exact .inl ⟨h0, h1, h2, h3, g h0⟩
    · rw [f] at h1; cases h1
    · exact .inr ⟨h0, h1⟩
open Classical in
theorem lStart_eq {l : List S45} (I : Inv l) (v : S34) {k : Nat} (hk : 1 ≤ k) : label_start.f k l v = some (if tok l ∧ vopn l v then 0 else 1) := by
  unfold label_start.f
  rw [if_pos (by have := I.2; omega), vCheck_eq I v hk]; simp only [bnd]
  by_cases c : tok l ∧ vmay l v
  · rw [if_pos c, if_pos rfl]
    have iv := vopn_iff (l := l) (v := v)
    by_cases f1 : v.f1 = true
    · rw [if_pos f1, if_neg (fun z => by have := (iv.1 z.2).2.1; rw [f1] at this; cases this)]
    · have f1' : v.f1 = false := by simpa using f1
      rw [if_neg f1]
      by_cases f0 : v.f0 = true
      · rw [if_pos f0]
        have r : 0 ≤ v.f4 ∧ v.f4 < (l.length : Int) := by
          rcases c.2 with q | q | q
          · exact q.2.2
          · rw [f0] at q; cases q.1
          · rw [f0] at q; cases q.1
        rw [if_pos r]
        by_cases k5 : (rd_T45 l v.f4).f0 = 5
        · rw [if_pos k5, if_neg (fun z => (iv.1 z.2).2.2 f0 k5)]
        · rw [if_neg k5, if_pos ⟨c.1, iv.2 ⟨c.2, f1', fun _ => k5⟩⟩]
      · rw [if_neg f0, if_pos ⟨c.1, iv.2 ⟨c.2, f1', fun z => absurd z f0⟩⟩]
  · rw [if_neg c, if_neg (by decide), if_neg (fun z => c ⟨z.1, (vopn_iff.1 z.2).1⟩)]
open Classical in
theorem sOpen_eq {l : List S45} (I : Inv l) (v : S34) {k : Nat} (hk : 1 ≤ k) : store_open.f k l v.f0 v.f1 v.f2.f0 v.f2.f1 v.f3.f0.f0 v.f3.f0.f1 v.f3.f1.f0 v.f3.f1.f1 v.f4 = some (decide (tok l ∧ vopn l v)) := by
  unfold store_open.f
  rw [vCheck_eq I v hk]; simp only [bnd]
  have iv := vopn_iff (l := l) (v := v)
  by_cases c : tok l ∧ vmay l v
  · rw [if_pos c, if_pos rfl]
    by_cases f1 : v.f1 = true
    · rw [if_pos f1, decide_eq_false (fun z => by have := (iv.1 z.2).2.1; rw [f1] at this; cases this)]
    · have f1' : v.f1 = false := by simpa using f1
      rw [if_neg f1]
      by_cases f0 : v.f0 = true
      · rw [if_pos f0]
        have r : 0 ≤ v.f4 ∧ v.f4 < (l.length : Int) := by
          rcases c.2 with q | q | q
          · exact q.2.2
          · rw [f0] at q; cases q.1
          · rw [f0] at q; cases q.1
        rw [if_pos r.1, if_pos r.2]
        by_cases k5 : (rd_T45 l v.f4).f0 = 5
        · rw [decide_eq_false (fun z => (iv.1 z.2).2.2 f0 k5)]; simp [k5]
        · rw [decide_eq_true ⟨c.1, iv.2 ⟨c.2, f1', fun _ => k5⟩⟩]; simp [k5]
      · rw [if_neg f0, decide_eq_true ⟨c.1, iv.2 ⟨c.2, f1', fun z => absurd z f0⟩⟩]
  · rw [if_neg c, if_neg (by decide), decide_eq_false (fun z => c ⟨z.1, (vopn_iff.1 z.2).1⟩)]
open Classical in
noncomputable def smake (l : List S45) (t : S45) : Int × List S45 × Int := if tok l ∧ tmay t (l.length : Int) = true then (if t ∈ l then ((l.idxOf t : Int), l, 0) else if l.length = 65536 then (0, [], 6) else ((l.length : Int), l ++ [t], 0)) else (0, [], 1)
theorem tMake_eq {l : List S45} (I : Inv l) {t : S45} (wt : TmWf t) : term_Make.f l t.f0 t.f1 t.f2 = some (smake l t) := by
  have hl := I.2
  unfold term_Make.f term_Find.f smake
  rw [if_pos ⟨I.1, wt⟩]; simp only [bnd]
  unfold tfind api_Term.f
  by_cases c : tok l
  · rw [if_pos c]
    cases hm : tmay t (l.length : Int)
    · simp
    · simp only [if_true, c, and_self]
      by_cases ht : t ∈ l
      · simp only [tpos, ht, if_true]
        rw [if_pos (by omega)]; rfl
      · simp only [tpos, ht, if_false]
        rw [if_neg (by decide), if_pos (by trivial)]
        by_cases h6 : l.length = 65536
        · rw [if_pos (by omega), if_pos h6]
        · rw [if_neg (by omega), if_neg h6, if_pos (by omega)]; simp only [bnd]
          rw [if_pos (by simp; omega)]
  · rw [if_neg c]
    simp [c]
theorem smake_inv {l : List S45} (I : Inv l) {t : S45} (wt : TmWf t) : Inv (smake l t).2.1 := by
  unfold smake
  split
  · split
    · exact I
    · split
      · exact Inv.nil
      · refine ⟨fun x hx => ?_, by rw [List.length_append]; have := I.2; simp; omega⟩
        rcases List.mem_append.1 hx with hx | hx
        · exact I.1 x hx
        · rw [List.mem_singleton.1 hx]; exact wt
  · exact Inv.nil
def prt (b : S24) (i : Int) : S24 := match mix_Part.f 20 b.f0 b.f1 i with | some r => ⟨r.1, r.2.1⟩ | none => ⟨0, 0⟩
theorem prt_eq (b : S24) {i : Int} (h0 : 0 ≤ i) (h4 : i ≤ 4) {k : Nat} (hk : 20 ≤ k) : mix_Part.f k b.f0 b.f1 i = some ((prt b i).f0, (prt b i).f1, 0) := by
  obtain ⟨v, u, e⟩ := mPart_ex b.f0 b.f1 i h0 h4 (k := 20) (by omega)
  have e2 := at_rounds (g := fun k => mix_Part.f k b.f0 b.f1 i) (fun k => mix_Part.mono _ _ _ k) hk e
  have e3 : mix_Part.f k b.f0 b.f1 i = some ((v.1 : Int), (v.2 : Int), 0) := e2
  rw [e3]
  unfold prt
  rw [e]
open Classical in
noncomputable def sPart (l : List S45) (v : S34) (i : Int) : List S45 × S34 × Int := if tok l ∧ vopn l v ∧ 0 ≤ i ∧ i ≤ 2 then (if v.f0 = true then (if (smake l ⟨2 + i, v.f4, 0⟩).2.2 = 0 then ((smake l ⟨2 + i, v.f4, 0⟩).2.1, vs (smake l ⟨2 + i, v.f4, 0⟩).1, 0) else ([], z34, (smake l ⟨2 + i, v.f4, 0⟩).2.2)) else (l, vb (prt v.f2 i), 0)) else ([], z34, 1)
open Classical in
theorem vis_eq {l : List S45} (I : Inv l) (v : S34) {k : Nat} (hk : 4 ≤ k) : value_is.f k l [false] [v] = some (if tok l ∧ vopn l v then 0 else 1) := by
  obtain ⟨k, rfl⟩ : ∃ m, k = m + 2 := ⟨k - 2, by omega⟩
  have iv := vopn_iff (l := l) (v := v)
  unfold value_is.f
  rw [value_is.l0, if_pos (by simp), if_pos (by decide), if_pos (by simp)]
  have e : rd_T34 [v] 0 = v := rfl
  have e2 : rdOf false [false] 0 = false := rfl
  rw [e, e2, vCheck_eq I v (by omega)]; simp only [bnd]
  have last : value_is.l0 (k + 1) l [false] [v] [v] ((([v] : List S34).length : Nat) : Int) (wrap64 (0 + 1)) = some 0 := by
    rw [show wrap64 (0 + 1) = 1 by unfold wrap64; omega, value_is.l0, if_neg (by simp)]
  by_cases c : tok l ∧ vmay l v
  · rw [if_pos c, if_pos rfl]
    by_cases f0 : v.f0 = true
    · have r : 0 ≤ v.f4 ∧ v.f4 < (l.length : Int) ∧ v.f1 = false := by
        rcases c.2 with q | q | q
        · exact ⟨q.2.2.1, q.2.2.2, by rw [q.2.1]; rfl⟩
        · rw [f0] at q; cases q.1
        · rw [f0] at q; cases q.1
      rw [if_pos f0, if_pos r.1, if_pos r.2.1, if_pos (by simp)]
      by_cases k5 : (rd_T45 l v.f4).f0 = 5
      · rw [if_pos (by simp [k5]), if_neg (fun z => (iv.1 z.2).2.2 f0 k5)]
      · rw [if_neg (by simp [k5]), if_pos (by simp), if_neg (by simp), last, if_pos ⟨c.1, iv.2 ⟨c.2, r.2.2, fun _ => k5⟩⟩]
    · rw [if_neg f0, if_pos (by simp)]
      by_cases f1 : v.f1 = true
      · rw [if_pos (by simp [f1]), if_neg (fun z => by have := (iv.1 z.2).2.1; rw [f1] at this; cases this)]
      · have f1' : v.f1 = false := by simpa using f1
        rw [if_neg (by simp [f1']), if_pos (by simp), if_neg (by simp), last, if_pos ⟨c.1, iv.2 ⟨c.2, f1', fun z => absurd z f0⟩⟩]
  · rw [if_neg c, if_neg (by decide), if_neg (fun z => c ⟨z.1, (iv.1 z.2).1⟩)]
theorem wfi64 {x : Int} (h0 : -9223372036854775808 ≤ x) (h1 : x ≤ 9223372036854775807) : (Lit.int .i64 x).wf = true := by
  have a : IntKind.i64.min = -9223372036854775808 := by decide
  have b : IntKind.i64.max = 9223372036854775807 := by decide
  simp [Lit.wf, a, b]
  omega
theorem part_wf {l : List S45} (I : Inv l) {v : S34} (hv : vopn l v) (f0 : v.f0 = true) {i : Int} (h0 : 0 ≤ i) (h2 : i ≤ 2) : TmWf ⟨2 + i, v.f4, 0⟩ := by
  have hl := I.2
  rcases hv with q | q
  · exact ⟨wfi64 (x := 2 + i) (by omega) (by omega), wfi64 (x := v.f4) (by omega) (by omega), by show (Lit.int .i64 0).wf = true; decide⟩
  · rw [f0] at q; cases q.1
theorem vPart_eq {l : List S45} (I : Inv l) (v : S34) (i : Int) {k : Nat} (hk : 30 ≤ k) :
    value_Part.f k l v.f0 v.f1 v.f2.f0 v.f2.f1 v.f3.f0.f0 v.f3.f0.f1 v.f3.f1.f0 v.f3.f1.f1 v.f4 i = some ((sPart l v i).2.1.f0, (sPart l v i).2.1.f1, (sPart l v i).2.1.f2.f0, (sPart l v i).2.1.f2.f1, (sPart l v i).2.1.f3.f0.f0, (sPart l v i).2.1.f3.f0.f1, (sPart l v i).2.1.f3.f1.f0, (sPart l v i).2.1.f3.f1.f1, (sPart l v i).2.1.f4, (sPart l v i).1, (sPart l v i).2.2) := by
  obtain ⟨k, rfl⟩ : ∃ m, k = m + 1 := ⟨k - 1, by omega⟩
  have hl := I.2
  unfold value_Part.f
  have e1 := vis_eq I v (k := k + 1) (by omega)
  rw [show ([(⟨v.f0, v.f1, (⟨v.f2.f0, v.f2.f1⟩ : S24), (⟨(⟨v.f3.f0.f0, v.f3.f0.f1⟩ : S24), (⟨v.f3.f1.f0, v.f3.f1.f1⟩ : S24)⟩ : S32), v.f4⟩ : S34)] : List S34) = [v] from rfl, e1]; simp only [bnd]
  by_cases c : tok l ∧ vopn l v
  · rw [if_pos c, if_pos rfl]
    by_cases hi : 0 ≤ i ∧ i ≤ 2
    · rw [if_neg (by omega), value_Part.j0, if_neg (by simp; omega)]
      have cc : tok l ∧ vopn l v ∧ 0 ≤ i ∧ i ≤ 2 := ⟨c.1, c.2, hi⟩
      by_cases f0 : v.f0 = true
      · rw [if_pos f0]
        have wt := part_wf I c.2 f0 hi.1 hi.2
        have em := tMake_eq I wt
        dsimp only at em
        unfold value_made.f
        rw [w64 (by omega) (by omega), em]; simp only [bnd]
        unfold sPart
        rw [if_pos cc, if_pos f0]
        by_cases e0 : (smake l ⟨2 + i, v.f4, 0⟩).2.2 = 0
        · rw [if_pos e0, if_pos e0]; rfl
        · rw [if_neg e0, if_neg e0]; rfl
      · rw [if_neg f0, prt_eq v.f2 hi.1 (by omega) (by omega)]; simp only [bnd]
        unfold api_Term.f sPart
        rw [if_pos (by omega), if_pos cc, if_neg f0]; rfl
    · unfold sPart
      rw [if_neg (show ¬ (tok l ∧ vopn l v ∧ 0 ≤ i ∧ i ≤ 2) from fun z => hi z.2.2)]
      by_cases n : i < 0
      · rw [if_pos n, value_Part.j0, if_pos rfl]; rfl
      · rw [if_neg n, value_Part.j0, if_pos (by simp; omega)]; rfl
  · rw [if_neg c, if_neg (by decide), value_Part.j0, if_pos rfl]
    unfold sPart
    rw [if_neg (show ¬ (tok l ∧ vopn l v ∧ 0 ≤ i ∧ i ≤ 2) from fun z => c ⟨z.1, z.2.1⟩)]; rfl
theorem sPart_inv {l : List S45} (I : Inv l) (v : S34) (i : Int) : Inv (sPart l v i).1 := by
  unfold sPart
  split
  · rename_i c
    split
    · rename_i f0
      split
      · exact smake_inv I (part_wf I c.2.1 f0 c.2.2.1 c.2.2.2)
      · exact Inv.nil
    · exact I
  · exact Inv.nil
noncomputable def sStep (s : List S45 × S34 × Int) (i : Int) : List S45 × S34 × Int := if s.2.2 = 0 then sPart s.1 s.2.1 i else s
theorem sStep_inv {s : List S45 × S34 × Int} (I : Inv s.1) (i : Int) : Inv (sStep s i).1 := by
  unfold sStep
  split
  · exact sPart_inv I _ _
  · exact I
theorem lPart_eq {s : List S45 × S34 × Int} (I : Inv s.1) (i : Int) {k : Nat} (hk : 30 ≤ k) : label_part.f k s.1 s.2.1 s.2.2 i = some (sStep s i) := by
  unfold label_part.f sStep
  by_cases e : s.2.2 = 0
  · rw [if_pos e, if_pos e, vPart_eq I s.2.1 i hk]; rfl
  · rw [if_neg e, if_neg e]
theorem fold_inv : ∀ (l : List Int) {s : List S45 × S34 × Int}, Inv s.1 → Inv (l.foldl sStep s).1
  | [], _, I => I
  | i :: l, _, I => fold_inv l (sStep_inv I i)
theorem lPath_fold (sd : List Int) (hl : sd.length ≤ 1000) : ∀ (q j k : Nat) (s : List S45 × S34 × Int), Inv s.1 → j + q = sd.length → q + 35 ≤ k → label_path.l0 k s.1 s.2.1 s.2.2 sd (j : Int) = some ((sd.drop j).foldl sStep s) := by
  intro q
  induction q with
  | zero =>
    intro j k s I hj hk
    obtain ⟨k, rfl⟩ : ∃ m, k = m + 1 := ⟨k - 1, by omega⟩
    rw [label_path.l0, if_neg (by omega), List.drop_of_length_le (by omega)]; rfl
  | succ q ih =>
    intro j k s I hj hk
    obtain ⟨k, rfl⟩ : ∃ m, k = m + 1 := ⟨k - 1, by omega⟩
    have hj' : j < sd.length := by omega
    rw [label_path.l0, if_pos (by omega), if_pos (by omega), rd_cast sd hj', lPart_eq I _ (by omega)]; simp only [bnd]
    rw [w64 (by omega) (by omega), show (j : Int) + 1 = ((j + 1 : Nat) : Int) by omega, ih (j + 1) k _ (sStep_inv I _) (by omega) (by omega), List.drop_eq_getElem_cons hj']; rfl
theorem lPath_eq (h : Int) {a b : Nat} (ha : a < 18446744073709551616) (hb : b < 18446744073709551616) (na : Nd h.toNat a) (nb : Nd h.toNat b) (ab : Abv a b) {s : List S45 × S34 × Int} (I : Inv s.1) {k : Nat} (hk : 100 ≤ k) :
    label_path.f k s.1 s.2.1 s.2.2 h (a : Int) (b : Int) = some ((ints (sds b (b.log2 - a.log2))).foldl sStep s) := by
  unfold label_path.f
  rw [nPath_eq h ha hb na nb ab (by omega)]; simp only [bnd]
  have lb : b.log2 ≤ 32 := Nat.le_trans nb.2.2.2 nb.2.1
  have z := lPath_fold (ints (sds b (b.log2 - a.log2))) (by rw [ints_len, sds_len]; omega) (b.log2 - a.log2) 0 k s I (by rw [ints_len, sds_len]; omega) (by omega)
  have e : (if s.2.2 = 0 then (0 : Int) else s.2.2) = s.2.2 := by split <;> omega
  rw [e]
  exact z
def codes (i j : Nat) : List Int := ints (sds i i.log2) ++ [2] ++ (if j = 0 then [] else ints (sds j (j.log2 - i.log2)))
theorem lLabel_eq (h : Int) {i j : Nat} (hi : i < 18446744073709551616) (hj : j < 18446744073709551616) (sb : Sb h.toNat i j) {s : List S45 × S34 × Int} (I : Inv s.1) {k : Nat} (hk : 100 ≤ k) :
    label_label.f k s.1 s.2.1 s.2.2 h (i : Int) (j : Int) = some ((codes i j).foldl sStep s) := by
  have n1 : Nd h.toNat 1 := ⟨sb.1.1, sb.1.2.1, by omega, by rw [log2_one]; omega⟩
  have e1 := lPath_eq h (a := 1) (b := i) (by decide) hi n1 sb.1 (abv_root sb.1.2.2.1) I hk
  rw [log2_one, Nat.sub_zero, show ((1 : Nat) : Int) = 1 from rfl] at e1
  unfold label_label.f codes
  rw [e1]; simp only [bnd]
  have I1 := fold_inv (ints (sds i i.log2)) I
  rw [lPart_eq I1 2 (by omega)]; simp only [bnd]
  by_cases c : j = 0
  · subst c
    rw [if_pos (by rfl), if_pos rfl, List.append_nil, List.foldl_append]; rfl
  · rw [if_neg (by omega), if_neg c]
    have s2 := sb.2.resolve_left c
    rw [lPath_eq h hi hj sb.1 s2.1 s2.2.2 (sStep_inv I1 2) hk, List.foldl_append, List.foldl_append]; rfl
def outW (s : List S45 × S34 × Int) : S34 × List S45 × Int := if s.2.2 = 0 then (s.2.1, s.1, 0) else (z34, [], s.2.2)
theorem outW_inv {s : List S45 × S34 × Int} (I : Inv s.1) : Inv (outW s).2.1 := by
  unfold outW
  split
  · exact I
  · exact Inv.nil
open Classical in
noncomputable def sLab (l : List S45) (h : Nat) (v : S34) (i j : Nat) : S34 × List S45 × Int := if (tok l ∧ vopn l v) ∧ Sb h i j then outW ((codes i j).foldl sStep (l, v, 0)) else (z34, [], 1)
open Classical in
noncomputable def sKey (l : List S45) (h : Nat) (s : Int) (v : S34) (i j : Nat) : S34 × List S45 × Int := if (tok l ∧ vopn l v) ∧ (Sch s ∧ Sb h i j) ∧ May h s i j then outW ((codes i j ++ (if s = 1 then [] else [2])).foldl sStep (l, v, 0)) else (z34, [], 1)
theorem sLab_inv {l : List S45} (I : Inv l) (h : Nat) (v : S34) (i j : Nat) : Inv (sLab l h v i j).2.1 := by
  unfold sLab
  split
  · exact outW_inv (fold_inv _ I)
  · exact Inv.nil
theorem sKey_inv {l : List S45} (I : Inv l) (h : Nat) (s : Int) (v : S34) (i j : Nat) : Inv (sKey l h s v i j).2.1 := by
  unfold sKey
  split
  · exact outW_inv (fold_inv _ I)
  · exact Inv.nil
def flat (r : S34 × List S45 × Int) : Bool × Bool × Int × Int × Int × Int × Int × Int × Int × List S45 × Int := (r.1.f0, r.1.f1, r.1.f2.f0, r.1.f2.f1, r.1.f3.f0.f0, r.1.f3.f0.f1, r.1.f3.f1.f0, r.1.f3.f1.f1, r.1.f4, r.2.1, r.2.2)
theorem lLabG_eq (h : Int) {i j : Nat} (hi : i < 18446744073709551616) (hj : j < 18446744073709551616) {l : List S45} (I : Inv l) (v : S34) {k : Nat} (hk : 100 ≤ k) :
    label_Label.g k l h v (i : Int) (j : Int) = some (sLab l h.toNat v i j) := by
  obtain ⟨k, rfl⟩ : ∃ m, k = m + 1 := ⟨k - 1, by omega⟩
  unfold label_Label.g sLab
  rw [lStart_eq I v (by omega)]; simp only [bnd]
  rw [sCheck_eq h hi hj]; simp only [bnd]
  by_cases c1 : tok l ∧ vopn l v
  · rw [if_pos c1]
    by_cases c2 : Sb h.toNat i j
    · rw [if_pos c2, if_neg (by simp), if_pos ⟨c1, c2⟩]
      have e := lLabel_eq h hi hj c2 (s := (l, v, 0)) I (k := k + 1) (by omega)
      dsimp only at e
      rw [e]; simp only [bnd]; rfl
    · rw [if_neg c2, if_pos (by simp), if_neg (show ¬ ((tok l ∧ vopn l v) ∧ Sb h.toNat i j) from fun z => c2 z.2)]
  · rw [if_neg c1, if_pos (by simp), if_neg (show ¬ ((tok l ∧ vopn l v) ∧ Sb h.toNat i j) from fun z => c1 z.1)]
theorem lLab_eq (h : Int) {i j : Nat} (hi : i < 18446744073709551616) (hj : j < 18446744073709551616) {l : List S45} (I : Inv l) (v : S34) {k : Nat} (hk : 100 ≤ k) :
    label_Label.f k l h v.f0 v.f1 v.f2.f0 v.f2.f1 v.f3.f0.f0 v.f3.f0.f1 v.f3.f1.f0 v.f3.f1.f1 v.f4 (i : Int) (j : Int) = some (flat (sLab l h.toNat v i j)) := by
  unfold label_Label.f
  show (label_Label.g k l h v (i : Int) (j : Int)).bind _ = _
  rw [lLabG_eq h hi hj I v hk]; rfl
theorem lKeyG_eq (h s : Int) {i j : Nat} (hi : i < 18446744073709551616) (hj : j < 18446744073709551616) {l : List S45} (I : Inv l) (v : S34) {k : Nat} (hk : 100 ≤ k) :
    label_Key.g k l h s v (i : Int) (j : Int) = some (sKey l h.toNat s v i j) := by
  unfold label_Key.g sKey
  rw [lStart_eq I v (by omega)]; simp only [bnd]
  rw [May_eq h s hi hj (by omega)]; simp only [bnd]
  by_cases c1 : tok l ∧ vopn l v
  · rw [if_pos c1]
    by_cases c2 : Sch s ∧ Sb h.toNat i j
    · rw [if_pos c2]
      by_cases c3 : May h.toNat s i j
      · rw [if_neg (by simp [c3]), if_pos ⟨c1, c2, c3⟩]
        have e := lLabel_eq h hi hj c2.2 (s := (l, v, 0)) I (k := k) hk
        dsimp only at e
        rw [e]; simp only [bnd]
        by_cases c4 : s = 1
        · rw [if_neg (by simp [c4]), if_pos c4, List.append_nil]; simp only [bnd]; rfl
        · rw [if_pos c4, if_neg c4, lPart_eq (fold_inv _ (s := (l, v, 0)) I) 2 (by omega), List.foldl_append]; simp only [bnd]; rfl
      · rw [if_pos (by simp [c3]), if_neg (show ¬ ((tok l ∧ vopn l v) ∧ (Sch s ∧ Sb h.toNat i j) ∧ May h.toNat s i j) from fun z => c3 z.2.2)]
    · rw [if_neg c2, if_pos (by simp), if_neg (show ¬ ((tok l ∧ vopn l v) ∧ (Sch s ∧ Sb h.toNat i j) ∧ May h.toNat s i j) from fun z => c2 z.2.1)]
  · rw [if_neg c1, if_pos (by simp), if_neg (show ¬ ((tok l ∧ vopn l v) ∧ (Sch s ∧ Sb h.toNat i j) ∧ May h.toNat s i j) from fun z => c1 z.1)]
theorem lKey_eq (h s : Int) {i j : Nat} (hi : i < 18446744073709551616) (hj : j < 18446744073709551616) {l : List S45} (I : Inv l) (v : S34) {k : Nat} (hk : 100 ≤ k) :
    label_Key.f k l h s v.f0 v.f1 v.f2.f0 v.f2.f1 v.f3.f0.f0 v.f3.f0.f1 v.f3.f1.f0 v.f3.f1.f1 v.f4 (i : Int) (j : Int) = some (flat (sKey l h.toNat s v i j)) := by
  unfold label_Key.f
  show (label_Key.g k l h s v (i : Int) (j : Int)).bind _ = _
  rw [lKeyG_eq h s hi hj I v hk]; rfl
open Classical in
theorem lWalk_eq {l : List S45} (I : Inv l) (v : S34) {k : Nat} (hk : 4 ≤ k) : label_Walk.f k l v.f0 v.f1 v.f2.f0 v.f2.f1 v.f3.f0.f0 v.f3.f0.f1 v.f3.f1.f0 v.f3.f1.f1 v.f4 [] = some (flat (if tok l ∧ vopn l v then (v, l, 0) else (z34, [], 1))) := by
  unfold label_Walk.f label_Walk.g
  rw [if_pos rfl]
  show ((label_start.f k l v).bind _).bind _ = _
  rw [lStart_eq I v (by omega)]; simp only [bnd]
  by_cases c : tok l ∧ vopn l v
  · rw [if_pos c, if_pos c]; rfl
  · rw [if_neg c, if_neg c]; rfl
theorem rdE {L : List S50} {j : Nat} (hj : j < L.length) : rd_T50 L (j : Int) = L[j] := by
  unfold rd_T50
  rw [Int.toNat_natCast, List.getD_eq_getElem?_getD, List.getElem?_eq_getElem hj]; rfl
theorem set_two (X : List S50) {j : Nat} (hj : j < X.length) (e : S50) (v : S34) :
    (X.set j e).set j ⟨⟨(rd_T50 (X.set j e) (j : Int)).f0.f0, (rd_T50 (X.set j e) (j : Int)).f0.f1⟩, v⟩ = X.set j ⟨e.f0, v⟩ := by
  rw [rdE (show j < (X.set j e).length by rw [List.length_set]; exact hj), List.getElem_set_self, List.set_set]
noncomputable def sOne (l : List S45) (h : Nat) (s : Int) (v : S34) (p : Nat × Nat) : S34 × List S45 × Int := if p.2 = 0 then sKey l h s v p.1 p.2 else sLab l h v p.1 p.2
theorem sOne_inv {l : List S45} (I : Inv l) (h : Nat) (s : Int) (v : S34) (p : Nat × Nat) : Inv (sOne l h s v p).2.1 := by
  unfold sOne
  split
  · exact sKey_inv I _ _ _ _ _
  · exact sLab_inv I _ _ _ _
noncomputable def sAll (h : Nat) (s : Int) (v : S34) : List (Nat × Nat) → List S50 → List S45 → List S50 × List S45 × Int
  | [], L, l => (L, l, 0)
  | p :: P, L, l => if (sOne l h s v p).2.2 = 0 then sAll h s v P (L ++ [⟨⟨(p.1 : Int), (p.2 : Int)⟩, (sOne l h s v p).1⟩]) (sOne l h s v p).2.1 else ([], [], (sOne l h s v p).2.2)
theorem make_fold (h s : Int) (P : List (Nat × Nat)) (hn : P.length ≤ 100000) (hP : ∀ p ∈ P, p.1 < 18446744073709551616 ∧ p.2 < 18446744073709551616) (v : S34) :
    ∀ (q j k : Nat) (L : List S50) (l : List S45), Inv l → j + q = P.length → q + 110 ≤ k → L.length = j →
      store_Make.l0 k l h s (L ++ List.replicate (P.length - j) z50) (sbs P) (P.length : Int) (j : Int) v.f0 v.f1 v.f2.f0 v.f2.f1 v.f3.f0.f0 v.f3.f0.f1 v.f3.f1.f0 v.f3.f1.f1 v.f4 = some (sAll h.toNat s v (P.drop j) L l) := by
  intro q
  induction q with
  | zero =>
    intro j k L l I hj hk hL
    obtain ⟨k, rfl⟩ : ∃ m, k = m + 1 := ⟨k - 1, by omega⟩
    rw [store_Make.l0, if_neg (by omega), List.drop_of_length_le (by omega), show P.length - j = 0 by omega, List.replicate_zero, List.append_nil, sAll]
  | succ q ih =>
    intro j k L l I hj hk hL
    obtain ⟨k, rfl⟩ : ∃ m, k = m + 1 := ⟨k - 1, by omega⟩
    have hj' : j < P.length := by omega
    obtain ⟨p1, p2⟩ := hP _ (List.getElem_mem hj')
    have lx : (L ++ List.replicate (P.length - j) z50).length = P.length := by rw [List.length_append, hL, List.length_replicate]; omega
    have fin : ∀ v', (L ++ List.replicate (P.length - j) z50).set j ⟨⟨(P[j].1 : Int), (P[j].2 : Int)⟩, v'⟩ = (L ++ [⟨⟨(P[j].1 : Int), (P[j].2 : Int)⟩, v'⟩]) ++ List.replicate (P.length - (j + 1)) z50 := by
      intro v'
      rw [List.append_assoc, List.set_append_right _ _ (by omega), hL, Nat.sub_self, show P.length - j = (P.length - (j + 1)) + 1 by omega, List.replicate_succ]
      rfl
    rw [store_Make.l0, if_pos (by omega), if_pos (by omega), if_pos (by rw [sbs_len]; omega), if_pos (by rw [lx]; omega)]; simp only [bnd]
    rw [rdT_sbs hj', Int.toNat_natCast, w64 (x := (j : Int) + 1) (by omega) (by omega), show (j : Int) + 1 = ((j + 1 : Nat) : Int) by omega, List.drop_eq_getElem_cons hj', sAll]
    dsimp only
    by_cases c : P[j].2 = 0
    · rw [if_pos (by omega), lKey_eq h s p1 p2 I v (by omega)]; simp only [bnd]
      have eo : sOne l h.toNat s v P[j] = sKey l h.toNat s v P[j].1 P[j].2 := by unfold sOne; rw [if_pos c]
      have io := sOne_inv I h.toNat s v P[j]
      rw [eo] at io ⊢
      generalize sKey l h.toNat s v P[j].1 P[j].2 = r at io ⊢
      unfold flat
      dsimp only
      by_cases e0 : r.2.2 = 0
      · rw [if_pos e0, if_pos e0, set_two _ (by rw [lx]; omega)]
        have f := fin r.1
        rw [f]
        exact ih (j + 1) k _ _ io (by omega) (by omega) (by rw [List.length_append, hL]; rfl)
      · rw [if_neg e0, if_neg e0]
    · rw [if_neg (by omega), lLab_eq h p1 p2 I v (by omega)]; simp only [bnd]
      have eo : sOne l h.toNat s v P[j] = sLab l h.toNat v P[j].1 P[j].2 := by unfold sOne; rw [if_neg c]
      have io := sOne_inv I h.toNat s v P[j]
      rw [eo] at io ⊢
      generalize sLab l h.toNat v P[j].1 P[j].2 = r at io ⊢
      unfold flat
      dsimp only
      by_cases e0 : r.2.2 = 0
      · rw [if_pos e0, if_pos e0, set_two _ (by rw [lx]; omega)]
        have f := fin r.1
        rw [f]
        exact ih (j + 1) k _ _ io (by omega) (by omega) (by rw [List.length_append, hL]; rfl)
      · rw [if_neg e0, if_neg e0]
open Classical in
noncomputable def sMake (l : List S45) (h s : Int) (v : S34) (p : Nat) : List S50 × List S45 × Int := if (Sch s ∧ Lfi h p) ∧ tok l ∧ vopn l v then sAll h.toNat s v (prs h.toNat s (2 ^ h.toNat + p)) [] l else ([], [], 1)
theorem prs_lt {h : Int} {s : Int} {p : Nat} (c : Sch s ∧ Lfi h p) : ∀ q ∈ prs h.toNat s (2 ^ h.toNat + p), (q.1 < 18446744073709551616 ∧ q.2 < 18446744073709551616) ∧ Sb h.toNat q.1 q.2 ∧ May h.toNat s q.1 q.2 := by
  intro q hq
  have ch := c.2.1
  rw [hi_iff] at ch
  have hx : 2 ^ h.toNat + p ≠ 0 := by have := Nat.pow_pos (n := h.toNat) (show 0 < 2 by decide); omega
  have hl : (2 ^ h.toNat + p).log2 = h.toNat := by
    rw [Nat.log2_eq_iff hx]
    have := c.2.2
    rw [Nat.pow_succ]
    omega
  have m := prs_mem c.1 ⟨by omega, by omega⟩ hx hl hq
  have n1 := m.1.1.lt33
  refine ⟨⟨by omega, ?_⟩, m.1, m.2.2.2⟩
  rcases m.1.2 with z | z
  · omega
  · have := z.1.lt33; omega
theorem Make_eq (h s : Int) {p : Nat} (hp : p < 18446744073709551616) {l : List S45} (I : Inv l) (v : S34) {k : Nat} (hk : 1500 ≤ k) :
    store_Make.f k l h s v.f0 v.f1 v.f2.f0 v.f2.f1 v.f3.f0.f0 v.f3.f0.f1 v.f3.f1.f0 v.f3.f1.f1 v.f4 (p : Int) = some (sMake l h s v p) := by
  obtain ⟨k, rfl⟩ : ∃ m, k = m + 1 := ⟨k - 1, by omega⟩
  unfold store_Make.f sMake
  rw [Pairs_eq h s hp (by omega)]; simp only [bnd]
  rw [lWalk_eq I v (by omega)]; simp only [bnd]
  by_cases c : Sch s ∧ Lfi h p
  · have ch := c.2.1
    rw [hi_iff] at ch
    have hlt := prs_lt c
    have pl := prs_len (show h.toNat ≤ 32 by omega) s (2 ^ h.toNat + p)
    obtain ⟨P, hP⟩ : ∃ P, P = prs h.toNat s (2 ^ h.toNat + p) := ⟨_, rfl⟩
    rw [if_pos c, ← hP]
    rw [← hP] at pl hlt
    dsimp only
    rw [if_pos (by trivial)]
    by_cases cv : tok l ∧ vopn l v
    · rw [if_pos cv, if_pos ⟨c, cv⟩]
      unfold flat
      dsimp only
      rw [store_Make.j0, if_neg (by simp), sbs_len, if_pos (by omega), Int.toNat_natCast, if_pos (by omega)]
      have z := make_fold h s P (by omega) (fun q hq => (hlt q hq).1) v P.length 0 k [] l I (by omega) (by omega) rfl
      rw [List.nil_append, Nat.sub_zero, List.drop_zero] at z
      exact z
    · rw [if_neg cv, if_neg (fun z => cv z.2)]
      unfold flat
      dsimp only
      rw [store_Make.j0, if_pos (by simp)]
  · rw [if_neg c]; dsimp only
    rw [if_neg (by decide), store_Make.j0, if_pos rfl, if_neg (fun z => c z.1)]
theorem outl_lpn : ∀ h : Fin 33, (outl h.val 3 (2 ^ h.val) 0 h.val).length = lpn h.val := by decide +kernel
theorem log_two (h : Nat) : (2 ^ h).log2 = h := leaf_log2 (Nat.le_refl _) (by rw [Nat.pow_succ]; have := pow_pos2 h; omega)
theorem okp_dep {h x y t e : Nat} {s : Int} (hx : x ≠ 0) (hy : y ≠ 0) (lx : x.log2 = h) (ly : y.log2 = h) (ht : t < e) (he : e ≤ h) :
    okp h s (anc x t) (sib (anc x e)) = okp h s (anc y t) (sib (anc y e)) := by
  have a1 := anc_log2 hx (show t ≤ x.log2 by omega)
  have a2 := anc_log2 hy (show t ≤ y.log2 by omega)
  have b1 := anc_two hx (show 1 ≤ e by omega) (by omega)
  have b2 := anc_two hy (show 1 ≤ e by omega) (by omega)
  have c1 := sib_pos b1
  have c2 := sib_pos b2
  have d1 := sib_log2 b1
  have d2 := sib_log2 b2
  rw [anc_log2 hx (by omega)] at d1
  rw [anc_log2 hy (by omega)] at d2
  unfold okp
  congr 1
  rw [decide_eq_decide, usf_j _ _ (by omega), usf_j _ _ (by omega), a1, a2, d1, d2]
theorem inl_dep {h x y t : Nat} {s : Int} (hx : x ≠ 0) (hy : y ≠ 0) (lx : x.log2 = h) (ly : y.log2 = h) : ∀ {m e : Nat}, t < e → e + m ≤ h + 1 →
    (inl h s x t e m).length = (inl h s y t e m).length
  | 0, e, _, _ => rfl
  | m + 1, e, ht, he => by
    rw [inl, inl, List.length_append, List.length_append, inl_dep hx hy lx ly (by omega) (by omega), okp_dep (s := s) hx hy lx ly ht (by omega)]
    split <;> rfl
theorem outl_dep {h x y : Nat} {s : Int} (hx : x ≠ 0) (hy : y ≠ 0) (lx : x.log2 = h) (ly : y.log2 = h) : ∀ {m t : Nat}, t + m = h →
    (outl h s x t m).length = (outl h s y t m).length
  | 0, t, _ => rfl
  | m + 1, t, ht => by
    rw [outl, outl, List.length_append, List.length_append, inl_dep hx hy lx ly (by omega) (by omega), outl_dep hx hy lx ly (by omega)]
theorem inl_all {h : Nat} {s : Int} {x t : Nat} (hs : s ≠ 3) : ∀ {m e : Nat}, (inl h s x t e m).length = m
  | 0, e => rfl
  | m + 1, e => by rw [inl, List.length_append, inl_all hs, if_pos (by simp [okp, hs])]; simp; omega
theorem outl_all {h : Nat} {s : Int} {x : Nat} (hs : s ≠ 3) : ∀ {m t : Nat}, t + m = h → (outl h s x t m).length = m * (m + 1) / 2
  | 0, t, _ => rfl
  | m + 1, t, ht => by
    rw [outl, List.length_append, inl_all hs, outl_all hs (by omega)]
    have : (m + 1) * (m + 1 + 1) = m * (m + 1) + 2 * (m + 1) := by
      rw [Nat.add_mul, Nat.mul_add m (m + 1) 1]; omega
    omega
theorem prs_pmn {h x : Nat} {s : Int} (hs : Sch s) (hh : h ≤ 32) (hx : x ≠ 0) (lx : x.log2 = h) : (prs h s x).length = pmn h s := by
  rw [sch_iff] at hs
  unfold prs pmn
  by_cases s1 : s = 1
  · rw [if_pos s1, if_pos s1]; simp
  · rw [if_neg s1, if_neg s1, List.length_cons]
    by_cases s2 : s = 2
    · rw [if_pos s2, outl_all (by omega) (by omega)]
    · rw [if_neg s2]
      obtain rfl : s = 3 := by omega
      have h0 : 2 ^ h ≠ 0 := by have := pow_pos2 h; omega
      rw [outl_dep hx h0 lx (log_two h) (by omega)]
      rw [show (outl h 3 (2 ^ h) 0 h).length = lpn h from outl_lpn ⟨h, by omega⟩]
theorem inl_nd {h : Nat} {s : Int} {x t : Nat} (hx : x ≠ 0) (lx : x.log2 = h) : ∀ {m e : Nat}, 1 ≤ e → e + m ≤ h + 1 → (inl h s x t e m).Nodup
  | 0, e, _, _ => List.nodup_nil
  | m + 1, e, h1, he => by
    rw [inl, List.nodup_append]
    refine ⟨by split <;> simp, inl_nd hx lx (by omega) (by omega), ?_⟩
    intro a ha b hb ab
    subst ab
    split at ha
    · simp only [List.mem_singleton] at ha
      obtain ⟨d, d1, d2, d3, _⟩ := mem_inl.1 hb
      rw [ha] at d3
      have e1 := congrArg (fun q : Nat × Nat => q.2.log2) d3
      simp only at e1
      rw [sib_log2 (anc_two hx h1 (by omega)), sib_log2 (anc_two hx (show 1 ≤ d by omega) (by omega)), anc_log2 hx (by omega), anc_log2 hx (by omega)] at e1
      omega
    · simp at ha
theorem outl_nd {h : Nat} {s : Int} {x : Nat} (hx : x ≠ 0) (lx : x.log2 = h) : ∀ {m t : Nat}, t + m = h → (outl h s x t m).Nodup
  | 0, t, _ => List.nodup_nil
  | m + 1, t, ht => by
    rw [outl, List.nodup_append]
    refine ⟨inl_nd hx lx (by omega) (by omega), outl_nd hx lx (by omega), ?_⟩
    intro a ha b hb ab
    subst ab
    obtain ⟨d, d1, d2, d3, _⟩ := mem_inl.1 ha
    obtain ⟨q, e, e1, e2, e3, e4, _⟩ := (mem_outl (by omega)).1 hb
    rw [d3] at e4
    have z := congrArg (fun q : Nat × Nat => q.1.log2) e4
    simp only at z
    rw [anc_log2 hx (by omega), anc_log2 hx (by omega)] at z
    omega
theorem prs_nd {h x : Nat} {s : Int} (hx : x ≠ 0) (lx : x.log2 = h) : (prs h s x).Nodup := by
  unfold prs
  split
  · rw [List.nodup_iff_pairwise_ne, List.pairwise_map]
    refine List.Pairwise.imp_of_mem ?_ (List.nodup_iff_pairwise_ne.1 List.nodup_range)
    intro a b ha hb ab z
    rw [List.mem_range] at ha hb
    have e := congrArg (fun q : Nat × Nat => q.1.log2) z
    simp only at e
    rw [anc_log2 hx (by omega), anc_log2 hx (by omega)] at e
    exact ab e
  · rw [List.nodup_cons]
    refine ⟨?_, outl_nd hx lx (by omega)⟩
    intro z
    obtain ⟨q, d, h1, h2, h3, h4, _⟩ := (mem_outl (by omega)).1 z
    have e := congrArg (fun q : Nat × Nat => q.2) h4
    simp only at e
    have := sib_pos (anc_two hx (show 1 ≤ d by omega) (by omega))
    omega
def den (l : List S45) : List Int → Int → Prop
  | [], T => 0 ≤ T ∧ l[T.toNat]? = some ⟨1, 0, 0⟩
  | c :: p, T => 0 ≤ T ∧ ∃ T', l[T.toNat]? = some ⟨2 + c, T', 0⟩ ∧ den l p T'
theorem den_inj {l : List S45} : ∀ {p q : List Int} {T : Int}, den l p T → den l q T → (∀ c ∈ p, 0 ≤ c) → (∀ c ∈ q, 0 ≤ c) → p = q
  | [], [], _, _, _, _, _ => rfl
  | [], c :: q, T, h, k, _, hq => by
    obtain ⟨_, T', k1, _⟩ := k
    rw [h.2] at k1
    have := congrArg S45.f0 (Option.some.inj k1)
    have := hq c List.mem_cons_self
    simp at *
    omega
  | c :: p, [], T, h, k, hp, _ => by
    obtain ⟨_, T', h1, _⟩ := h
    rw [k.2] at h1
    have := congrArg S45.f0 (Option.some.inj h1)
    have := hp c List.mem_cons_self
    simp at *
    omega
  | c :: p, d :: q, T, h, k, hp, hq => by
    obtain ⟨_, T', h1, h2⟩ := h
    obtain ⟨_, T'', k1, k2⟩ := k
    rw [h1] at k1
    have e := Option.some.inj k1
    have e0 := congrArg S45.f0 e
    have e1 := congrArg S45.f1 e
    dsimp only at e0 e1
    subst e1
    rw [den_inj h2 k2 (fun x hx => hp x (List.mem_cons_of_mem _ hx)) (fun x hx => hq x (List.mem_cons_of_mem _ hx)), show c = d by omega]
theorem den_mono {l l' : List S45} (hl : l <+: l') : ∀ {p : List Int} {T : Int}, den l p T → den l' p T
  | [], T, h => ⟨h.1, by
    obtain ⟨r, rfl⟩ := hl
    have := (List.getElem?_eq_some_iff.1 h.2).1
    rw [List.getElem?_append_left this]; exact h.2⟩
  | c :: p, T, h => by
    obtain ⟨h0, T', h1, h2⟩ := h
    refine ⟨h0, T', ?_, den_mono hl h2⟩
    obtain ⟨r, rfl⟩ := hl
    have := (List.getElem?_eq_some_iff.1 h1).1
    rw [List.getElem?_append_left this]; exact h1
theorem den_lt {l : List S45} {p : List Int} {T : Int} (h : den l p T) : 0 ≤ T ∧ T.toNat < l.length := by
  cases p with
  | nil => exact ⟨h.1, (List.getElem?_eq_some_iff.1 h.2).1⟩
  | cons c p =>
    obtain ⟨h0, T', h1, _⟩ := h
    exact ⟨h0, (List.getElem?_eq_some_iff.1 h1).1⟩
theorem rdTm {l : List S45} {T : Int} {t : S45} (h : l[T.toNat]? = some t) : rd_T45 l T = t := by
  unfold rd_T45
  rw [List.getD_eq_getElem?_getD, h]; rfl
theorem den_open {l : List S45} {p : List Int} {T : Int} (h : den l p T) (hp : ∀ c ∈ p, 0 ≤ c ∧ c ≤ 2) : vopn l (vs T) := by
  have lt := den_lt h
  refine .inl ⟨rfl, rfl, lt.1, by show T < _; omega, ?_⟩
  show (rd_T45 l T).f0 ≠ 5
  cases p with
  | nil => rw [rdTm h.2]; show (1 : Int) ≠ 5; decide
  | cons c p =>
    obtain ⟨_, T', h1, _⟩ := h
    have := hp c List.mem_cons_self
    rw [rdTm h1]; show 2 + c ≠ 5; omega
theorem tok_snoc {l : List S45} {t : S45} (h : tok l) (hl : l.length < 65536) (hm : tmay t (l.length : Int) = true) (ht : t ∉ l) : tok (l ++ [t]) := by
  refine ⟨by rw [List.length_append]; simp; omega, ?_⟩
  intro i hi
  obtain ⟨i, hi'⟩ := i
  dsimp only
  show tmay (l ++ [t])[i] (i : Int) = true ∧ (l ++ [t])[i] ∉ (l ++ [t]).take i
  by_cases e : i < l.length
  · have := h.2 ⟨i, e⟩ e
    rw [List.getElem_append_left e, List.take_append_of_le_length (by omega)]
    exact this
  · have : i = l.length := by simp at hi'; omega
    subst this
    rw [List.getElem_append_right (by omega), List.take_append_of_le_length (by omega), List.take_length]
    simp only [Nat.sub_self, List.getElem_cons_zero]
    exact ⟨hm, ht⟩
theorem step_den {l : List S45} (I : Inv l) (hk : tok l) (hl : l.length < 65536) {p : List Int} {T : Int} (h : den l p T) (hp : ∀ c ∈ p, 0 ≤ c ∧ c ≤ 2) {i : Int} (h0 : 0 ≤ i) (h2 : i ≤ 2) :
    ∃ (l' : List S45) (T' : Int), sStep (l, vs T, 0) i = (l', vs T', 0) ∧ tok l' ∧ l <+: l' ∧ l'.length ≤ l.length + 1 ∧ den l' (i :: p) T' := by
  have lt := den_lt h
  have ho := den_open h hp
  have hm : tmay ⟨2 + i, T, 0⟩ (l.length : Int) = true := by
    unfold tmay
    rw [if_neg (by show ¬ (2 + i < 1 ∨ 2 + i > 5 ∨ (2 + i ≠ 5 ∧ (0 : Int) ≠ 0)); omega), if_neg (by show ¬ 2 + i = 1; omega)]
    have e : tparts ⟨2 + i, T, 0⟩ = [T] := by
      unfold tparts
      rw [if_pos (by show 2 + i = 2 ∨ 2 + i = 3 ∨ 2 + i = 4; omega)]
    rw [e]
    have e1 : decide (T < 0) = false := decide_eq_false (by omega)
    have e2 : decide (T ≥ (l.length : Int)) = false := decide_eq_false (by omega)
    simp [tm_out, e1, e2]
  unfold sStep
  rw [if_pos rfl]
  unfold sPart
  dsimp only
  rw [if_pos ⟨hk, ho, h0, h2⟩, if_pos (show (vs T).f0 = true from rfl), show (vs T).f4 = T from rfl]
  by_cases ht : (⟨2 + i, T, 0⟩ : S45) ∈ l
  · have es : smake l ⟨2 + i, T, 0⟩ = ((l.idxOf (⟨2 + i, T, 0⟩ : S45) : Int), l, 0) := by
      unfold smake
      rw [if_pos ⟨hk, hm⟩, if_pos ht]
    rw [es, if_pos rfl]
    have hi := List.idxOf_lt_length_of_mem ht
    refine ⟨l, _, rfl, hk, List.prefix_refl _, by omega, by omega, T, ?_, h⟩
    rw [Int.toNat_natCast, List.getElem?_eq_getElem hi, List.getElem_idxOf hi]
  · have es : smake l ⟨2 + i, T, 0⟩ = ((l.length : Int), l ++ [⟨2 + i, T, 0⟩], 0) := by
      unfold smake
      rw [if_pos ⟨hk, hm⟩, if_neg ht, if_neg (by omega)]
    rw [es, if_pos rfl]
    refine ⟨l ++ [⟨2 + i, T, 0⟩], _, rfl, tok_snoc hk hl hm ht, List.prefix_append _ _, by simp, by omega, T, ?_, den_mono (List.prefix_append _ _) h⟩
    rw [Int.toNat_natCast]
    simp
theorem fold_den : ∀ (cs : List Int) {l : List S45}, Inv l → tok l → l.length + cs.length < 65536 → ∀ {p : List Int} {T : Int}, den l p T → (∀ c ∈ p, 0 ≤ c ∧ c ≤ 2) → (∀ c ∈ cs, 0 ≤ c ∧ c ≤ 2) →
    ∃ (l' : List S45) (T' : Int), cs.foldl sStep (l, vs T, 0) = (l', vs T', 0) ∧ tok l' ∧ l <+: l' ∧ l'.length ≤ l.length + cs.length ∧ den l' (cs.reverse ++ p) T'
  | [], l, I, hk, hl, p, T, h, hp, hc => ⟨l, T, rfl, hk, List.prefix_refl _, by simp, h⟩
  | i :: cs, l, I, hk, hl, p, T, h, hp, hc => by
    rw [List.length_cons] at hl
    have hi := hc i List.mem_cons_self
    obtain ⟨l1, T1, e1, k1, p1, n1, d1⟩ := step_den I hk (by omega) h hp hi.1 hi.2
    have I1 : Inv l1 := by
      have := sStep_inv (s := (l, vs T, 0)) I i
      rw [e1] at this; exact this
    obtain ⟨l2, T2, e2, k2, p2, n2, d2⟩ := fold_den cs I1 k1 (by omega) d1 (fun c hc' => by
      rcases List.mem_cons.1 hc' with rfl | hc'
      · exact hi
      · exact hp c hc') (fun c hc' => hc c (List.mem_cons_of_mem _ hc'))
    refine ⟨l2, T2, ?_, k2, p1.trans p2, by rw [List.length_cons]; omega, ?_⟩
    · rw [List.foldl_cons, e1, e2]
    · rw [List.reverse_cons, List.append_assoc]; exact d2
theorem sds_inj {b c : Nat} : ∀ {m : Nat}, sds b m = sds c m → b % 2 ^ m = c % 2 ^ m
  | 0, _ => by simp [Nat.mod_one]
  | m + 1, h => by
    rw [sds, sds, List.cons.injEq] at h
    have := sds_inj h.2
    rw [Nat.pow_succ, Nat.mod_mul, Nat.mod_mul, this, h.1]
theorem split_two : ∀ {a b : List Nat} {x y : List Int}, (∀ s ∈ a, s < 2) → (∀ s ∈ b, s < 2) → ints a ++ 2 :: x = ints b ++ 2 :: y → a = b ∧ x = y
  | [], [], x, y, _, _, h => by simpa [ints] using h
  | [], t :: b, x, y, _, hb, h => by
    have := hb t List.mem_cons_self
    simp [ints] at h
    omega
  | s :: a, [], x, y, ha, _, h => by
    have := ha s List.mem_cons_self
    simp [ints] at h
    omega
  | s :: a, t :: b, x, y, ha, hb, h => by
    have e : s = t ∧ ints a ++ 2 :: x = ints b ++ 2 :: y := by
      simp only [ints, List.map_cons, List.cons_append, List.cons.injEq] at h
      exact ⟨Int.ofNat.inj h.1, h.2⟩
    have := split_two (fun z hz => ha z (List.mem_cons_of_mem _ hz)) (fun z hz => hb z (List.mem_cons_of_mem _ hz)) e.2
    exact ⟨by rw [e.1, this.1], this.2⟩
theorem ints_inj {a b : List Nat} (h : ints a = ints b) : a = b := by
  unfold ints at h
  exact (List.map_inj_right (fun x y e => Int.ofNat.inj e)).1 h
theorem node_of {b c m : Nat} (hb : b.log2 = m) (hc : c.log2 = m) (b0 : b ≠ 0) (c0 : c ≠ 0) (h : b % 2 ^ m = c % 2 ^ m) : b = c := by
  have h1 := log2_lo b0
  have h2 := log2_hi b
  have h3 := log2_lo c0
  have h4 := log2_hi c
  rw [hb] at h1 h2
  rw [hc] at h3 h4
  rw [Nat.pow_succ] at h2 h4
  have e1 : b / 2 ^ m = 1 := by
    have p := Nat.pow_pos (n := m) (show 0 < 2 by decide)
    exact Nat.div_eq_of_lt_le (by omega) (by omega)
  have e2 : c / 2 ^ m = 1 := by
    have p := Nat.pow_pos (n := m) (show 0 < 2 by decide)
    exact Nat.div_eq_of_lt_le (by omega) (by omega)
  rw [← Nat.div_add_mod b (2 ^ m), ← Nat.div_add_mod c (2 ^ m), e1, e2, h]
def pth (s : Int) (p : Nat × Nat) : List Int := codes p.1 p.2 ++ (if p.2 = 0 ∧ s ≠ 1 then [2] else [])
theorem codes_two (i j : Nat) : ∀ c ∈ codes i j, 0 ≤ c ∧ c ≤ 2 := by
  have z : ∀ b m, ∀ c ∈ ints (sds b m), 0 ≤ c ∧ c ≤ 2 := fun b m c hc => by
    obtain ⟨t, ht, rfl⟩ := List.mem_map.1 hc
    have := sds_two b m t ht
    exact ⟨Int.natCast_nonneg t, by show (t : Int) ≤ 2; omega⟩
  intro c hc
  unfold codes at hc
  rcases List.mem_append.1 hc with hc | hc
  · rcases List.mem_append.1 hc with hc | hc
    · exact z _ _ c hc
    · rw [List.mem_singleton.1 hc]; omega
  · split at hc
    · simp at hc
    · exact z _ _ c hc
theorem pth_two (s : Int) (p : Nat × Nat) : ∀ c ∈ pth s p, 0 ≤ c ∧ c ≤ 2 := by
  intro c hc
  unfold pth at hc
  rcases List.mem_append.1 hc with hc | hc
  · exact codes_two _ _ c hc
  · split at hc
    · rw [List.mem_singleton.1 hc]; omega
    · simp at hc
theorem pth_len {h : Nat} {p : Nat × Nat} (sb : Sb h p.1 p.2) (hh : h ≤ 32) (s : Int) : (pth s p).length ≤ 70 := by
  have l1 := sb.1.2.2.2
  unfold pth codes
  rw [List.length_append, List.length_append, List.length_append, ints_len, sds_len]
  have a : (if p.2 = 0 then ([] : List Int) else ints (sds p.2 (p.2.log2 - p.1.log2))).length ≤ 32 := by
    split
    · simp
    · rw [ints_len, sds_len]
      rcases sb.2 with z | z
      · contradiction
      · have := z.1.2.2.2; omega
  have b : (if p.2 = 0 ∧ s ≠ 1 then ([2] : List Int) else []).length ≤ 1 := by split <;> simp
  simp only [List.length_cons, List.length_nil]
  omega
theorem pth_inj {h : Nat} {p q : Nat × Nat} (s : Int) (sp : Sb h p.1 p.2) (sq : Sb h q.1 q.2) (e : pth s p = pth s q) : p = q := by
  obtain ⟨i, j⟩ := p
  obtain ⟨i', j'⟩ := q
  dsimp only at sp sq
  unfold pth codes at e
  dsimp only at e
  rw [List.append_assoc, List.append_assoc, List.append_assoc, List.append_assoc, List.cons_append, List.cons_append, List.nil_append, List.nil_append] at e
  obtain ⟨e1, e2⟩ := split_two (sds_two _ _) (sds_two _ _) e
  have el : i.log2 = i'.log2 := by
    have := congrArg List.length e1
    rw [sds_len, sds_len] at this; exact this
  have ei : i = i' := by
    rw [← el] at e1
    exact node_of rfl el.symm sp.1.2.2.1 sq.1.2.2.1 (sds_inj e1)
  subst ei
  have small : ∀ {x : Nat}, Sb h i x → x ≠ 0 → 0 < x.log2 - i.log2 ∧ x / 2 ^ (x.log2 - i.log2) = i := by
    intro x sx hx
    have z := sx.2.resolve_left hx
    have a := z.2.2
    refine ⟨?_, a.2⟩
    have := a.1
    rcases Nat.lt_or_ge i.log2 x.log2 with c | c
    · omega
    · exfalso
      have el : x.log2 = i.log2 := by omega
      have := a.2
      rw [← el, anc_self] at this
      exact z.2.1 this.symm
  have cross : ∀ {x : Nat}, Sb h i x → x ≠ 0 → ∀ r : List Int, (r = [] ∨ r = [2]) → r = ints (sds x (x.log2 - i.log2)) ++ [] → False := by
    intro x sx hx r hr er
    have sm := small sx hx
    rw [List.append_nil] at er
    rcases hr with rfl | rfl
    · have := congrArg List.length er
      rw [ints_len, sds_len] at this
      simp at this
      omega
    · have h2 : (2 : Int) ∈ ints (sds x (x.log2 - i.log2)) := by rw [← er]; simp
      obtain ⟨t, ht, et⟩ := List.mem_map.1 h2
      have := sds_two _ _ t ht
      have : (t : Int) = 2 := et
      omega
  by_cases c : j = 0
  · by_cases c' : j' = 0
    · rw [c, c']
    · exfalso
      rw [if_pos c, if_neg c', List.nil_append, if_neg (show ¬ (j' = 0 ∧ s ≠ 1) from fun z => c' z.1)] at e2
      exact cross sq c' _ (by split <;> simp) e2
  · by_cases c' : j' = 0
    · exfalso
      rw [if_neg c, if_pos c', List.nil_append, if_neg (show ¬ (j = 0 ∧ s ≠ 1) from fun z => c z.1)] at e2
      exact cross sp c _ (by split <;> simp) e2.symm
    · rw [if_neg c, if_neg c', if_neg (show ¬ (j = 0 ∧ s ≠ 1) from fun z => c z.1), if_neg (show ¬ (j' = 0 ∧ s ≠ 1) from fun z => c' z.1), List.append_nil, List.append_nil] at e2
      have e3 := ints_inj e2
      have l1 := small sp c
      have l2 := small sq c'
      have em : j.log2 - i.log2 = j'.log2 - i.log2 := by
        have := congrArg List.length e3
        rw [sds_len, sds_len] at this; exact this
      rw [← em] at e3 l2
      have e4 := sds_inj e3
      have : j = j' := by
        rw [← Nat.div_add_mod j (2 ^ (j.log2 - i.log2)), ← Nat.div_add_mod j' (2 ^ (j.log2 - i.log2)), l1.2, l2.2, e4]
      rw [this]
theorem sOne_den {l : List S45} (I : Inv l) (hk : tok l) (hl : l.length + 70 < 65536) (h : Nat) (s : Int) {T : Int} (d : den l [] T) {p : Nat × Nat} (hh : h ≤ 32) (sb : Sb h p.1 p.2) (ss : Sch s) (my : May h s p.1 p.2) :
    ∃ (l' : List S45) (T' : Int), sOne l h s (vs T) p = (vs T', l', 0) ∧ tok l' ∧ l <+: l' ∧ l'.length ≤ l.length + 70 ∧ den l' (pth s p).reverse T' := by
  have pl := pth_len sb hh s
  obtain ⟨l', T', e, k', pf, n', d'⟩ := fold_den (pth s p) I hk (by omega) d (by simp) (pth_two s p)
  refine ⟨l', T', ?_, k', pf, by omega, by rw [List.append_nil] at d'; exact d'⟩
  have ho := den_open d (by simp)
  unfold sOne
  by_cases c : p.2 = 0
  · rw [if_pos c]
    unfold sKey
    rw [if_pos ⟨⟨hk, ho⟩, ⟨ss, sb⟩, my⟩]
    have ep : codes p.1 p.2 ++ (if s = 1 then [] else [2]) = pth s p := by
      unfold pth
      congr 1
      by_cases c1 : s = 1
      · rw [if_pos c1, if_neg (fun z => z.2 c1)]
      · rw [if_neg c1, if_pos ⟨c, c1⟩]
    rw [ep, e]; rfl
  · rw [if_neg c]
    unfold sLab
    rw [if_pos ⟨⟨hk, ho⟩, sb⟩]
    have ep : codes p.1 p.2 = pth s p := by
      unfold pth
      rw [if_neg (fun z => c z.1), List.append_nil]
    rw [ep, e]; rfl
def Ents (l : List S45) (s : Int) (P : List (Nat × Nat)) (L : List S50) : Prop := L.length = P.length ∧ ∀ j (h : j < L.length) (k : j < P.length), ∃ T, L[j] = ⟨⟨(P[j].1 : Int), (P[j].2 : Int)⟩, vs T⟩ ∧ den l (pth s P[j]).reverse T
theorem Ents.snoc {l l' : List S45} {s : Int} {P : List (Nat × Nat)} {L : List S50} (h : Ents l s P L) (hl : l <+: l') {p : Nat × Nat} {T : Int} (d : den l' (pth s p).reverse T) : Ents l' s (P ++ [p]) (L ++ [⟨⟨(p.1 : Int), (p.2 : Int)⟩, vs T⟩]) := by
  refine ⟨by rw [List.length_append, List.length_append, h.1]; rfl, fun j hj hk => ?_⟩
  by_cases c : j < L.length
  · have c' : j < P.length := by rw [← h.1]; exact c
    obtain ⟨T', e, d'⟩ := h.2 j c c'
    exact ⟨T', by rw [List.getElem_append_left c, List.getElem_append_left c']; exact e, by rw [List.getElem_append_left c']; exact den_mono hl d'⟩
  · have ej : j = L.length := by rw [List.length_append] at hj; simp at hj; omega
    have ej' : j = P.length := by rw [← h.1]; exact ej
    refine ⟨T, ?_, ?_⟩
    · rw [List.getElem_append_right (by omega), List.getElem_append_right (by omega)]
      simp [ej, h.1]
    · rw [List.getElem_append_right (by omega)]
      simp only [ej', Nat.sub_self, List.getElem_cons_zero]
      exact d
theorem sAll_den (h : Nat) (s : Int) (hh : h ≤ 32) (ss : Sch s) {T : Int} : ∀ (P : List (Nat × Nat)), (∀ p ∈ P, Sb h p.1 p.2 ∧ May h s p.1 p.2) → ∀ (Q : List (Nat × Nat)) (L : List S50) (l : List S45), Inv l → tok l → l.length + 70 * P.length < 65000 → den l [] T → Ents l s Q L →
    ∃ (L' : List S50) (l' : List S45), sAll h s (vs T) P L l = (L', l', 0) ∧ tok l' ∧ Inv l' ∧ Ents l' s (Q ++ P) L'
  | [], _, Q, L, l, I, hk, hl, d, E => ⟨L, l, rfl, hk, I, by rw [List.append_nil]; exact E⟩
  | p :: P, hP, Q, L, l, I, hk, hl, d, E => by
    rw [List.length_cons] at hl
    obtain ⟨sb, my⟩ := hP p List.mem_cons_self
    obtain ⟨l1, T1, e1, k1, p1, n1, d1⟩ := sOne_den I hk (by omega) h s d hh sb ss my
    have I1 := sOne_inv I h s (vs T) p
    rw [e1] at I1
    obtain ⟨L', l', e2, k2, I2, E2⟩ := sAll_den h s hh ss P (fun q hq => hP q (List.mem_cons_of_mem _ hq)) (Q ++ [p]) (L ++ [⟨⟨(p.1 : Int), (p.2 : Int)⟩, vs T1⟩]) l1 I1 k1 (by omega) (den_mono p1 d) (E.snoc p1 d1)
    refine ⟨L', l', ?_, k2, I2, by rw [List.append_assoc] at E2; exact E2⟩
    rw [sAll, e1, if_pos rfl]; exact e2
theorem Ents.differ {l : List S45} {s : Int} {h : Nat} {P : List (Nat × Nat)} {L : List S50} (E : Ents l s P L) (nd : P.Nodup) (hP : ∀ p ∈ P, Sb h p.1 p.2) {i j : Nat} (hi : i < L.length) (hj : j < L.length) (hne : i ≠ j) : L[i].f1.f4 ≠ L[j].f1.f4 := by
  have hi' : i < P.length := by rw [← E.1]; exact hi
  have hj' : j < P.length := by rw [← E.1]; exact hj
  obtain ⟨T, e1, d1⟩ := E.2 i hi hi'
  obtain ⟨T', e2, d2⟩ := E.2 j hj hj'
  rw [e1, e2]
  intro e
  have e : T = T' := by simpa [vs] using e
  subst e
  have z : ∀ q : Nat × Nat, ∀ c ∈ (pth s q).reverse, 0 ≤ c := fun q c hc => (pth_two s q c (List.mem_reverse.1 hc)).1
  have ep := den_inj d1 d2 (z _) (z _)
  have ep := List.reverse_inj.1 ep
  have eq := pth_inj s (hP _ (List.getElem_mem hi')) (hP _ (List.getElem_mem hj')) ep
  have pw := List.pairwise_iff_getElem.1 nd
  rcases Nat.lt_or_gt_of_ne hne with c | c
  · exact pw i j hi' hj' c eq
  · exact pw j i hj' hi' c eq.symm
def okt (l : List S45) (b : Bool) : List S50 → List (Nat × Nat) → Prop
  | [], [] => True
  | x :: L, p :: P => (x.f0 = ⟨(p.1 : Int), (p.2 : Int)⟩ ∧ vopn l x.f1 ∧ x.f1.f0 = b) ∧ okt l b L P
  | _, _ => False
theorem okt_len {l : List S45} {b : Bool} : ∀ {L : List S50} {P : List (Nat × Nat)}, okt l b L P → L.length = P.length
  | [], [], _ => rfl
  | [], _ :: _, h => h.elim
  | _ :: _, [], h => h.elim
  | x :: L, p :: P, h => by rw [List.length_cons, List.length_cons, okt_len h.2]
theorem okt_of {l : List S45} {b : Bool} : ∀ {L : List S50} {P : List (Nat × Nat)}, L.length = P.length → (∀ j (h : j < L.length) (k : j < P.length), L[j].f0 = ⟨(P[j].1 : Int), (P[j].2 : Int)⟩ ∧ vopn l L[j].f1 ∧ L[j].f1.f0 = b) → okt l b L P
  | [], [], _, _ => trivial
  | [], _ :: _, h, _ => by simp at h
  | _ :: _, [], h, _ => by simp at h
  | x :: L, p :: P, h, z => ⟨z 0 (by simp) (by simp), okt_of (by simpa using h) (fun j hj hk => z (j + 1) (by simpa using hj) (by simpa using hk))⟩
open Classical in
theorem checkT_l {l : List S45} (I : Inv l) (tk : tok l) (L : List S50) (P : List (Nat × Nat)) (hl : L.length = P.length) (hn : L.length ≤ 100000) : ∀ (q j k : Nat), j + q = L.length → q + 2 ≤ k →
    ((okt l (rd_T50 L 0).f1.f0 (L.drop j) (P.drop j) → store_Check.l0 k l L (sbs P) L (L.length : Int) (j : Int) = some 0) ∧ (¬ okt l (rd_T50 L 0).f1.f0 (L.drop j) (P.drop j) → store_Check.l0 k l L (sbs P) L (L.length : Int) (j : Int) = some 1)) := by
  intro q
  induction q with
  | zero =>
    intro j k hj hk
    obtain ⟨k, rfl⟩ : ∃ m, k = m + 1 := ⟨k - 1, by omega⟩
    rw [List.drop_of_length_le (by omega), List.drop_of_length_le (by omega), store_Check.l0, if_neg (by omega)]
    exact ⟨fun _ => rfl, fun h => absurd trivial h⟩
  | succ q ih =>
    intro j k hj hk
    obtain ⟨k, rfl⟩ : ∃ m, k = m + 1 := ⟨k - 1, by omega⟩
    have j1 : j < L.length := by omega
    have j2 : j < P.length := by omega
    have r1 : rd_T50 L (j : Int) = L[j] := by simp [rd_T50, j1]
    have r2 : rd_T48 (sbs P) (j : Int) = ⟨(P[j].1 : Int), (P[j].2 : Int)⟩ := by simp [rd_T48, sbs, j2]
    have d1 : L.drop j = L[j] :: L.drop (j + 1) := List.drop_eq_getElem_cons j1
    have d2 : P.drop j = P[j] :: P.drop (j + 1) := List.drop_eq_getElem_cons j2
    rw [store_Check.l0, if_pos (by omega), if_pos (by omega), if_pos (by omega), if_pos (by simp [sbs]; omega), r1, r2, sOpen_eq I _ (by omega), d1, d2]
    generalize hb : (rd_T50 L 0).f1.f0 = b at ih ⊢
    simp only [okt, bnd]
    by_cases c1 : L[j].f0 = ⟨(P[j].1 : Int), (P[j].2 : Int)⟩
    · rw [if_neg (by rw [c1]; simp)]
      by_cases c2 : vopn l L[j].f1
      · rw [decide_eq_true (⟨tk, c2⟩ : tok l ∧ vopn l L[j].f1), if_pos rfl, if_pos (by omega)]
        by_cases c3 : L[j].f1.f0 = b
        · rw [if_neg (by rw [c3]; simp), w64 (by omega) (by omega), show (j : Int) + 1 = ((j + 1 : Nat) : Int) by omega]
          have i := ih (j + 1) k (by omega) (by omega)
          exact ⟨fun z => i.1 z.2, fun z => i.2 (fun y => z ⟨⟨c1, c2, c3⟩, y⟩)⟩
        · rw [if_pos (by simpa using c3)]
          exact ⟨fun z => absurd z.1.2.2 c3, fun _ => rfl⟩
      · rw [decide_eq_false (fun z : tok l ∧ vopn l L[j].f1 => c2 z.2), if_neg (by simp)]
        exact ⟨fun z => absurd z.1.2.1 c2, fun _ => rfl⟩
    · rw [if_pos (by
        have : ¬ (L[j].f0.f0 = (P[j].1 : Int) ∧ L[j].f0.f1 = (P[j].2 : Int)) := by
          intro z; apply c1; generalize L[j].f0 = s at z; obtain ⟨x, y⟩ := s; simp at z; rw [z.1, z.2]
        simp only [Bool.or_eq_true, Bool.not_eq_true', beq_eq_false_iff_ne, ne_eq]
        rw [Classical.not_and_iff_not_or_not] at this; exact this)]
      exact ⟨fun z => absurd z.1.1 c1, fun _ => rfl⟩
open Classical in
theorem stCheckT_eq {l : List S45} (I : Inv l) (h s : Int) {p : Nat} (hp : p < 18446744073709551616) (L : List S50) (hn : L.length ≤ 100000) {k : Nat} (hk : 1410 ≤ k) (hk2 : L.length + 10 ≤ k) :
    store_Check.f k l h s (p : Int) L = some (if (Sch s ∧ Lfi h p) ∧ tok l ∧ okt l (rd_T50 L 0).f1.f0 L (prs h.toNat s (2 ^ h.toNat + p)) then 0 else 1) := by
  obtain ⟨k, rfl⟩ : ∃ m, k = m + 1 := ⟨k - 1, by omega⟩
  unfold store_Check.f
  rw [Pairs_eq h s hp (by omega)]; simp only [bnd]
  by_cases c : Sch s ∧ Lfi h p
  · rw [if_pos c]; dsimp only
    unfold term_Check.f
    rw [if_pos rfl, if_pos I.1]; simp only [bnd]
    by_cases tk : tok l
    · rw [if_pos tk, if_pos (by trivial)]
      by_cases cl : L.length = (prs h.toNat s (2 ^ h.toNat + p)).length
      · rw [show ((L.length : Int) != ((sbs (prs h.toNat s (2 ^ h.toNat + p))).length : Int)) = false by rw [show (sbs (prs h.toNat s (2 ^ h.toNat + p))).length = (prs h.toNat s (2 ^ h.toNat + p)).length from List.length_map _]; simp [cl], store_Check.j0, if_neg (by simp)]
        have z := checkT_l I tk L _ cl hn L.length 0 k (by omega) (by omega)
        simp only [List.drop_zero] at z
        by_cases co : okt l (rd_T50 L 0).f1.f0 L (prs h.toNat s (2 ^ h.toNat + p))
        · rw [if_pos ⟨c, tk, co⟩]; exact z.1 co
        · rw [if_neg (fun y => co y.2.2)]; exact z.2 co
      · rw [show ((L.length : Int) != ((sbs (prs h.toNat s (2 ^ h.toNat + p))).length : Int)) = true by rw [show (sbs (prs h.toNat s (2 ^ h.toNat + p))).length = (prs h.toNat s (2 ^ h.toNat + p)).length from List.length_map _]; simp; omega, store_Check.j0, if_pos rfl, if_neg (fun y => cl (okt_len y.2.2))]
    · rw [if_neg tk, if_neg (by decide), store_Check.j0, if_pos rfl, if_neg (fun y => tk y.2.1)]
  · rw [if_neg c]; dsimp only
    rw [if_neg (by decide), store_Check.j0, if_pos rfl, if_neg (fun y => c y.1)]
theorem live14' : medlarlaw14_live.f 40 = some true := by decide +kernel
theorem live14 {k : Nat} (hk : 40 ≤ k) : medlarlaw14_live.f k = some true := at_rounds (g := fun k => medlarlaw14_live.f k) medlarlaw14_live.mono hk live14'
end Go.Proofs.Ytkleiaeihihjnaa.Med
