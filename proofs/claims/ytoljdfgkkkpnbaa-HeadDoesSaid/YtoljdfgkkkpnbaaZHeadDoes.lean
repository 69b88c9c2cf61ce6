/- Plain facts that the proof of HeadDoes needs. -/
import Derived.Test.YtoljdfgkkkpnbaaK0
import Derived.Laws.Bits64b
import Derived.Test.YtoljdfgkkkpnbaaMPx0
import Derived.Test.YtoljdfgkkkpnbaaMPx2
import Derived.Test.YtoljdfgkkkpnbaaMPx3
import Derived.Test.YtoljdfgkkkpnbaaMPx4
import Derived.Test.YtoljdfgkkkpnbaaMPx5
import Derived.Test.YtoljdfgkkkpnbaaMPx6
import Derived.Test.YtoljdfgkkkpnbaaMPx7
import Derived.Test.YtoljdfgkkkpnbaaMPx8
import Derived.Test.YtoljdfgkkkpnbaaMPx9
set_option linter.unusedVariables false
set_option linter.unusedSimpArgs false
set_option linter.unusedSectionVars false
namespace Go.Proofs.Ytoljdfgkkkpnbaa.Med
open Go.RowKit Go.Proofs.YtoljdfgkkkpnbaaW.PrintWords Go.Proofs.YtoljdfgkkkpnbaaW.PrintMore Go.Proofs.Ytoljdfgkkkpnbaa.MP
theorem bnd {α β : Type} (a : α) (f : α → Option β) : (some a).bind f = f a := by
  have h := Option.bind_some a f
  exact h
theorem w64 {x : Int} (h0 : -9223372036854775808 ≤ x) (h1 : x ≤ 9223372036854775807) : wrap64 x = x := by unfold wrap64; omega
theorem wu64 {x : Int} (h0 : 0 ≤ x) (h1 : x < 18446744073709551616) : IntKind.u64.wrap x = x := by
  have : IntKind.u64.wrap x = x % 18446744073709551616 := by rfl
  omega
theorem wf_u64 {x : Int} (h : (Lit.int .u64 x).wf = true) : ∃ n : Nat, x = (n : Int) ∧ n < 18446744073709551616 := by
  have h0 : IntKind.u64.min = 0 := by decide
  have h1 : IntKind.u64.max = 18446744073709551615 := by decide
  simp [Lit.wf, h0, h1] at h
  exact ⟨x.toNat, by omega, by omega⟩
theorem log2_iff {n d : Nat} (hn : n ≠ 0) : n.log2 = d ↔ 2 ^ d ≤ n ∧ n < 2 ^ (d + 1) := Nat.log2_eq_iff hn
theorem log2_lo {n : Nat} (hn : n ≠ 0) : 2 ^ n.log2 ≤ n := Nat.log2_self_le hn
theorem log2_hi (n : Nat) : n < 2 ^ (n.log2 + 1) := Nat.lt_log2_self
theorem log2_one : Nat.log2 1 = 0 := by decide
theorem pow_pos2 (k : Nat) : 0 < 2 ^ k := Nat.two_pow_pos k
theorem pow_split {a b : Nat} (h : a ≤ b) : 2 ^ b = 2 ^ a * 2 ^ (b - a) := by rw [← Nat.pow_add]; congr 1; omega
theorem pow_mono {a b : Nat} (h : a ≤ b) : 2 ^ a ≤ 2 ^ b := Nat.pow_le_pow_right (by omega) h
theorem pow_le_32 {d : Nat} (h : d ≤ 33) : 2 ^ d ≤ 8589934592 := pow_mono (b := 33) h
theorem log2_div {n k : Nat} (hn : n ≠ 0) (hk : k ≤ n.log2) : (n / 2 ^ k).log2 = n.log2 - k ∧ n / 2 ^ k ≠ 0 := by
  have h1 := log2_lo hn
  have h2 := log2_hi n
  have hp := pow_pos2 k
  rw [pow_split hk] at h1
  have e : n.log2 + 1 = k + (n.log2 - k + 1) := by omega
  rw [e, Nat.pow_add] at h2
  have g1 : 2 ^ (n.log2 - k) ≤ n / 2 ^ k := (Nat.le_div_iff_mul_le hp).2 (by rw [Nat.mul_comm]; exact h1)
  have g2 : n / 2 ^ k < 2 ^ (n.log2 - k + 1) := Nat.div_lt_of_lt_mul h2
  have g3 : n / 2 ^ k ≠ 0 := by have := pow_pos2 (n.log2 - k); omega
  exact ⟨(log2_iff g3).2 ⟨g1, g2⟩, g3⟩
def anc (n d : Nat) : Nat := n / 2 ^ (n.log2 - d)
theorem anc_log2 {n d : Nat} (hn : n ≠ 0) (hd : d ≤ n.log2) : (anc n d).log2 = d := by
  have := (log2_div hn (k := n.log2 - d) (by omega)).1
  unfold anc; omega
theorem anc_self (n : Nat) : anc n n.log2 = n := by unfold anc; simp
theorem anc_anc {n d e : Nat} (hn : n ≠ 0) (hd : d ≤ n.log2) (he : e ≤ d) : anc (anc n d) e = anc n e := by
  unfold anc
  rw [show (n / 2 ^ (n.log2 - d)).log2 = d from anc_log2 hn hd, Nat.div_div_eq_div_mul, ← Nat.pow_add]
  congr 2; omega
def Abv (a b : Nat) : Prop := a.log2 ≤ b.log2 ∧ anc b a.log2 = a
instance (a b : Nat) : Decidable (Abv a b) := inferInstanceAs (Decidable (_ ∧ _))
theorem Abv.trans {a b c : Nat} (hc : c ≠ 0) (h : Abv a b) (k : Abv b c) : Abv a c := by
  refine ⟨Nat.le_trans h.1 k.1, ?_⟩
  rw [← anc_anc hc k.1 h.1, k.2]; exact h.2
theorem abv_anc {n d : Nat} (hn : n ≠ 0) (hd : d ≤ n.log2) : Abv (anc n d) n := by
  unfold Abv; rw [anc_log2 hn hd]; exact ⟨hd, rfl⟩
def rt (h n : Nat) : Nat := (n + 1) * 2 ^ (h - n.log2)
def chn (n : Nat) : List Nat := (List.range (n.log2 + 1)).map (anc n)
theorem chn_len (n : Nat) : (chn n).length = n.log2 + 1 := by simp [chn]
theorem mem_chn {a n : Nat} (hn : n ≠ 0) : a ∈ chn n ↔ Abv a n := by
  unfold chn
  simp only [List.mem_map, List.mem_range]
  constructor
  · rintro ⟨d, hd, rfl⟩; exact abv_anc hn (by omega)
  · rintro ⟨h, e⟩; exact ⟨a.log2, by omega, e⟩
theorem chn_one : chn 1 = [1] := by decide
theorem log2_half {n : Nat} (h : 2 ≤ n) : (n / 2).log2 + 1 = n.log2 := by
  have h1 : 1 ≤ n.log2 := (Nat.le_log2 (by omega)).2 (by simpa using h)
  have := (log2_div (n := n) (k := 1) (by omega) h1).1
  rw [Nat.pow_one] at this; omega
theorem chn_snoc {n : Nat} (h : 2 ≤ n) : chn n = chn (n / 2) ++ [n] := by
  have hl := log2_half h
  unfold chn
  rw [← hl, List.range_succ, List.map_append]
  congr 1
  · apply List.map_congr_left
    intro d hd
    rw [List.mem_range] at hd
    have := anc_anc (n := n) (d := n.log2 - 1) (e := d) (by omega) (by omega) (by omega)
    rw [← this]
    congr 1
    unfold anc; congr 1
    rw [show n.log2 - (n.log2 - 1) = 1 by omega, Nat.pow_one]
  · simp only [List.map_cons, List.map_nil]; rw [hl, anc_self]
def sz (n : Nat) : Nat := if n = 0 then 0 else n.log2 + 1
theorem sz_div {n k : Nat} (h : 2 ^ k ≤ n) : sz n = sz (n / 2 ^ k) + k := by
  have hp := pow_pos2 k
  have hn : n ≠ 0 := by omega
  have hk : k ≤ n.log2 := (Nat.le_log2 hn).2 h
  obtain ⟨a, b⟩ := log2_div hn hk
  unfold sz; rw [if_neg hn, if_neg b, a]; omega
theorem sz_le {n k : Nat} (h : n < 2 ^ k) : sz n ≤ k := by
  unfold sz; split
  · omega
  · rename_i hn; have := (Nat.log2_lt hn).2 h; omega
theorem log2_64 {n : Nat} (hn : n < 18446744073709551616) : n.log2 < 64 := by
  by_cases h : n = 0
  · subst h; decide
  · exact (Nat.log2_lt h).2 hn
def Nd (h n : Nat) : Prop := 1 ≤ h ∧ h ≤ 32 ∧ n ≠ 0 ∧ n.log2 ≤ h
instance (h n : Nat) : Decidable (Nd h n) := inferInstanceAs (Decidable (_ ∧ _))
theorem Nd.lt {h n : Nat} (d : Nd h n) : n < 2 ^ (h + 1) := Nat.lt_of_lt_of_le (log2_hi n) (pow_mono (by have := d.2.2.2; omega))
theorem Nd.lt33 {h n : Nat} (d : Nd h n) : n < 8589934592 := Nat.lt_of_lt_of_le d.lt (pow_le_32 (by have := d.2.1; omega))
theorem nd_root {h : Nat} : Nd h 1 ↔ 1 ≤ h ∧ h ≤ 32 := by unfold Nd; rw [log2_one]; omega
def Hi (h : Int) : Prop := 1 ≤ h ∧ h ≤ 32
instance (h : Int) : Decidable (Hi h) := inferInstanceAs (Decidable (_ ∧ _))
theorem hi_iff (h : Int) : Hi h ↔ 1 ≤ h ∧ h ≤ 32 := Iff.rfl
theorem nd_iff (h n : Nat) : Nd h n ↔ 1 ≤ h ∧ h ≤ 32 ∧ n ≠ 0 ∧ n.log2 ≤ h := Iff.rfl
def Sb (h i j : Nat) : Prop := Nd h i ∧ (j = 0 ∨ (Nd h j ∧ i ≠ j ∧ Abv i j))
instance (h i j : Nat) : Decidable (Sb h i j) := inferInstanceAs (Decidable (_ ∧ _))
def stp (h : Nat) : Nat := if h ≤ 1 then 1 else if h ≤ 4 then 2 else if h ≤ 9 then 3 else if h ≤ 16 then 4 else if h ≤ 25 then 5 else 6
theorem stp_pos (h : Nat) : 1 ≤ stp h ∧ stp h ≤ 6 := by unfold stp; constructor <;> (repeat' split) <;> omega
theorem root_lt : (1 : Nat) < 18446744073709551616 := by omega
theorem nd_root' (h : Int) : Nd h.toNat 1 ↔ Hi h := by rw [nd_root, hi_iff]; omega
def nxt (h i : Nat) : Nat := min ((i / stp h + 1) * stp h) h
def Spc (h i : Nat) : Prop := i % stp h = 0 ∨ i = h
instance (h i : Nat) : Decidable (Spc h i) := inferInstanceAs (Decidable (_ ∨ _))
theorem spc_iff (h i : Nat) : Spc h i ↔ i % stp h = 0 ∨ i = h := Iff.rfl
theorem tmod_cast (i s : Nat) : Int.tmod (i : Int) (s : Int) = ((i % s : Nat) : Int) := by rw [Int.tmod_eq_emod_of_nonneg (by omega)]; rfl
def Usf (h i j : Nat) : Prop := (j = 0 ∧ i = 1) ∨ (j ≠ 0 ∧ (Spc h i.log2 ∨ j.log2 ≤ nxt h i.log2))
instance (h i j : Nat) : Decidable (Usf h i j) := inferInstanceAs (Decidable (_ ∨ _))
theorem usf_iff (h i j : Nat) : Usf h i j ↔ (j = 0 ∧ i = 1) ∨ (j ≠ 0 ∧ (Spc h i.log2 ∨ j.log2 ≤ nxt h i.log2)) := Iff.rfl
theorem usf_0 (h i : Nat) : Usf h i 0 ↔ i = 1 := by rw [usf_iff]; simp
theorem usf_j (h i : Nat) {j : Nat} (h0 : j ≠ 0) : Usf h i j ↔ (Spc h i.log2 ∨ j.log2 ≤ nxt h i.log2) := by rw [usf_iff]; simp [h0]
theorem sb_h {h : Int} {i j : Nat} (s : Sb h.toNat i j) : ((h.toNat : Nat) : Int) = h := by have := s.1.1; omega
def hi (h n : Nat) : Nat := rt h n - 1 - 2 ^ h
def Rise (m : Nat) : Nat → List (Nat × Nat) → Prop
  | _, [] => True
  | from_, x :: l => from_ ≤ x.1 ∧ x.1 ≤ x.2 ∧ x.2 < m ∧ Rise m (x.2 + 1) l
theorem Rise.mono {m : Nat} {l : List (Nat × Nat)} {a b : Nat} (h : Rise m a l) (hb : b ≤ a) : Rise m b l := by
  cases l with
  | nil => trivial
  | cons x l => exact ⟨Nat.le_trans hb h.1, h.2⟩
def Lss (a b : Nat × Nat) : Prop := a.1 < b.1 ∨ (a.1 = b.1 ∧ a.2 < b.2)
instance (a b : Nat × Nat) : Decidable (Lss a b) := inferInstanceAs (Decidable (_ ∨ _))
theorem lss_iff (a b : Nat × Nat) : Lss a b ↔ a.1 < b.1 ∨ (a.1 = b.1 ∧ a.2 < b.2) := Iff.rfl
def Sch (s : Int) : Prop := 1 ≤ s ∧ s ≤ 3
instance (s : Int) : Decidable (Sch s) := inferInstanceAs (Decidable (_ ∧ _))
theorem sch_iff (s : Int) : Sch s ↔ 1 ≤ s ∧ s ≤ 3 := Iff.rfl
def May (h : Nat) (s : Int) (i j : Nat) : Prop := (s = 1 ∧ j = 0) ∨ (s = 2 ∧ (j ≠ 0 ∨ i = 1)) ∨ (s ≠ 1 ∧ s ≠ 2 ∧ Usf h i j)
instance (h : Nat) (s : Int) (i j : Nat) : Decidable (May h s i j) := inferInstanceAs (Decidable (_ ∨ _))
theorem may_iff (h : Nat) (s : Int) (i j : Nat) : May h s i j ↔ (s = 1 ∧ j = 0) ∨ (s = 2 ∧ (j ≠ 0 ∨ i = 1)) ∨ (s ≠ 1 ∧ s ≠ 2 ∧ Usf h i j) := Iff.rfl
def ints (l : List Nat) : List Int := l.map Int.ofNat
theorem ints_len (l : List Nat) : (ints l).length = l.length := by simp [ints]
theorem ints_rd {l : List Nat} {i : Nat} (h : i < l.length) : rd (ints l) (i : Int) = ((l[i] : Nat) : Int) := by
  unfold rd ints
  simp [List.getD_eq_getElem?_getD, h]
set_option maxRecDepth 100000 in
theorem len8_all : ∀ i : Fin 256, bt (⟨#[0, 1, 2, 2, 3, 3, 3, 3, 4, 4, 4, 4, 4, 4, 4, 4, 5, 5, 5, 5, 5, 5, 5, 5, 5, 5, 5, 5, 5, 5, 5, 5, 6, 6, 6, 6, 6, 6, 6, 6, 6, 6, 6, 6, 6, 6, 6, 6, 6, 6, 6, 6, 6, 6, 6, 6, 6, 6, 6, 6, 6, 6, 6, 6, 7, 7, 7, 7, 7, 7, 7, 7, 7, 7, 7, 7, 7, 7, 7, 7, 7, 7, 7, 7, 7, 7, 7, 7, 7, 7, 7, 7, 7, 7, 7, 7, 7, 7, 7, 7, 7, 7, 7, 7, 7, 7, 7, 7, 7, 7, 7, 7, 7, 7, 7, 7, 7, 7, 7, 7, 7, 7, 7, 7, 7, 7, 7, 7, 8, 8, 8, 8, 8, 8, 8, 8, 8, 8, 8, 8, 8, 8, 8, 8, 8, 8, 8, 8, 8, 8, 8, 8, 8, 8, 8, 8, 8, 8, 8, 8, 8, 8, 8, 8, 8, 8, 8, 8, 8, 8, 8, 8, 8, 8, 8, 8, 8, 8, 8, 8, 8, 8, 8, 8, 8, 8, 8, 8, 8, 8, 8, 8, 8, 8, 8, 8, 8, 8, 8, 8, 8, 8, 8, 8, 8, 8, 8, 8, 8, 8, 8, 8, 8, 8, 8, 8, 8, 8, 8, 8, 8, 8, 8, 8, 8, 8, 8, 8, 8, 8, 8, 8, 8, 8, 8, 8, 8, 8, 8, 8, 8, 8, 8, 8, 8, 8, 8, 8, 8, 8, 8, 8, 8, 8, 8, 8]⟩ : ByteArray) (i.val : Int) = (sz i.val : Int) := by decide +kernel
set_option maxRecDepth 100000 in
theorem len8 {i : Nat} (h : i < 256) : bt (⟨#[0, 1, 2, 2, 3, 3, 3, 3, 4, 4, 4, 4, 4, 4, 4, 4, 5, 5, 5, 5, 5, 5, 5, 5, 5, 5, 5, 5, 5, 5, 5, 5, 6, 6, 6, 6, 6, 6, 6, 6, 6, 6, 6, 6, 6, 6, 6, 6, 6, 6, 6, 6, 6, 6, 6, 6, 6, 6, 6, 6, 6, 6, 6, 6, 7, 7, 7, 7, 7, 7, 7, 7, 7, 7, 7, 7, 7, 7, 7, 7, 7, 7, 7, 7, 7, 7, 7, 7, 7, 7, 7, 7, 7, 7, 7, 7, 7, 7, 7, 7, 7, 7, 7, 7, 7, 7, 7, 7, 7, 7, 7, 7, 7, 7, 7, 7, 7, 7, 7, 7, 7, 7, 7, 7, 7, 7, 7, 7, 8, 8, 8, 8, 8, 8, 8, 8, 8, 8, 8, 8, 8, 8, 8, 8, 8, 8, 8, 8, 8, 8, 8, 8, 8, 8, 8, 8, 8, 8, 8, 8, 8, 8, 8, 8, 8, 8, 8, 8, 8, 8, 8, 8, 8, 8, 8, 8, 8, 8, 8, 8, 8, 8, 8, 8, 8, 8, 8, 8, 8, 8, 8, 8, 8, 8, 8, 8, 8, 8, 8, 8, 8, 8, 8, 8, 8, 8, 8, 8, 8, 8, 8, 8, 8, 8, 8, 8, 8, 8, 8, 8, 8, 8, 8, 8, 8, 8, 8, 8, 8, 8, 8, 8, 8, 8, 8, 8, 8, 8, 8, 8, 8, 8, 8, 8, 8, 8, 8, 8, 8, 8, 8, 8, 8, 8, 8, 8]⟩ : ByteArray) (i : Int) = (sz i : Int) := len8_all ⟨i, h⟩
set_option maxRecDepth 100000 in
theorem len64_j (k n c : Nat) (hn : n < 4294967296) (hc : c ≤ 32) : bits_Len64.j0 (k + 1) (n : Int) (c : Int) = some ((c + sz n : Nat) : Int) := by
  have h32 : sz n ≤ 32 := sz_le hn
  simp only [bits_Len64.j0]
  by_cases h1 : 65536 ≤ n
  · have e1 := sz_div (n := n) (k := 16) h1
    rw [if_pos (by omega)]
    by_cases h2 : 256 ≤ n / 65536
    · have e2 := sz_div (n := n / 65536) (k := 8) h2
      have i1 : n / 65536 / 256 < 256 := by omega
      have e3 : ((n : Int) / 65536 / 256) % 256 = ((n / 65536 / 256 : Nat) : Int) := by omega
      rw [if_pos (by omega), e3, if_pos (by omega), if_pos (by omega), len8 i1]
      have e1' : sz n = sz (n / 65536) + 16 := e1
      have e2' : sz (n / 65536) = sz (n / 65536 / 256) + 8 := e2
      rw [w64 (x := (c : Int) + 16) (by omega) (by omega), w64 (x := (c : Int) + 16 + 8) (by omega) (by omega), w64 (x := (sz (n / 65536 / 256) : Int)) (by omega) (by omega), w64 (by omega) (by omega)]
      congr 1; omega
    · have i1 : n / 65536 < 256 := by omega
      have e3 : ((n : Int) / 65536) % 256 = ((n / 65536 : Nat) : Int) := by omega
      have e1' : sz n = sz (n / 65536) + 16 := e1
      rw [if_neg (by omega), e3, if_pos (by omega), if_pos (by omega), len8 i1]
      rw [w64 (x := (c : Int) + 16) (by omega) (by omega), w64 (x := (sz (n / 65536) : Int)) (by omega) (by omega), w64 (by omega) (by omega)]
      congr 1; omega
  · rw [if_neg (by omega)]
    by_cases h2 : 256 ≤ n
    · have e2 : sz n = sz (n / 256) + 8 := sz_div (n := n) (k := 8) h2
      have i1 : n / 256 < 256 := by omega
      have e3 : ((n : Int) / 256) % 256 = ((n / 256 : Nat) : Int) := by omega
      rw [if_pos (by omega), e3, if_pos (by omega), if_pos (by omega), len8 i1]
      rw [w64 (x := (c : Int) + 8) (by omega) (by omega), w64 (x := (sz (n / 256) : Int)) (by omega) (by omega), w64 (by omega) (by omega)]
      congr 1; omega
    · have e3 : (n : Int) % 256 = (n : Int) := by omega
      rw [if_neg (by omega), e3, if_pos (by omega), if_pos (by omega), len8 (by omega)]
      rw [w64 (x := (sz n : Int)) (by omega) (by omega), w64 (by omega) (by omega)]
      congr 1
theorem len64 {n : Nat} (hn : n < 18446744073709551616) (k : Nat) : bits_Len64.f (k + 1) (n : Int) = some (sz n : Int) := by
  unfold bits_Len64.f
  by_cases h : 4294967296 ≤ n
  · have e : sz n = sz (n / 4294967296) + 32 := sz_div (n := n) (k := 32) h
    have := len64_j k (n / 4294967296) 32 (by omega) (by omega)
    rw [if_pos (by omega), show (n : Int) / 4294967296 = ((n / 4294967296 : Nat) : Int) by omega, show (32 : Int) = ((32 : Nat) : Int) by rfl, this]
    congr 2; omega
  · have := len64_j k n 0 (by omega) (by omega)
    rw [if_neg (by omega), show (0 : Int) = ((0 : Nat) : Int) by rfl, this]
    simp
theorem depth_eq {n : Nat} (h0 : n ≠ 0) (hn : n < 18446744073709551616) (k : Nat) : node_depth.f (k + 1) (n : Int) = some (n.log2 : Int) := by
  have := sz_le (k := 64) hn
  unfold node_depth.f
  rw [len64 hn]; simp only [Option.bind_some]
  rw [w64 (by omega) (by omega)]
  unfold sz; rw [if_neg h0]; congr 1; omega
theorem high_eq (h : Int) : node_high.f h = some (decide (Hi h)) := by
  unfold node_high.f
  by_cases h1 : h ≥ 1
  · rw [if_pos h1]; congr 1; rw [decide_eq_decide, hi_iff]; omega
  · rw [if_neg h1]; congr 1; symm; rw [decide_eq_false_iff_not, hi_iff]; omega
theorem check_eq (h : Int) {n : Nat} (hn : n < 18446744073709551616) (k : Nat) : node_Check.f (k + 1) h (n : Int) = some (if Nd h.toNat n then 0 else 1) := by
  unfold node_Check.f
  rw [high_eq]; simp only [Option.bind_some]
  by_cases h1 : Hi h
  · rw [decide_eq_true h1, if_pos rfl]
    rw [hi_iff] at h1
    by_cases h2 : n = 0
    · rw [if_pos (by omega), if_neg (by rw [nd_iff]; omega)]
    · rw [if_neg (by omega), depth_eq h2 hn]; simp only [Option.bind_some]
      by_cases h3 : (n.log2 : Int) > h
      · rw [if_pos h3, if_neg (by rw [nd_iff]; omega)]
      · rw [if_neg h3, if_pos (by rw [nd_iff]; omega)]
  · rw [decide_eq_false h1, if_neg (by simp), if_neg (by rw [nd_iff]; rw [hi_iff] at h1; omega)]
theorem both_eq (h : Int) {a b : Nat} (ha : a < 18446744073709551616) (hb : b < 18446744073709551616) (k : Nat) :
    node_both.f (k + 1) h (a : Int) (b : Int) = some (if Nd h.toNat a ∧ Nd h.toNat b then 0 else 1) := by
  unfold node_both.f
  rw [check_eq h ha, check_eq h hb]; simp only [Option.bind_some]
  by_cases h1 : Nd h.toNat a <;> by_cases h2 : Nd h.toNat b <;> simp [h1, h2]
theorem shr_eq (n : Nat) {k : Nat} (hk : k ≤ 64) : shr .u64 (n : Int) (k : Int) = ((n / 2 ^ k : Nat) : Int) := by
  unfold shr
  have : min ((k : Int)).toNat (IntKind.bits .u64) = k := by
    show min ((k : Int)).toNat 64 = k
    omega
  rw [this]; push_cast; rfl
theorem above_eq {a b : Nat} (ha0 : a ≠ 0) (hb0 : b ≠ 0) (ha : a < 18446744073709551616) (hb : b < 18446744073709551616) (k : Nat) :
    node_above.f (k + 1) (a : Int) (b : Int) = some (decide (Abv a b)) := by
  have h1 := log2_64 ha
  have h2 := log2_64 hb
  unfold node_above.f
  rw [depth_eq ha0 ha, depth_eq hb0 hb]; simp only [Option.bind_some]
  unfold Abv anc
  by_cases h : a.log2 ≤ b.log2
  · rw [if_pos (by omega), w64 (by omega) (by omega), if_pos (by omega), show ((b.log2 : Int) - a.log2) = ((b.log2 - a.log2 : Nat) : Int) by omega, shr_eq _ (by omega)]
    congr 1
    simp only [h, true_and]
    by_cases e : b / 2 ^ (b.log2 - a.log2) = a
    · rw [decide_eq_true e, e]; simp
    · rw [decide_eq_false e, beq_eq_false_iff_ne]; omega
  · rw [if_neg (by omega)]; congr 1; simp [h]
theorem Above_eq (h : Int) {a b : Nat} (ha : a < 18446744073709551616) (hb : b < 18446744073709551616) (k : Nat) :
    node_Above.f (k + 1) h (a : Int) (b : Int) = some (if Nd h.toNat a ∧ Nd h.toNat b then (decide (Abv a b), 0) else (false, 1)) := by
  unfold node_Above.f
  rw [both_eq h ha hb]; simp only [Option.bind_some]
  by_cases h1 : Nd h.toNat a ∧ Nd h.toNat b
  · rw [if_pos h1, if_pos rfl, above_eq h1.1.2.2.1 h1.2.2.2.1 ha hb, if_pos h1]; rfl
  · rw [if_neg h1, if_neg (by omega), if_neg h1]
theorem Depth_eq (h : Int) {n : Nat} (hn : n < 18446744073709551616) (k : Nat) : node_Depth.f (k + 1) h (n : Int) = some (if Nd h.toNat n then ((n.log2 : Int), 0) else (0, 1)) := by
  unfold node_Depth.f
  rw [check_eq h hn]; simp only [Option.bind_some]
  by_cases h1 : Nd h.toNat n
  · rw [if_pos h1, if_pos rfl, depth_eq h1.2.2.1 hn, if_pos h1]; rfl
  · rw [if_neg h1, if_neg (by omega), if_neg h1]
theorem sCheck_eq (h : Int) {i j : Nat} (hi : i < 18446744073709551616) (hj : j < 18446744073709551616) (k : Nat) :
    sub_Check.f (k + 1) h (i : Int) (j : Int) = some (if Sb h.toNat i j then 0 else 1) := by
  unfold sub_Check.f
  by_cases h0 : j = 0
  · subst h0
    rw [if_pos (by rfl), check_eq h hi]; simp only [Option.bind_some]
    by_cases h1 : Nd h.toNat i
    · rw [if_pos h1, if_pos ⟨h1, .inl rfl⟩]
    · rw [if_neg h1, if_neg (fun z => h1 z.1)]
  · rw [if_neg (by omega), Above_eq h hi hj]; simp only [Option.bind_some]
    by_cases h1 : Nd h.toNat i ∧ Nd h.toNat j
    · rw [if_pos h1]; simp only [if_true]
      by_cases h2 : Abv i j
      · rw [decide_eq_true h2, if_pos rfl]
        by_cases h3 : i = j
        · rw [if_pos (by omega), if_neg (by rintro ⟨_, z | ⟨_, z, _⟩⟩ <;> omega)]
        · rw [if_neg (by omega), if_pos ⟨h1.1, .inr ⟨h1.2, h3, h2⟩⟩]
      · rw [decide_eq_false h2, if_neg (by simp), if_neg (fun z => z.2.elim (fun y => h0 y) (fun y => h2 y.2.2))]
    · rw [if_neg h1, if_neg (by simp), if_neg (fun z => z.2.elim (fun y => h0 y) (fun y => h1 ⟨z.1, y.1⟩))]
theorem checkRoot_eq (h : Int) (k : Nat) : node_Check.f (k + 1) h 1 = some (if Hi h then 0 else 1) := by
  have := check_eq h root_lt k
  rw [show ((1 : Nat) : Int) = 1 by rfl] at this
  rw [this]
  by_cases h1 : Hi h
  · rw [if_pos h1, if_pos ((nd_root' h).2 h1)]
  · rw [if_neg h1, if_neg (fun z => h1 ((nd_root' h).1 z))]
theorem stepL_eq : ∀ h : Fin 33, 1 ≤ h.val → sub_Step.l0 8 (h.val : Int) 1 = some ((stp h.val : Int), 0) := by decide +kernel
theorem Step_eq (h : Int) {k : Nat} (hk : 10 ≤ k) : sub_Step.f k h = some (if Hi h then ((stp h.toNat : Int), 0) else (0, 1)) := by
  obtain ⟨k, rfl⟩ : ∃ m, k = m + 1 := ⟨k - 1, by omega⟩
  unfold sub_Step.f
  rw [checkRoot_eq]; simp only [Option.bind_some]
  by_cases h1 : Hi h
  · rw [if_pos h1, if_pos rfl, if_pos h1]
    rw [hi_iff] at h1
    have := stepL_eq ⟨h.toNat, by omega⟩ (by show 1 ≤ h.toNat; omega)
    have e : ((h.toNat : Nat) : Int) = h := by omega
    simp only [e] at this
    exact at_rounds (g := fun k => sub_Step.l0 k h 1) (fun k => (sub_Step.mono_l k) _ _) (show 8 ≤ k + 1 by omega) this
  · rw [if_neg h1, if_neg (by omega), if_neg h1]
theorem mn_cast (a b : Nat) : mn (a : Int) (b : Int) = ((min a b : Nat) : Int) := by unfold mn; split <;> omega
theorem nxt_cast (h i : Nat) (hi : i ≤ 32) (hh : h ≤ 32) : mn (wrap64 (wrap64 (wrap64 (Int.tdiv (i : Int) (stp h : Int)) + 1) * (stp h : Int))) (h : Int) = (nxt h i : Int) := by
  obtain ⟨s0, s1⟩ := stp_pos h
  have hd : i / stp h ≤ 32 := Nat.le_trans (Nat.div_le_self _ _) hi
  have hm : (i / stp h + 1) * stp h ≤ 33 * 6 := Nat.mul_le_mul (by omega) s1
  rw [Int.tdiv_eq_ediv_of_nonneg (by omega), ← Int.natCast_ediv]
  unfold nxt
  generalize i / stp h = r at hd hm
  rw [w64 (x := (r : Int)) (by omega) (by omega), show (r : Int) + 1 = ((r + 1 : Nat) : Int) by omega, w64 (x := ((r + 1 : Nat) : Int)) (by omega) (by omega), ← Int.natCast_mul]
  generalize (r + 1) * stp h = q at hm
  rw [w64 (by omega) (by omega), mn_cast]
theorem depths_eq {h i j : Nat} (hs : Sb h i j) (hj : j < 18446744073709551616) {k : Nat} (hk : 10 ≤ k) :
    sub_depths.f k (h : Int) (i : Int) (j : Int) = some ((i.log2 : Int), (if j = 0 then 0 else (j.log2 : Int)), (nxt h i.log2 : Int), decide (Spc h i.log2), 0) := by
  obtain ⟨hi, hj'⟩ := hs
  have hl := hi.2.2.2
  have h32 := hi.2.1
  obtain ⟨s0, s1⟩ := stp_pos h
  have hilt := hi.lt33
  have hH : Hi (h : Int) := by rw [hi_iff]; have := hi.1; omega
  have hsp : ∀ (b : Bool), b = decide ((i.log2 : Int) = h) → (if ((i.log2 % stp h : Nat) : Int) = 0 then true else b) = decide (Spc h i.log2) := by
    intro b hb
    by_cases c : i.log2 % stp h = 0
    · rw [if_pos (by omega)]; symm; rw [decide_eq_true_iff]; exact .inl c
    · rw [if_neg (by omega), hb, decide_eq_decide, spc_iff]; omega
  have hbe : (((i.log2 : Int)) == (h : Int)) = decide ((i.log2 : Int) = h) := by
    by_cases c : (i.log2 : Int) = h
    · rw [decide_eq_true c]; simp [c]
    · rw [decide_eq_false c]; simp [c]
  obtain ⟨k, rfl⟩ : ∃ m, k = m + 1 := ⟨k - 1, by omega⟩
  unfold sub_depths.f
  rw [Step_eq _ (by omega), if_pos hH]; simp only [Option.bind_some, Int.toNat_natCast]
  rw [if_pos trivial, Depth_eq _ (by omega), Int.toNat_natCast, if_pos hi]; simp only [Option.bind_some]
  rw [if_pos trivial]
  by_cases h0 : j = 0
  · subst h0
    rw [if_pos (by rfl), if_neg (by omega), nxt_cast h i.log2 (by omega) h32, tmod_cast]
    simp only [if_true]
    rw [← hsp _ hbe]
    split <;> simp
  · obtain ⟨hj1, _, _⟩ := hj'.resolve_left h0
    rw [if_neg (by omega), Depth_eq _ hj, Int.toNat_natCast, if_pos hj1]; simp only [Option.bind_some]
    rw [if_neg (by omega), nxt_cast h i.log2 (by omega) h32, tmod_cast, if_neg h0]
    rw [← hsp _ hbe]
    split <;> simp
theorem Useful_eq (h : Int) {i j : Nat} (hi : i < 18446744073709551616) (hj : j < 18446744073709551616) {k : Nat} (hk : 10 ≤ k) :
    sub_Useful.f k h (i : Int) (j : Int) = some (if Sb h.toNat i j then (decide (Usf h.toNat i j), 0) else (false, 1)) := by
  obtain ⟨k, rfl⟩ : ∃ m, k = m + 1 := ⟨k - 1, by omega⟩
  unfold sub_Useful.f
  rw [sCheck_eq h hi hj]; simp only [Option.bind_some]
  by_cases h1 : Sb h.toNat i j
  · have e := sb_h h1
    rw [if_pos h1, if_pos rfl, if_pos h1]
    by_cases h0 : j = 0
    · subst h0
      rw [if_pos (by rfl)]; congr 2
      by_cases c : i = 1
      · rw [decide_eq_true ((usf_0 _ _).2 c), c]; rfl
      · rw [decide_eq_false (fun z => c ((usf_0 _ _).1 z)), beq_eq_false_iff_ne]; omega
    · have := depths_eq h1 hj (k := k + 1) (by omega)
      rw [e] at this
      rw [if_neg (by omega), this]; simp only [Option.bind_some, if_true]
      rw [if_neg h0]
      have hu := usf_j h.toNat i h0
      by_cases c : Spc h.toNat i.log2
      · rw [decide_eq_true c, if_pos rfl, decide_eq_true (hu.2 (.inl c))]
      · rw [decide_eq_false c, if_neg (by simp)]; congr 2; rw [decide_eq_decide, hu]
        constructor
        · intro z; right; omega
        · rintro (z | z)
          · exact absurd z c
          · omega
  · rw [if_neg h1, if_neg (by omega), if_neg h1]
theorem shl_eq {n k : Nat} (hk : k ≤ 64) (hb : n * 2 ^ k < 18446744073709551616) : shl .u64 (n : Int) (k : Int) = ((n * 2 ^ k : Nat) : Int) := by
  unfold shl
  have : min ((k : Int)).toNat (IntKind.bits .u64) = k := by
    show min ((k : Int)).toNat 64 = k
    omega
  have e : (n : Int) * 2 ^ k = ((n * 2 ^ k : Nat) : Int) := by push_cast; rfl
  rw [this, e, wu64 (by omega) (by omega)]
def Up (l : List Nat) : Prop := l.Pairwise (· < ·)
theorem Up.lt {a : Nat} {l : List Nat} (h : Up (a :: l)) {x : Nat} (hx : x ∈ l) : a < x := (List.pairwise_cons.1 h).1 x hx
theorem ints_app (a b : List Nat) : ints a ++ ints b = ints (a ++ b) := by simp [ints]
theorem ints_one (n : Nat) : [(n : Int)] = ints [n] := rfl
theorem ints_nil : ([] : List Int) = ints [] := rfl
theorem ints_take (l : List Nat) (n : Nat) : (ints l).take n = ints (l.take n) := by simp [ints]
theorem ints_drop (l : List Nat) (n : Nat) : (ints l).drop n = ints (l.drop n) := by simp [ints]
instance (l : List Nat) : Decidable (Up l) := inferInstanceAs (Decidable (l.Pairwise (· < ·)))
def oct : Nat → Nat → List Nat
  | _, 0 => []
  | n, m + 1 => n % 256 :: oct (n / 256) m
theorem oct_len : ∀ (m n : Nat), (oct n m).length = m
  | 0, _ => rfl
  | m + 1, n => by rw [oct, List.length_cons, oct_len m]
def nm : List Nat → Nat
  | [] => 0
  | c :: l => c + 256 * nm l
theorem nm_lt : ∀ (l : List Nat), (∀ c ∈ l, c < 256) → nm l < 256 ^ l.length
  | [], _ => by simp [nm]
  | c :: l, h => by
    have hc := h c List.mem_cons_self
    have := nm_lt l fun d hd => h d (List.mem_cons_of_mem _ hd)
    rw [nm, List.length_cons, Nat.pow_succ]; omega
theorem oct_lt : ∀ (m n : Nat), ∀ c ∈ oct n m, c < 256
  | 0, _ => by simp [oct]
  | m + 1, n => by
    intro c hc
    rw [oct] at hc
    rcases List.mem_cons.1 hc with rfl | hc
    · exact Nat.mod_lt _ (by decide)
    · exact oct_lt m _ c hc
theorem or_oct {x c i : Nat} (hi : i < 8) (hx : x < 256 ^ i) (hc : c < 256) : Go.bits .or .u64 (x : Int) (shl .u64 (IntKind.u64.wrap (c : Int)) ((8 * i : Nat) : Int)) = ((x + c * 256 ^ i : Nat) : Int) := by
  have p8 : (256 : Nat) ^ (i + 1) ≤ 256 ^ 8 := Nat.pow_le_pow_right (by decide) (by omega)
  have p9 : (256 : Nat) ^ 8 = 18446744073709551616 := by decide
  rw [Nat.pow_succ] at p8
  have ep : 2 ^ (8 * i) = 256 ^ i := by rw [show (256 : Nat) = 2 ^ 8 by decide, ← Nat.pow_mul]
  have hm : c * 256 ^ i ≤ 255 * 256 ^ i := Nat.mul_le_mul_right _ (by omega)
  rw [wu64 (by omega) (by omega), shl_eq (by omega) (by rw [ep]; omega), ep, Go.bits_or_u64_nat x (c * 256 ^ i) (by omega) (by omega)]
  congr 1
  have := Nat.two_pow_add_eq_or_of_lt (i := 8 * i) (b := x) (by rw [ep]; exact hx) c
  rw [ep, Nat.mul_comm] at this
  rw [Nat.or_comm, ← this]; omega
theorem nm_snoc : ∀ (A : List Nat) (c : Nat), nm (A ++ [c]) = nm A + c * 256 ^ A.length
  | [], c => by simp [nm]
  | a :: A, c => by
    rw [List.cons_append, nm, nm, nm_snoc A c, List.length_cons, Nat.pow_succ, Nat.mul_add, Nat.mul_comm 256 (c * 256 ^ A.length), Nat.mul_assoc]; omega
theorem hput_l (o n : Nat) (ho : o ≤ 8) (hn : n < 18446744073709551616) : ∀ (q i k : Nat) (A : List Nat), i + q = o → q < k → A.length ≤ 100000000 + i →
    head_put.l0 k (ints A) (n : Int) (o : Int) (i : Int) = some (ints (A ++ oct (n / 256 ^ i) q)) := by
  intro q
  induction q with
  | zero =>
    intro i k A hi hk hA
    obtain ⟨k, rfl⟩ : ∃ m, k = m + 1 := ⟨k - 1, by omega⟩
    rw [head_put.l0, if_neg (by omega)]; simp [oct]
  | succ q ih =>
    intro i k A hi hk hA
    obtain ⟨k, rfl⟩ : ∃ m, k = m + 1 := ⟨k - 1, by omega⟩
    have e8 : wrap64 (8 * (i : Int)) = ((8 * i : Nat) : Int) := by rw [w64 (by omega) (by omega)]; omega
    have ep : 2 ^ (8 * i) = 256 ^ i := by rw [show (256 : Nat) = 2 ^ 8 by decide, ← Nat.pow_mul]
    rw [head_put.l0, if_pos (by omega), e8, if_pos (by omega), if_pos (by rw [ints_len]; omega), shr_eq n (by omega), ep, w64 (by omega) (by omega),
      show ((n / 256 ^ i : Nat) : Int) % 256 = (((n / 256 ^ i) % 256 : Nat) : Int) by omega, ints_one, ints_app, show (i : Int) + 1 = ((i + 1 : Nat) : Int) by omega,
      ih (i + 1) k _ (by omega) (by omega) (by simp; omega), oct, List.append_assoc, Nat.pow_succ, Nat.div_div_eq_div_mul]
    rfl
theorem hput_eq {n o : Nat} (A : List Nat) (ho : o ≤ 8) (hn : n < 18446744073709551616) (hA : A.length ≤ 100000000) {k : Nat} (hk : 9 ≤ k) : head_put.f k (ints A) (n : Int) (o : Int) = some (ints (A ++ oct n o)) := by
  unfold head_put.f
  have := hput_l o n ho hn o 0 k A (by omega) (by omega) (by omega)
  rw [show (0 : Int) = ((0 : Nat) : Int) from rfl, this, Nat.pow_zero, Nat.div_one]
theorem hnum_l (c : List Nat) (h8 : c.length ≤ 8) (hc : ∀ x ∈ c, x < 256) : ∀ (q i k : Nat), i + q = c.length → q < k →
    hr_num.l0 k (ints c) (nm (c.take i) : Int) (i : Int) = some (nm c : Int) := by
  intro q
  induction q with
  | zero =>
    intro i k hi hk
    obtain ⟨k, rfl⟩ : ∃ m, k = m + 1 := ⟨k - 1, by omega⟩
    rw [hr_num.l0, if_neg (by rw [ints_len]; omega), List.take_of_length_le (by omega)]
  | succ q ih =>
    intro i k hi hk
    obtain ⟨k, rfl⟩ : ∃ m, k = m + 1 := ⟨k - 1, by omega⟩
    have hlt : i < c.length := by omega
    have e8 : wrap64 (8 * (i : Int)) = ((8 * i : Nat) : Int) := by rw [w64 (by omega) (by omega)]; omega
    have hx : nm (c.take i) < 256 ^ i := by
      have := nm_lt (c.take i) fun y hy => hc y (List.mem_of_mem_take hy)
      rwa [List.length_take, show min i c.length = i by omega] at this
    rw [hr_num.l0, if_pos (by rw [ints_len]; omega), if_pos (by omega), e8, if_pos (by omega), ints_rd hlt, or_oct (by omega) hx (hc _ (List.getElem_mem hlt)), w64 (by omega) (by omega), show (i : Int) + 1 = ((i + 1 : Nat) : Int) by omega]
    have e : nm (c.take i) + c[i] * 256 ^ i = nm (c.take (i + 1)) := by
      rw [List.take_succ_eq_append_getElem hlt, nm_snoc, List.length_take, show min i c.length = i by omega]
    rw [e, ih (i + 1) k (by omega) (by omega)]
theorem hnum_eq {c : List Nat} (h8 : c.length ≤ 8) (hc : ∀ x ∈ c, x < 256) {k : Nat} (hk : 9 ≤ k) : hr_num.l0 k (ints c) 0 0 = some (nm c : Int) := by
  have := hnum_l c h8 hc c.length 0 k (by omega) (by omega)
  rw [List.take_zero] at this
  exact this
def so (a b : Nat) : List Nat := oct a 8 ++ oct b 8
theorem so_len (a b : Nat) : (so a b).length = 16 := by simp [so, oct_len]
theorem oct_get : ∀ (m n i : Nat) (h : i < (oct n m).length), (oct n m)[i] = n / 256 ^ i % 256
  | 0, _, _, h => by simp [oct] at h
  | m + 1, n, 0, h => by simp [oct]
  | m + 1, n, i + 1, h => by
    simp only [oct, List.getElem_cons_succ]
    rw [oct_get m (n / 256) i, Nat.pow_succ, Nat.div_div_eq_div_mul, Nat.mul_comm]
theorem so_get (a b i : Nat) (h : i < 16) : (so a b)[i]'(by rw [so_len]; exact h) = (if i < 8 then a else b) / 256 ^ (i % 8) % 256 := by
  unfold so
  by_cases c : i < 8
  · rw [List.getElem_append_left (by rw [oct_len]; exact c), oct_get, if_pos c, Nat.mod_eq_of_lt c]
  · rw [List.getElem_append_right (by rw [oct_len]; omega), oct_get, if_neg c]
    simp only [oct_len]
    rw [show i % 8 = i - 8 by omega]
theorem moct_l (a b : Nat) : ∀ (q i k : Nat) (A : List Nat), i + q = 16 → q < k → A.length = 16 → A.take i = (so a b).take i →
    mix_Octets.l0 k [(a : Int), (b : Int)] (ints A) 16 (i : Int) = some (ints (so a b)) := by
  intro q
  induction q with
  | zero =>
    intro i k A hi hk hA e
    obtain ⟨k, rfl⟩ : ∃ m, k = m + 1 := ⟨k - 1, by omega⟩
    rw [List.take_of_length_le (by omega), List.take_of_length_le (by rw [so_len]; omega)] at e
    rw [mix_Octets.l0, if_neg (by omega), e]
  | succ q ih =>
    intro i k A hi hk hA e
    obtain ⟨k, rfl⟩ : ∃ m, k = m + 1 := ⟨k - 1, by omega⟩
    have d8 : wrap64 (Int.tdiv (i : Int) 8) = ((i / 8 : Nat) : Int) := by rw [Int.tdiv_eq_ediv_of_nonneg (by omega), w64 (by omega) (by omega)]; omega
    have m8 : wrap64 (Int.tmod (i : Int) 8 * 8) = ((i % 8 * 8 : Nat) : Int) := by rw [Int.tmod_eq_emod_of_nonneg (by omega), w64 (by omega) (by omega)]; omega
    have ep : 2 ^ (i % 8 * 8) = 256 ^ (i % 8) := by rw [show (256 : Nat) = 2 ^ 8 by decide, ← Nat.pow_mul, Nat.mul_comm]
    have rdv : rd [(a : Int), (b : Int)] ((i / 8 : Nat) : Int) = (((if i < 8 then a else b) : Nat) : Int) := by
      by_cases c : i < 8
      · rw [if_pos c, show i / 8 = 0 by omega]; rfl
      · rw [if_neg c, show i / 8 = 1 by omega]; rfl
    rw [mix_Octets.l0, if_pos (by omega), d8, if_pos (by omega), if_pos (by omega), m8, if_pos (by omega), if_pos (by omega), if_pos (by rw [ints_len]; omega), rdv, shr_eq _ (by omega), ep, w64 (by omega) (by omega),
      show (i : Int) + 1 = ((i + 1 : Nat) : Int) by omega, Int.toNat_natCast,
      show (((if i < 8 then a else b) / 256 ^ (i % 8) : Nat) : Int) % 256 = (((if i < 8 then a else b) / 256 ^ (i % 8) % 256 : Nat) : Int) by omega]
    have es : (ints A).set i (((if i < 8 then a else b) / 256 ^ (i % 8) % 256 : Nat) : Int) = ints (A.set i ((if i < 8 then a else b) / 256 ^ (i % 8) % 256)) := by
      unfold ints; rw [List.map_set]; rfl
    rw [es]
    refine ih (i + 1) k _ (by omega) (by omega) (by rw [List.length_set]; exact hA) ?_
    have hi16 : i < 16 := by omega
    rw [List.take_succ_eq_append_getElem (by rw [List.length_set, hA]; exact hi16), List.take_succ_eq_append_getElem (by rw [so_len]; exact hi16), List.getElem_set_self, so_get a b i hi16, List.take_set_of_le (by omega), e]
theorem moct_eq (a b : Nat) {k : Nat} (hk : 17 ≤ k) : mix_Octets.f k (a : Int) (b : Int) = some (ints (so a b)) := by
  unfold mix_Octets.f mix_Octets.g
  rw [if_pos (by decide), bnd]
  have := moct_l a b 16 0 k (List.replicate 16 0) (by omega) (by omega) (by simp) (by simp)
  exact this
theorem soct_eq (a b c d : Nat) {k : Nat} (hk : 17 ≤ k) : seal_Octets.f k (a : Int) (b : Int) (c : Int) (d : Int) = some (ints (so a b ++ so c d)) := by
  unfold seal_Octets.f
  rw [moct_eq a b hk, bnd, moct_eq c d hk, bnd, if_pos (by rw [ints_len, ints_len, so_len, so_len]; omega), ints_app]
theorem nm_take_lt {c : List Nat} (hc : ∀ x ∈ c, x < 256) (i : Nat) : nm (c.take i) < 256 ^ i := by
  have := nm_lt (c.take i) fun y hy => hc y (List.mem_of_mem_take hy)
  rw [List.length_take] at this
  exact Nat.lt_of_lt_of_le this (Nat.pow_le_pow_right (by decide) (by omega))
theorem mread_l (c : List Nat) (hl : c.length = 16) (hc : ∀ x ∈ c, x < 256) : ∀ (q i k : Nat), i + q = 16 → q < k →
    mix_read.l0 k (ints c) (nm ((c.take 8).take i) : Int) (nm ((c.drop 8).take (i - 8)) : Int) 16 (i : Int) = some ((nm (c.take 8) : Int), (nm (c.drop 8) : Int)) := by
  have hct : ∀ x ∈ c.take 8, x < 256 := fun y hy => hc y (List.mem_of_mem_take hy)
  have hcd : ∀ x ∈ c.drop 8, x < 256 := fun y hy => hc y (List.mem_of_mem_drop hy)
  intro q
  induction q with
  | zero =>
    intro i k hi hk
    obtain ⟨k, rfl⟩ : ∃ m, k = m + 1 := ⟨k - 1, by omega⟩
    have a1 : (c.take 8).take i = c.take 8 := List.take_of_length_le (by rw [List.length_take]; omega)
    have a2 : (c.drop 8).take (i - 8) = c.drop 8 := List.take_of_length_le (by rw [List.length_drop]; omega)
    rw [mix_read.l0, if_neg (by omega), a1, a2]
  | succ q ih =>
    intro i k hi hk
    obtain ⟨k, rfl⟩ : ∃ m, k = m + 1 := ⟨k - 1, by omega⟩
    have hlt : i < c.length := by omega
    have d8 : wrap64 (Int.tdiv (i : Int) 8) = ((i / 8 : Nat) : Int) := by rw [Int.tdiv_eq_ediv_of_nonneg (by omega), w64 (by omega) (by omega)]; omega
    have m8 : wrap64 (Int.tmod (i : Int) 8 * 8) = ((8 * (i % 8) : Nat) : Int) := by rw [Int.tmod_eq_emod_of_nonneg (by omega), w64 (by omega) (by omega)]; omega
    rw [mix_read.l0, if_pos (by omega), if_pos (by omega), if_pos (by rw [ints_len]; omega), m8, if_pos (by omega), d8, ints_rd hlt, w64 (by omega) (by omega), show (i : Int) + 1 = ((i + 1 : Nat) : Int) by omega]
    by_cases c8 : i < 8
    · have e : nm ((c.take 8).take i) + c[i] * 256 ^ i = nm ((c.take 8).take (i + 1)) := by
        have hl8 : i < (c.take 8).length := by rw [List.length_take, hl]; omega
        have hl9 : ((c.take 8).take i).length = i := by rw [List.length_take, List.length_take, hl]; omega
        rw [List.take_succ_eq_append_getElem hl8, nm_snoc, hl9, List.getElem_take]
      rw [if_pos (by omega), show i % 8 = i by omega, or_oct c8 (nm_take_lt hct i) (hc _ (List.getElem_mem hlt)), e, show i - 8 = (i + 1) - 8 by omega]
      exact ih (i + 1) k (by omega) (by omega)
    · have e : nm ((c.drop 8).take (i - 8)) + c[i] * 256 ^ (i - 8) = nm ((c.drop 8).take (i + 1 - 8)) := by
        have hl8 : i - 8 < (c.drop 8).length := by rw [List.length_drop]; omega
        have hl9 : ((c.drop 8).take (i - 8)).length = i - 8 := by rw [List.length_take, List.length_drop]; omega
        rw [show i + 1 - 8 = (i - 8) + 1 by omega, List.take_succ_eq_append_getElem hl8, nm_snoc, hl9, List.getElem_drop]
        simp only [show 8 + (i - 8) = i by omega]
      rw [if_neg (by omega), if_pos (by omega), show i % 8 = i - 8 by omega, or_oct (by omega) (nm_take_lt hcd (i - 8)) (hc _ (List.getElem_mem hlt)), e,
        show (c.take 8).take i = (c.take 8).take (i + 1) from (List.take_of_length_le (by rw [List.length_take]; omega)).trans (List.take_of_length_le (by rw [List.length_take]; omega)).symm]
      exact ih (i + 1) k (by omega) (by omega)
theorem mread_eq {c : List Nat} (hl : c.length = 16) (hc : ∀ x ∈ c, x < 256) {k : Nat} (hk : 17 ≤ k) : mix_read.f k (ints c) = some ((nm (c.take 8) : Int), (nm (c.drop 8) : Int)) := by
  unfold mix_read.f
  have := mread_l c hl hc 16 0 k (by omega) (by omega)
  rw [ints_len, hl]
  exact this
theorem mof_eq {c : List Nat} (hl : c.length = 16) (hc : ∀ x ∈ c, x < 256) {k : Nat} (hk : 17 ≤ k) : mix_Of.f k (ints c) = some ((nm (c.take 8) : Int), (nm (c.drop 8) : Int), 0) := by
  unfold mix_Of.f
  rw [if_pos (by rw [ints_len]; omega), mread_eq hl hc hk, bnd]
theorem hval_eq {c : List Nat} (hl : 32 ≤ c.length) (hc : ∀ x ∈ c, x < 256) {k : Nat} (hk : 17 ≤ k) :
    hr_val k (ints c) = some ((nm (c.take 8) : Int), (nm ((c.drop 8).take 8) : Int), (nm ((c.drop 16).take 8) : Int), (nm ((c.drop 24).take 8) : Int)) := by
  unfold hr_val seal_Of.f
  have l32 : (c.take 32).length = 32 := by rw [List.length_take]; omega
  have h1 : ∀ x ∈ (c.take 32).take 16, x < 256 := fun y hy => hc y (List.mem_of_mem_take (List.mem_of_mem_take hy))
  have h2 : ∀ x ∈ (c.take 32).drop 16, x < 256 := fun y hy => hc y (List.mem_of_mem_take (List.mem_of_mem_drop hy))
  rw [ints_take, if_pos (by rw [ints_len, l32]; rfl), if_pos (by rw [ints_len, l32]; decide), ints_take, mof_eq (by rw [List.length_take]; omega) h1 hk, bnd, ints_drop, mof_eq (by rw [List.length_drop]; omega) h2 hk, bnd]
  simp only [if_true, bnd]
  have q1 : ((c.take 32).take 16).take 8 = c.take 8 := by rw [List.take_take, List.take_take]; rfl
  have q2 : ((c.take 32).take 16).drop 8 = (c.drop 8).take 8 := by rw [List.take_take, List.drop_take]; rfl
  have q3 : ((c.take 32).drop 16).take 8 = (c.drop 16).take 8 := by rw [List.drop_take, List.take_take]; rfl
  have q4 : ((c.take 32).drop 16).drop 8 = (c.drop 24).take 8 := by rw [List.drop_take, List.drop_take, List.drop_drop]
  rw [q1, q2, q3, q4]
theorem cmp_eq (a b : Int) : cmp_Compare_uint64.f a b = some (if a < b then -1 else if a > b then 1 else 0) := by
  unfold cmp_Compare_uint64.f cmp_isNaN_uint64.f
  simp
  split
  · rfl
  · split <;> rfl
theorem or_eq (x y : Int) (k : Nat) : cmp_Or_int.f (k + 3) [x, y] = some (if x = 0 then y else x) := by
  unfold cmp_Or_int.f
  have w1 : wrap64 1 = 1 := by unfold wrap64; omega
  have w2 : wrap64 2 = 2 := by unfold wrap64; omega
  simp only [cmp_Or_int.l0, List.length_cons, List.length_nil]
  by_cases h : x = 0
  · subst h
    by_cases h2 : y = 0
    · subst h2; simp [rd, w1, w2]
    · simp [rd, w1, w2, h2]
  · simp [rd, h]
theorem Less_eq (i j a b : Nat) {k : Nat} (hk : 3 ≤ k) : sub_Less.f k (i : Int) (j : Int) (a : Int) (b : Int) = some (decide (Lss (i, j) (a, b))) := by
  obtain ⟨k, rfl⟩ : ∃ m, k = m + 3 := ⟨k - 3, by omega⟩
  unfold sub_Less.f
  rw [cmp_eq, cmp_eq]; simp only [Option.bind_some]
  rw [or_eq]; simp only [Option.bind_some]
  congr 1; rw [decide_eq_decide, lss_iff]
  simp only
  repeat' split
  all_goals omega
theorem lcheck_eq (h s : Int) (k : Nat) : layer_check.f (k + 1) h s = some (if Sch s ∧ Hi h then 0 else 1) := by
  unfold layer_check.f
  by_cases c1 : s < 1
  · rw [if_pos c1, if_neg (by rw [sch_iff]; omega)]
  · rw [if_neg c1]
    by_cases c2 : s > 3
    · rw [if_pos c2, if_neg (by rw [sch_iff]; omega)]
    · rw [if_neg c2, checkRoot_eq]; simp only [bnd]
      by_cases c3 : Hi h
      · rw [if_pos c3, if_pos ⟨(sch_iff s).2 (by omega), c3⟩]
      · rw [if_neg c3, if_neg (fun z => c3 z.2)]
theorem May_eq (h s : Int) {i j : Nat} (hi' : i < 18446744073709551616) (hj : j < 18446744073709551616) {k : Nat} (hk : 12 ≤ k) :
    layer_May.f k h s (i : Int) (j : Int) = some (if Sch s ∧ Sb h.toNat i j then (decide (May h.toNat s i j), 0) else (false, 1)) := by
  obtain ⟨k, rfl⟩ : ∃ m, k = m + 1 := ⟨k - 1, by omega⟩
  unfold layer_May.f
  rw [lcheck_eq, sCheck_eq h hi' hj]; simp only [bnd]
  by_cases c1 : Sch s ∧ Hi h
  · rw [if_pos c1]; simp only [if_true]
    by_cases c2 : Sb h.toNat i j
    · have c3 : Sch s ∧ Sb h.toNat i j := ⟨c1.1, c2⟩
      rw [if_pos c2, if_pos c3]
      simp only [layer_May.j0]
      rw [if_neg (by simp)]
      by_cases e1 : s = 1
      · rw [if_pos e1]; congr 2
        rw [Bool.eq_iff_iff, decide_eq_true_iff, may_iff]
        simp [e1]
      · rw [if_neg e1]
        by_cases e2 : s = 2
        · rw [if_pos e2]
          by_cases e3 : j = 0
          · subst e3
            rw [if_pos (by rfl)]; congr 2
            rw [Bool.eq_iff_iff, decide_eq_true_iff, may_iff]
            simp [e2]; omega
          · rw [if_neg (by omega)]; congr 2
            symm; rw [decide_eq_true_iff, may_iff]
            simp [e2, e3]
        · rw [if_neg e2, Useful_eq h hi' hj (by omega), if_pos c2]; simp only [bnd]
          congr 2
          rw [decide_eq_decide, may_iff]
          simp [e1, e2]
    · rw [if_neg c2, if_neg (fun z => c2 z.2)]; simp [layer_May.j0]
  · have c3 : ¬ (Sch s ∧ Sb h.toNat i j) := by
      rintro ⟨a, b⟩
      refine c1 ⟨a, ?_⟩
      have := b.1; rw [nd_iff] at this; rw [hi_iff]; omega
    rw [if_neg c1, if_neg c3]; simp [layer_May.j0]
abbrev U (x : Int) : Prop := 0 ≤ x ∧ x < 18446744073709551616
def Us (s : S27) : Prop := U s.f0.f0 ∧ U s.f0.f1 ∧ U s.f1.f0 ∧ U s.f1.f1
def Upt (p : S41) : Prop := U p.f0.f0 ∧ U p.f0.f1 ∧ Us p.f1.f3
def shv (v : S29) : Prop := v.f0 = false ∧ v.f1 = true ∧ v.f2 = ⟨0, 0⟩ ∧ v.f4 = 0
instance decShv (v : S29) : Decidable (shv v) := by
  unfold shv
  exact decidable_of_iff (v.f0 = false ∧ v.f1 = true ∧ (v.f2.f0 = 0 ∧ v.f2.f1 = 0) ∧ v.f4 = 0) (by
    rcases v with ⟨_, _, ⟨_, _⟩, _, _⟩; simp)
theorem shut_eq (v : S29) : head_shut.f v.f0 v.f1 v.f2.f0 v.f2.f1 v.f3.f0.f0 v.f3.f0.f1 v.f3.f1.f0 v.f3.f1.f1 v.f4 = some (decide (shv v)) := by
  rcases v with ⟨a, b, ⟨c, d⟩, e, f⟩
  unfold head_shut.f shv
  cases a <;> cases b <;> simp <;> by_cases h1 : c = 0 <;> by_cases h2 : d = 0 <;> by_cases h3 : f = 0 <;> simp [h1, h2, h3]
def okpt (h s : Int) (L : List S41) (i : Nat) : Prop :=
  (∃ p, L[i]? = some p ∧ Sch s ∧ Sb h.toNat p.f0.f0.toNat p.f0.f1.toNat ∧ May h.toNat s p.f0.f0.toNat p.f0.f1.toNat ∧ shv p.f1 ∧
    (0 < i → ∃ q, L[i - 1]? = some q ∧ Lss (q.f0.f0.toNat, q.f0.f1.toNat) (p.f0.f0.toNat, p.f0.f1.toNat)))
open Classical in
theorem chk_l (h s : Int) (L : List S41) (hL : ∀ p ∈ L, Upt p) (hn : L.length ≤ 50000) (x0 x1 x2 : Int) (x4 x5 : Bool) (x6 x7 x8 x9 x10 x11 x12 : Int) : ∀ (q i k : Nat), i + q = L.length → q + 20 ≤ k →
    head_Check.l0 k L (L.length : Int) (i : Int) s h x2 L x4 x5 x6 x7 x8 x9 x10 x11 x12 = some (if ∀ j, i ≤ j → j < L.length → okpt h s L j then 0 else 1) := by
  intro q
  induction q with
  | zero =>
    intro i k hi hk
    obtain ⟨k, rfl⟩ : ∃ m, k = m + 1 := ⟨k - 1, by omega⟩
    rw [head_Check.l0, if_neg (by omega), if_pos (by intro j h1 h2; omega)]
  | succ q ih =>
    intro i k hi hk
    obtain ⟨k, rfl⟩ : ∃ m, k = m + 1 := ⟨k - 1, by omega⟩
    have hlt : i < L.length := by omega
    have nx := ih (i + 1) k (by omega) (by omega)
    obtain ⟨⟨p00, p01⟩, ⟨p10, p11⟩, us⟩ := hL _ (List.getElem_mem hlt)
    have r1 : rd_T41 L (i : Int) = L[i] := by unfold rd_T41; simp [List.getD_eq_getElem?_getD, hlt]
    have g1 : L[i]? = some L[i] := List.getElem?_eq_getElem hlt
    rw [head_Check.l0, if_pos (by omega), if_pos (by omega), if_pos (by omega), r1]
    have e0 : L[i].f0.f0 = ((L[i].f0.f0.toNat : Nat) : Int) := (Int.toNat_of_nonneg p00).symm
    have e1 : L[i].f0.f1 = ((L[i].f0.f1.toNat : Nat) : Int) := (Int.toNat_of_nonneg p10).symm
    have my := May_eq h s (i := L[i].f0.f0.toNat) (j := L[i].f0.f1.toNat) (by omega) (by omega) (k := k) (by omega)
    rw [← e0, ← e1] at my
    rw [my, bnd]
    by_cases c1 : Sch s ∧ Sb h.toNat L[i].f0.f0.toNat L[i].f0.f1.toNat
    · rw [if_pos c1]; simp only [if_true, decide_eq_true_eq]
      by_cases c2 : May h.toNat s L[i].f0.f0.toNat L[i].f0.f1.toNat
      · rw [if_pos c2, shut_eq, bnd]
        by_cases c3 : shv L[i].f1
        · simp only [c3, decide_true, if_true]
          by_cases c4 : 0 < i
          · have hlt' : i - 1 < L.length := by omega
            obtain ⟨⟨q00, q01⟩, ⟨q10, q11⟩, _⟩ := hL _ (List.getElem_mem hlt')
            have w1 : wrap64 ((i : Int) - 1) = ((i - 1 : Nat) : Int) := by rw [w64 (by omega) (by omega)]; omega
            have r2 : rd_T41 L ((i - 1 : Nat) : Int) = L[i - 1] := by unfold rd_T41; simp [List.getD_eq_getElem?_getD, hlt']
            have f0 : L[i - 1].f0.f0 = ((L[i - 1].f0.f0.toNat : Nat) : Int) := (Int.toNat_of_nonneg q00).symm
            have f1 : L[i - 1].f0.f1 = ((L[i - 1].f0.f1.toNat : Nat) : Int) := (Int.toNat_of_nonneg q10).symm
            have ls := Less_eq L[i - 1].f0.f0.toNat L[i - 1].f0.f1.toNat L[i].f0.f0.toNat L[i].f0.f1.toNat (k := k) (by omega)
            rw [← f0, ← f1, ← e0, ← e1] at ls
            rw [if_pos (by omega), w1, if_pos (by omega), if_pos (by omega), r2, ls, bnd]
            simp only [decide_eq_true_eq]
            by_cases c5 : Lss (L[i - 1].f0.f0.toNat, L[i - 1].f0.f1.toNat) (L[i].f0.f0.toNat, L[i].f0.f1.toNat)
            · rw [if_pos c5, w64 (by omega) (by omega), show (i : Int) + 1 = ((i + 1 : Nat) : Int) by omega, nx]
              congr 1
              have : okpt h s L i := ⟨_, g1, c1.1, c1.2, c2, c3, fun _ => ⟨_, List.getElem?_eq_getElem hlt', c5⟩⟩
              by_cases a : ∀ j, i + 1 ≤ j → j < L.length → okpt h s L j
              · rw [if_pos a, if_pos (fun j h1 h2 => by rcases Nat.eq_or_lt_of_le h1 with rfl | h1; exact this; exact a j h1 h2)]
              · rw [if_neg a, if_neg (fun z => a fun j h1 h2 => z j (by omega) h2)]
            · rw [if_neg c5, if_neg]
              intro z
              obtain ⟨p, gp, _, _, _, _, hq⟩ := z i (Nat.le_refl _) hlt
              obtain ⟨q, gq, lq⟩ := hq c4
              rw [g1] at gp; rw [List.getElem?_eq_getElem hlt'] at gq
              cases gp; cases gq
              exact c5 lq
          · rw [if_neg (by omega), w64 (by omega) (by omega), show (i : Int) + 1 = ((i + 1 : Nat) : Int) by omega, nx]
            congr 1
            have : okpt h s L i := ⟨_, g1, c1.1, c1.2, c2, c3, fun z => absurd z c4⟩
            by_cases a : ∀ j, i + 1 ≤ j → j < L.length → okpt h s L j
            · rw [if_pos a, if_pos (fun j h1 h2 => by rcases Nat.eq_or_lt_of_le h1 with rfl | h1; exact this; exact a j h1 h2)]
            · rw [if_neg a, if_neg (fun z => a fun j h1 h2 => z j (by omega) h2)]
        · simp only [c3, decide_false, Bool.false_eq_true, if_false]
          rw [if_neg]
          intro z
          obtain ⟨p, gp, _, _, _, hs, _⟩ := z i (Nat.le_refl _) hlt
          rw [g1] at gp; cases gp; exact c3 hs
      · rw [if_neg c2, if_neg]
        intro z
        obtain ⟨p, gp, _, _, hm, _⟩ := z i (Nat.le_refl _) hlt
        rw [g1] at gp; cases gp; exact c2 hm
    · rw [if_neg c1]; simp only [show ¬ ((1 : Int) = 0) by decide, if_false]
      rw [if_neg]
      intro z
      obtain ⟨p, gp, h1, h2, _⟩ := z i (Nat.le_refl _) hlt
      rw [g1] at gp; cases gp; exact c1 ⟨h1, h2⟩
def Ck (s h e : Int) (L : List S41) (v : S29) : Prop :=
  Hi h ∧ Sch s ∧ 1 ≤ e ∧ e ≤ 1099511627776 ∧ L.length ≤ 32768 ∧ shv v ∧ ∀ j, j < L.length → okpt h s L j
open Classical in
theorem Check_eq (s h e : Int) (L : List S41) (v : S29) (hL : ∀ p ∈ L, Upt p) (hn : L.length ≤ 50000) {k : Nat} (hk : L.length + 30 ≤ k) :
    head_Check.f k s h e L v.f0 v.f1 v.f2.f0 v.f2.f1 v.f3.f0.f0 v.f3.f0.f1 v.f3.f1.f0 v.f3.f1.f1 v.f4 = some (if Ck s h e L v then 0 else 1) := by
  obtain ⟨k, rfl⟩ : ∃ m, k = m + 2 := ⟨k - 2, by omega⟩
  have j1 : ∀ (a : Int), head_Check.j0 (k + 2) true s h e L v.f0 v.f1 v.f2.f0 v.f2.f1 v.f3.f0.f0 v.f3.f0.f1 v.f3.f1.f0 v.f3.f1.f1 v.f4 = some 1 := fun _ => by rw [head_Check.j0, if_pos rfl]
  unfold head_Check.f
  rw [checkRoot_eq, bnd]
  by_cases c1 : Hi h
  · rw [if_pos c1, if_pos rfl]
    by_cases c2 : e < 1
    · rw [if_pos c2, j1 0, if_neg (fun z => by have := z.2.2.1; omega)]
    rw [if_neg c2]
    by_cases c3 : e > 1099511627776
    · rw [if_pos c3, j1 0, if_neg (fun z => by have := z.2.2.2.1; omega)]
    rw [if_neg c3]
    by_cases c4 : (L.length : Int) > 32768
    · rw [if_pos c4, j1 0, if_neg (fun z => by have := z.2.2.2.2.1; omega)]
    rw [if_neg c4, shut_eq, bnd]
    by_cases c5 : shv v
    · simp only [c5, decide_true, Bool.not_true]
      rw [head_Check.j0, if_neg (by decide)]
      have my := May_eq h s (i := 1) (j := 0) (by omega) (by omega) (k := k + 1) (by omega)
      have sb : Sb h.toNat 1 0 := ⟨by unfold Nd; unfold Hi at c1; rw [log2_one]; omega, .inl rfl⟩
      rw [show ((1 : Nat) : Int) = 1 from rfl, show ((0 : Nat) : Int) = 0 from rfl] at my
      by_cases c6 : Sch s
      · rw [my.trans (congrArg some (if_pos ⟨c6, sb⟩)), bnd]
        dsimp only
        rw [if_pos rfl]
        have := chk_l h s L hL hn s h e v.f0 v.f1 v.f2.f0 v.f2.f1 v.f3.f0.f0 v.f3.f0.f1 v.f3.f1.f0 v.f3.f1.f1 v.f4 L.length 0 (k + 1) (by omega) (by omega)
        rw [show ((0 : Nat) : Int) = 0 from rfl] at this
        rw [this]
        congr 1
        by_cases a : ∀ j, j < L.length → okpt h s L j
        · rw [if_pos (fun j _ h2 => a j h2), if_pos ⟨c1, c6, by omega, by omega, by omega, c5, a⟩]
        · rw [if_neg (fun z => a fun j h2 => z j (Nat.zero_le _) h2), if_neg (fun z => a z.2.2.2.2.2.2)]
      · rw [my.trans (congrArg some (if_neg (fun z => c6 z.1))), bnd]
        dsimp only
        rw [if_neg (by decide), if_neg (fun z => c6 z.2.1)]
    · simp only [c5, decide_false, Bool.not_false]
      rw [j1 0, if_neg (fun z => c5 z.2.2.2.2.2.1)]
  · rw [if_neg c1, if_neg (by decide), j1 0, if_neg (fun z => c1 z.1)]
def st (s : S27) : List Nat := so s.f0.f0.toNat s.f0.f1.toNat ++ so s.f1.f0.toNat s.f1.f1.toNat
def pt (p : S41) : List Nat := oct p.f0.f0.toNat 8 ++ (oct p.f0.f1.toNat 8 ++ st p.f1.f3)
def front (s h e : Int) (n : Nat) : List Nat := [1, s.toNat % 256, h.toNat % 256] ++ (oct e.toNat 8 ++ oct n 4)
def text (s h e : Int) (L : List S41) (v : S29) : List Nat := front s h e L.length ++ (L.flatMap pt ++ st v.f3)
theorem st_len (s : S27) : (st s).length = 32 := by simp [st, so_len]
theorem pt_len (p : S41) : (pt p).length = 48 := by simp [pt, st_len, oct_len]
theorem byt_l (L : List S41) (hL : ∀ p ∈ L, Upt p) (hn : L.length ≤ 50000) (v : S29) (hv : Us v.f3) (x0 x1 x2 : Int) (x3 : List S41) (x4 x5 : Bool) (x6 x7 x12 : Int) : ∀ (q i k : Nat) (A : List Nat), i + q = L.length → q + 20 ≤ k → A.length = 15 + 48 * i →
    head_Bytes.l0 k (ints A) L (L.length : Int) (i : Int) x0 x1 x2 x3 x4 x5 x6 x7 v.f3.f0.f0 v.f3.f0.f1 v.f3.f1.f0 v.f3.f1.f1 x12 = some (ints (A ++ ((L.drop i).flatMap pt ++ st v.f3)), 0) := by
  have soc : ∀ (s : S27) (k : Nat), Us s → 17 ≤ k → seal_Octets.f k s.f0.f0 s.f0.f1 s.f1.f0 s.f1.f1 = some (ints (st s)) := by
    intro s k ⟨⟨a0, _⟩, ⟨b0, _⟩, ⟨c0, _⟩, ⟨d0, _⟩⟩ hk
    have := soct_eq s.f0.f0.toNat s.f0.f1.toNat s.f1.f0.toNat s.f1.f1.toNat hk
    rw [Int.toNat_of_nonneg a0, Int.toNat_of_nonneg b0, Int.toNat_of_nonneg c0, Int.toNat_of_nonneg d0] at this
    exact this
  intro q
  induction q with
  | zero =>
    intro i k A hi hk hA
    obtain ⟨k, rfl⟩ : ∃ m, k = m + 1 := ⟨k - 1, by omega⟩
    rw [head_Bytes.l0, if_neg (by omega), soc v.f3 k hv (by omega), bnd, if_pos (by rw [ints_len, ints_len, st_len]; omega), ints_app, List.drop_of_length_le (by omega)]
    rfl
  | succ q ih =>
    intro i k A hi hk hA
    obtain ⟨k, rfl⟩ : ∃ m, k = m + 1 := ⟨k - 1, by omega⟩
    have hlt : i < L.length := by omega
    obtain ⟨⟨p00, p01⟩, ⟨p10, p11⟩, us⟩ := hL _ (List.getElem_mem hlt)
    have r1 : rd_T41 L (i : Int) = L[i] := by unfold rd_T41; simp [List.getD_eq_getElem?_getD, hlt]
    have e0 : L[i].f0.f0 = ((L[i].f0.f0.toNat : Nat) : Int) := (Int.toNat_of_nonneg p00).symm
    have e1 : L[i].f0.f1 = ((L[i].f0.f1.toNat : Nat) : Int) := (Int.toNat_of_nonneg p10).symm
    have h1 := hput_eq (n := L[i].f0.f0.toNat) (o := 8) A (by decide) (by omega) (by omega) (k := k) (by omega)
    have h2 := hput_eq (n := L[i].f0.f1.toNat) (o := 8) (A ++ oct L[i].f0.f0.toNat 8) (by decide) (by omega) (by rw [List.length_append, oct_len]; omega) (k := k) (by omega)
    rw [← e0] at h1; rw [← e1] at h2
    rw [head_Bytes.l0, if_pos (by omega), if_pos (by omega), if_pos (by omega), r1]
    rw [show ((8 : Nat) : Int) = 8 from rfl] at h1 h2
    rw [h1, bnd, h2, bnd, soc _ k us (by omega), bnd, if_pos (by rw [ints_len, ints_len, st_len, List.length_append, List.length_append, oct_len, oct_len]; omega), ints_app, w64 (by omega) (by omega), show (i : Int) + 1 = ((i + 1 : Nat) : Int) by omega]
    have ea : A ++ oct L[i].f0.f0.toNat 8 ++ oct L[i].f0.f1.toNat 8 ++ st L[i].f1.f3 = A ++ pt L[i] := by simp [pt, List.append_assoc]
    rw [ea, ih (i + 1) k _ (by omega) (by omega) (by rw [List.length_append, pt_len]; omega), List.drop_eq_getElem_cons hlt, List.flatMap_cons]
    simp only [List.append_assoc]
open Classical in
theorem Bytes_eq (s h e : Int) (L : List S41) (v : S29) (hL : ∀ p ∈ L, Upt p) (hv : Us v.f3) (hn : L.length ≤ 50000) {k : Nat} (hk : L.length + 40 ≤ k) :
    head_Bytes.f k s h e L v.f0 v.f1 v.f2.f0 v.f2.f1 v.f3.f0.f0 v.f3.f0.f1 v.f3.f1.f0 v.f3.f1.f1 v.f4 = some (if Ck s h e L v then (ints (text s h e L v), 0) else ([], 1)) := by
  unfold head_Bytes.f
  rw [Check_eq s h e L v hL hn (by omega), bnd]
  by_cases c : Ck s h e L v
  · obtain ⟨⟨h1, h2⟩, cs, e1, e2, _, _⟩ := id c
    have ⟨s1, s2⟩ := (sch_iff s).1 cs
    rw [if_pos c, if_pos rfl, if_pos c]
    have we : IntKind.u64.wrap e = ((e.toNat : Nat) : Int) := by rw [wu64 (by omega) (by omega)]; omega
    have wl : IntKind.u64.wrap (L.length : Int) = ((L.length : Nat) : Int) := wu64 (by omega) (by omega)
    have e3 : [1, s % 256, h % 256] = ints [1, s.toNat % 256, h.toNat % 256] := by
      unfold ints; simp; omega
    have p1 := hput_eq (n := e.toNat) (o := 8) [1, s.toNat % 256, h.toNat % 256] (by decide) (by omega) (by simp) (k := k) (by omega)
    have p2 := hput_eq (n := L.length) (o := 4) ([1, s.toNat % 256, h.toNat % 256] ++ oct e.toNat 8) (by decide) (by omega) (by simp [oct_len]) (k := k) (by omega)
    rw [show ((8 : Nat) : Int) = 8 from rfl] at p1
    rw [show ((4 : Nat) : Int) = 4 from rfl] at p2
    rw [we, e3, p1, bnd, wl, p2, bnd]
    have := byt_l L hL hn v hv s h e L v.f0 v.f1 v.f2.f0 v.f2.f1 v.f4 L.length 0 k ([1, s.toNat % 256, h.toNat % 256] ++ oct e.toNat 8 ++ oct L.length 4) (by omega) (by omega) (by simp [oct_len])
    rw [show ((0 : Nat) : Int) = 0 from rfl, List.drop_zero] at this
    rw [this]
    simp only [text, front, List.append_assoc]
  · rw [if_neg c, if_neg (by decide), if_neg c]
theorem str_ints (a : List Nat) : (strOfNums (ints a)).toList = a.map UInt8.ofNat := by
  unfold strOfNums
  rw [Go.ByteArray.toList_mk]; unfold ints; rw [List.map_map]; rfl
theorem map8_inj : ∀ (a b : List Nat), (∀ c ∈ a, c < 256) → (∀ c ∈ b, c < 256) → a.map UInt8.ofNat = b.map UInt8.ofNat → a = b
  | [], [], _, _, _ => rfl
  | [], _ :: _, _, _, h => by simp at h
  | _ :: _, [], _, _, h => by simp at h
  | x :: a, y :: b, ha, hb, h => by
    rw [List.map_cons, List.map_cons, List.cons.injEq] at h
    have hx := ha x List.mem_cons_self
    have hy := hb y List.mem_cons_self
    have e := congrArg UInt8.toNat h.1
    rw [UInt8.toNat_ofNat', UInt8.toNat_ofNat'] at e
    rw [map8_inj a b (fun c hc => ha c (List.mem_cons_of_mem _ hc)) (fun c hc => hb c (List.mem_cons_of_mem _ hc)) h.2, show x = y by omega]
theorem str_beq (a b : List Nat) (ha : ∀ c ∈ a, c < 256) (hb : ∀ c ∈ b, c < 256) : ((strOfNums (ints a)).toList == (strOfNums (ints b)).toList) = decide (a = b) := by
  rw [str_ints, str_ints, Bool.eq_iff_iff, beq_iff_eq, decide_eq_true_iff]
  exact ⟨map8_inj a b ha hb, fun e => by rw [e]⟩
theorem bEqual_eq (a b : List Nat) (ha : ∀ c ∈ a, c < 256) (hb : ∀ c ∈ b, c < 256) : bytes_Equal.f (ints a) (ints b) = some (decide (a = b)) := by
  unfold bytes_Equal.f
  rw [str_beq a b ha hb]
theorem ints_of8 (l : List Int) (h : ∀ x ∈ l, (Lit.int .u8 x).wf = true) : ∃ m : List Nat, l = ints m ∧ ∀ x ∈ m, x < 256 := by
  induction l with
  | nil => exact ⟨[], rfl, by simp⟩
  | cons x l ih =>
    obtain ⟨m, rfl, hm⟩ := ih fun y hy => h y (List.mem_cons_of_mem _ hy)
    have hx := h x List.mem_cons_self
    have h0 : IntKind.u8.min = 0 := by decide
    have h1 : IntKind.u8.max = 255 := by decide
    simp [Lit.wf, h0, h1] at hx
    obtain ⟨n, rfl⟩ := Int.eq_ofNat_of_zero_le hx.1
    refine ⟨n :: m, rfl, fun y hy => ?_⟩
    rcases List.mem_cons.1 hy with rfl | hy
    · omega
    · exact hm y hy
def n8 (l : List Nat) (i : Nat) : Int := (nm ((l.drop i).take 8) : Int)
def slv (l : List Nat) : S29 := ⟨false, true, ⟨0, 0⟩, ⟨⟨n8 l 0, n8 l 8⟩, ⟨n8 l 16, n8 l 24⟩⟩, 0⟩
def mkp (l : List Nat) : S41 := ⟨⟨n8 l 0, n8 l 8⟩, slv (l.drop 16)⟩
def hprs : Nat → List Nat → List S41
  | 0, _ => []
  | m + 1, l => mkp l :: hprs m (l.drop 48)
theorem hprs_len : ∀ (m : Nat) (l : List Nat), (hprs m l).length = m
  | 0, _ => rfl
  | m + 1, l => by rw [hprs, List.length_cons, hprs_len m]
theorem n8_U {l : List Nat} (hl : ∀ x ∈ l, x < 256) (i : Nat) : U (n8 l i) := by
  have h := nm_lt ((l.drop i).take 8) fun y hy => hl y (List.mem_of_mem_drop (List.mem_of_mem_take hy))
  have : 256 ^ ((l.drop i).take 8).length ≤ 256 ^ 8 := Nat.pow_le_pow_right (by decide) (by rw [List.length_take]; omega)
  have p : (256 : Nat) ^ 8 = 18446744073709551616 := by decide
  unfold n8; exact ⟨by omega, by omega⟩
theorem slv_U {l : List Nat} (hl : ∀ x ∈ l, x < 256) : Us (slv l).f3 := ⟨n8_U hl _, n8_U hl _, n8_U hl _, n8_U hl _⟩
theorem hprs_U : ∀ (m : Nat) (l : List Nat), (∀ x ∈ l, x < 256) → ∀ p ∈ hprs m l, Upt p
  | 0, _, _ => by simp [hprs]
  | m + 1, l, hl => by
    intro p hp
    rw [hprs] at hp
    rcases List.mem_cons.1 hp with rfl | hp
    · exact ⟨n8_U hl _, n8_U hl _, slv_U fun y hy => hl y (List.mem_of_mem_drop hy)⟩
    · exact hprs_U m _ (fun y hy => hl y (List.mem_of_mem_drop hy)) p hp
theorem n8_num {l : List Nat} (hl : ∀ x ∈ l, x < 256) (i : Nat) {k : Nat} (hk : 9 ≤ k) : hr_num.l0 k (((ints l).drop i).take 8) 0 0 = some (n8 l i) := by
  rw [ints_drop, ints_take]
  exact hnum_eq (by rw [List.length_take]; omega) (fun y hy => hl y (List.mem_of_mem_drop (List.mem_of_mem_take hy))) hk
theorem slv_eq {l : List Nat} (h32 : 32 ≤ l.length) (hl : ∀ x ∈ l, x < 256) {k : Nat} (hk : 17 ≤ k) : hr_val k (ints l) = some ((slv l).f3.f0.f0, (slv l).f3.f0.f1, (slv l).f3.f1.f0, (slv l).f3.f1.f1) := by
  rw [hval_eq h32 hl hk]; rfl
theorem parts_l : ∀ (m : Nat) (l : List Nat) (L : List S41) (k : Nat), l.length = 48 * m + 32 → (∀ x ∈ l, x < 256) → m + 30 ≤ k → L.length + m ≤ 100000 →
    head_From.l0 k (ints l) L = some (ints (l.drop (48 * m)), L ++ hprs m l)
  | 0, l, L, k, h, hl, hk, hL => by
    obtain ⟨k, rfl⟩ : ∃ m, k = m + 1 := ⟨k - 1, by omega⟩
    rw [head_From.l0, if_neg (by rw [ints_len]; omega), if_pos (by rw [ints_len]; omega), hprs]; simp
  | m + 1, l, L, k, h, hl, hk, hL => by
    obtain ⟨k, rfl⟩ : ∃ m, k = m + 1 := ⟨k - 1, by omega⟩
    have h1 := n8_num hl 0 (k := k) (by omega)
    rw [List.drop_zero] at h1
    rw [head_From.l0, if_pos (by rw [ints_len]; omega), if_pos (by rw [ints_len]; omega), h1, bnd, n8_num hl 8 (by omega), bnd, ints_drop, slv_eq (by rw [List.length_drop]; omega) (fun y hy => hl y (List.mem_of_mem_drop hy)) (by omega), bnd, if_pos (by omega), ints_drop]
    have := parts_l m (l.drop 48) (L ++ [mkp l]) k (by rw [List.length_drop]; omega) (fun y hy => hl y (List.mem_of_mem_drop hy)) (by omega) (by simp; omega)
    rw [List.drop_drop, show 48 + 48 * m = 48 * (m + 1) by omega] at this
    rw [hprs]
    refine Eq.trans ?_ (this.trans ?_)
    · rfl
    · simp
theorem so_lt (a b : Nat) : ∀ c ∈ so a b, c < 256 := by
  intro c hc
  rcases List.mem_append.1 hc with h | h
  · exact oct_lt _ _ c h
  · exact oct_lt _ _ c h
theorem st_lt (s : S27) : ∀ c ∈ st s, c < 256 := by
  intro c hc
  rcases List.mem_append.1 hc with h | h
  · exact so_lt _ _ c h
  · exact so_lt _ _ c h
theorem pt_lt (p : S41) : ∀ c ∈ pt p, c < 256 := by
  intro c hc
  unfold pt at hc
  rcases List.mem_append.1 hc with h | h
  · exact oct_lt _ _ c h
  · rcases List.mem_append.1 h with h | h
    · exact oct_lt _ _ c h
    · exact st_lt _ c h
theorem text_lt (s h e : Int) (L : List S41) (v : S29) : ∀ c ∈ text s h e L v, c < 256 := by
  intro c hc
  unfold text at hc
  rcases List.mem_append.1 hc with h | h
  · unfold front at h
    rcases List.mem_append.1 h with h | h
    · simp at h; omega
    · rcases List.mem_append.1 h with h | h
      · exact oct_lt _ _ c h
      · exact oct_lt _ _ c h
  · rcases List.mem_append.1 h with h | h
    · obtain ⟨p, _, hp⟩ := List.mem_flatMap.1 h; exact pt_lt p c hp
    · exact st_lt _ c h
def scm (b : List Nat) : Int := (nm ((b.drop 1).take 1) : Int)
def hgt (b : List Nat) : Int := (nm ((b.drop 2).take 1) : Int)
def epo (b : List Nat) : Int := wrap64 (n8 b 3)
def Rd (m : Nat) (b : List Nat) : Prop := Ck (scm b) (hgt b) (epo b) (hprs m (b.drop 15)) (slv (b.drop (15 + 48 * m))) ∧ text (scm b) (hgt b) (epo b) (hprs m (b.drop 15)) (slv (b.drop (15 + 48 * m))) = b
abbrev Res := Int × Int × Int × List S41 × Bool × Bool × Int × Int × Int × Int × Int × Int × Int × Int
abbrev resOf (s h e : Int) (L : List S41) (v : S29) : Res := (s, h, e, L, v.f0, v.f1, v.f2.f0, v.f2.f1, v.f3.f0.f0, v.f3.f0.f1, v.f3.f1.f0, v.f3.f1.f1, v.f4, 0)
abbrev resNo (c : Int) : Res := (0, 0, 0, [], false, false, 0, 0, 0, 0, 0, 0, 0, c)
theorem one_num {b : List Nat} (hb : ∀ x ∈ b, x < 256) (i : Nat) {k : Nat} (hk : 9 ≤ k) : hr_num.l0 k (((ints b).drop i).take 1) 0 0 = some (nm ((b.drop i).take 1) : Int) ∧ wrap64 (nm ((b.drop i).take 1) : Int) = (nm ((b.drop i).take 1) : Int) := by
  have hl : ((b.drop i).take 1).length ≤ 1 := by rw [List.length_take]; omega
  have hx : ∀ x ∈ (b.drop i).take 1, x < 256 := fun y hy => hb y (List.mem_of_mem_drop (List.mem_of_mem_take hy))
  have h := nm_lt _ hx
  have : 256 ^ ((b.drop i).take 1).length ≤ 256 ^ 1 := Nat.pow_le_pow_right (by decide) hl
  rw [ints_drop, ints_take]
  exact ⟨hnum_eq (by omega) hx hk, w64 (by omega) (by omega)⟩
open Classical in
theorem From_eq (b : List Nat) (hb : ∀ x ∈ b, x < 256) (m : Nat) (hm : b.length = 47 + 48 * m) (hl : b.length ≤ 2097152) {k : Nat} (hk : m + 80 ≤ k) :
    head_From.f k (ints b) = some (if Rd m b then resOf (scm b) (hgt b) (epo b) (hprs m (b.drop 15)) (slv (b.drop (15 + 48 * m))) else resNo 2) := by
  have hb15 : ∀ x ∈ b.drop 15, x < 256 := fun y hy => hb y (List.mem_of_mem_drop hy)
  have hbm : ∀ x ∈ b.drop (15 + 48 * m), x < 256 := fun y hy => hb y (List.mem_of_mem_drop hy)
  unfold head_From.f
  rw [if_neg (by rw [ints_len]; omega), if_neg (by rw [ints_len]; omega), if_pos (by rw [ints_len, Int.tmod_eq_emod_of_nonneg (by omega)]; omega)]
  unfold head_From.g
  rw [(one_num hb 1 (by omega)).1, bnd, (one_num hb 2 (by omega)).1, bnd, n8_num hb 3 (by omega), bnd, ints_drop, parts_l m (b.drop 15) [] k (by rw [List.length_drop]; omega) hb15 (by omega) (by simp; omega), bnd]
  dsimp only
  rw [List.drop_drop, slv_eq (by rw [List.length_drop]; omega) hbm (by omega), bnd, (one_num hb 1 (k := k) (by omega)).2, (one_num hb 2 (k := k) (by omega)).2, List.nil_append]
  have B := Bytes_eq (scm b) (hgt b) (epo b) (hprs m (b.drop 15)) (slv (b.drop (15 + 48 * m))) (hprs_U m _ hb15) (slv_U hbm) (by rw [hprs_len]; omega) (k := k) (by rw [hprs_len]; omega)
  have B' : head_Bytes.f k (scm b) (hgt b) (epo b) (hprs m (b.drop 15)) false true 0 0 (slv (b.drop (15 + 48 * m))).f3.f0.f0 (slv (b.drop (15 + 48 * m))).f3.f0.f1 (slv (b.drop (15 + 48 * m))).f3.f1.f0 (slv (b.drop (15 + 48 * m))).f3.f1.f1 0 = _ := B
  refine Eq.trans (congrArg (fun z => Option.bind z _) B') ?_
  rw [bnd]
  by_cases c : Ck (scm b) (hgt b) (epo b) (hprs m (b.drop 15)) (slv (b.drop (15 + 48 * m)))
  · rw [if_pos c]
    dsimp only
    rw [if_pos rfl, bEqual_eq _ _ (text_lt _ _ _ _ _) hb, bnd]
    by_cases d : text (scm b) (hgt b) (epo b) (hprs m (b.drop 15)) (slv (b.drop (15 + 48 * m))) = b
    · rw [if_pos (show Rd m b from ⟨c, d⟩), if_pos (decide_eq_true d)]; rfl
    · rw [if_neg (show ¬ Rd m b from fun z => d z.2), if_neg (by rw [decide_eq_false d]; decide)]
  · rw [if_neg c]
    dsimp only
    rw [if_neg (by decide), if_neg (show ¬ Rd m b from fun z => c z.1)]
theorem From_no (b : List Nat) (h : b.length < 47 ∨ (b.length - 47) % 48 ≠ 0) (hl : b.length ≤ 2097152) (k : Nat) : head_From.f k (ints b) = some (resNo 2) := by
  unfold head_From.f
  rw [if_neg (by rw [ints_len]; omega)]
  by_cases c : b.length < 47
  · rw [if_pos (by rw [ints_len]; omega)]
  · rw [if_neg (by rw [ints_len]; omega), if_neg (by rw [ints_len, Int.tmod_eq_emod_of_nonneg (by omega)]; omega)]
theorem part_ne (p q : S41) : ((!((p.f0.f0) == (q.f0.f0)) || (!((p.f0.f1) == (q.f0.f1)))) || ((!((p.f1.f0) == (q.f1.f0)) || (!((p.f1.f1) == (q.f1.f1)) || ((!((p.f1.f2.f0) == (q.f1.f2.f0)) || (!((p.f1.f2.f1) == (q.f1.f2.f1)))) || (((!((p.f1.f3.f0.f0) == (q.f1.f3.f0.f0)) || (!((p.f1.f3.f0.f1) == (q.f1.f3.f0.f1)))) || ((!((p.f1.f3.f1.f0) == (q.f1.f3.f1.f0)) || (!((p.f1.f3.f1.f1) == (q.f1.f3.f1.f1)))))) || (!((p.f1.f4) == (q.f1.f4))))))))) = true ↔ p ≠ q := by
  rcases p with ⟨⟨a, b⟩, ⟨c, d, ⟨e, f⟩, ⟨⟨g, h⟩, ⟨i, j⟩⟩, l⟩⟩
  rcases q with ⟨⟨a', b'⟩, ⟨c', d', ⟨e', f'⟩, ⟨⟨g', h'⟩, ⟨i', j'⟩⟩, l'⟩⟩
  simp only [S41.mk.injEq, S39.mk.injEq, S29.mk.injEq, S25.mk.injEq, S27.mk.injEq, Bool.or_eq_true, Bool.not_eq_true', beq_eq_false_iff_ne, ne_eq, Classical.not_and_iff_not_or_not]
open Classical in
theorem parts_same_l (L M : List S41) (hl : L.length = M.length) (hn : L.length ≤ 50000) : ∀ (q i k : Nat), i + q = L.length → q < k →
    api_Part.l0 k L M (L.length : Int) (i : Int) = some (decide (L.drop i = M.drop i)) := by
  intro q
  induction q with
  | zero =>
    intro i k hi hk
    obtain ⟨k, rfl⟩ : ∃ m, k = m + 1 := ⟨k - 1, by omega⟩
    rw [api_Part.l0, if_neg (by omega), List.drop_of_length_le (by omega), List.drop_of_length_le (by omega)]; simp
  | succ q ih =>
    intro i k hi hk
    obtain ⟨k, rfl⟩ : ∃ m, k = m + 1 := ⟨k - 1, by omega⟩
    have h1 : i < L.length := by omega
    have h2 : i < M.length := by omega
    have r1 : rd_T41 L (i : Int) = L[i] := by unfold rd_T41; simp [List.getD_eq_getElem?_getD, h1]
    have r2 : rd_T41 M (i : Int) = M[i] := by unfold rd_T41; simp [List.getD_eq_getElem?_getD, h2]
    rw [api_Part.l0, if_pos (by omega), if_pos (by omega), if_pos (by omega), if_pos (by omega), r1, r2, List.drop_eq_getElem_cons h1, List.drop_eq_getElem_cons h2]
    by_cases c : L[i] = M[i]
    · rw [if_neg (fun z => (part_ne _ _).1 z c), w64 (by omega) (by omega), show (i : Int) + 1 = ((i + 1 : Nat) : Int) by omega, ih (i + 1) k (by omega) (by omega)]
      congr 1
      rw [decide_eq_decide, List.cons.injEq]
      exact ⟨fun z => ⟨c, z⟩, fun z => z.2⟩
    · rw [if_pos ((part_ne _ _).2 c), decide_eq_false (fun z => c (List.cons.inj z).1)]
open Classical in
theorem parts_same (L M : List S41) (hn : L.length ≤ 50000) {k : Nat} (hk : L.length < k) : api_Part.f k L M = some (decide (L = M)) := by
  unfold api_Part.f
  by_cases c : L.length = M.length
  · rw [if_pos (by omega)]
    have := parts_same_l L M c hn L.length 0 k (by omega) hk
    rw [List.drop_zero, List.drop_zero] at this
    exact this
  · rw [if_neg (by omega), decide_eq_false (fun z => c (by rw [z]))]
open Classical in
theorem Same_eq (s h e s' h' e' : Int) (L L' : List S41) (v v' : S29) (hn : L.length ≤ 50000) {k : Nat} (hk : L.length < k) :
    head_Same.f k s h e L v.f0 v.f1 v.f2.f0 v.f2.f1 v.f3.f0.f0 v.f3.f0.f1 v.f3.f1.f0 v.f3.f1.f1 v.f4 s' h' e' L' v'.f0 v'.f1 v'.f2.f0 v'.f2.f1 v'.f3.f0.f0 v'.f3.f0.f1 v'.f3.f1.f0 v'.f3.f1.f1 v'.f4 = some (decide (s = s' ∧ h = h' ∧ e = e' ∧ L = L' ∧ v = v')) := by
  unfold head_Same.f
  rw [parts_same L L' hn hk]; simp only [bnd]
  rcases v with ⟨c, d, ⟨e1, f⟩, ⟨⟨g, h1⟩, ⟨i, j⟩⟩, l⟩
  rcases v' with ⟨c', d', ⟨e1', f'⟩, ⟨⟨g', h1'⟩, ⟨i', j'⟩⟩, l'⟩
  simp only [S29.mk.injEq, S25.mk.injEq, S27.mk.injEq, Bool.and_eq_true, beq_iff_eq]
  by_cases a1 : s = s'
  · by_cases a2 : h = h'
    · by_cases a3 : e = e'
      · rw [if_pos a1, if_pos a2, if_pos a3]
        split
        · rename_i z
          obtain ⟨z1, z2, ⟨z3, z4⟩, ⟨⟨z5, z6⟩, z7, z8⟩, z9⟩ := z
          congr 1
          by_cases a4 : L = L'
          · simp [a1, a2, a3, a4, z1, z2, z3, z4, z5, z6, z7, z8, z9]
          · simp [a4]
        · rename_i z
          congr 1
          refine (decide_eq_false ?_).symm
          rintro ⟨_, _, _, _, z1, z2, ⟨z3, z4⟩, ⟨⟨z5, z6⟩, z7, z8⟩, z9⟩
          exact z ⟨z1, z2, ⟨z3, z4⟩, ⟨⟨z5, z6⟩, z7, z8⟩, z9⟩
      · rw [if_pos a1, if_pos a2, if_neg a3, decide_eq_false (fun z => a3 z.2.2.1)]
    · rw [if_pos a1, if_neg a2, decide_eq_false (fun z => a2 z.2.1)]
  · rw [if_neg a1, decide_eq_false (fun z => a1 z.1)]
theorem power_l (d : Nat) (hd : d ≤ 63) : ∀ (m i k : Nat), i + m = d → m < k → medlarref01_power.l0 k ((2 ^ i : Nat) : Int) (d : Int) (i : Int) = some ((2 ^ d : Nat) : Int) := by
  intro m
  induction m with
  | zero =>
    intro i k hi hk
    obtain ⟨k, rfl⟩ : ∃ m, k = m + 1 := ⟨k - 1, by omega⟩
    simp only [medlarref01_power.l0]
    rw [if_neg (by omega)]
    rw [show i = d by omega]
  | succ m ih =>
    intro i k hi hk
    obtain ⟨k, rfl⟩ : ∃ m, k = m + 1 := ⟨k - 1, by omega⟩
    have hp : 2 ^ (i + 1) ≤ 2 ^ 63 := pow_mono (by omega)
    have hs : 2 ^ (i + 1) = 2 * 2 ^ i := by rw [Nat.pow_succ, Nat.mul_comm]
    simp only [medlarref01_power.l0]
    rw [if_pos (by omega), w64 (by omega) (by omega), wu64 (by omega) (by omega), show 2 * ((2 ^ i : Nat) : Int) = ((2 ^ (i + 1) : Nat) : Int) by omega, show (i : Int) + 1 = ((i + 1 : Nat) : Int) by omega]
    exact ih (i + 1) k (by omega) (by omega)
theorem power_eq {d k : Nat} (hd : d ≤ 63) (hk : 64 ≤ k) : medlarref01_power.f k (d : Int) = some ((2 ^ d : Nat) : Int) := by
  unfold medlarref01_power.f
  have := power_l d hd d 0 k (by omega) (by omega)
  simpa using this
theorem nd_lt {h n : Nat} : Nd h n ↔ 1 ≤ h ∧ h ≤ 32 ∧ 1 ≤ n ∧ n < 2 ^ (h + 1) := by
  rw [nd_iff]
  constructor
  · rintro ⟨a, b, c, d⟩; exact ⟨a, b, by omega, (Nat.log2_lt c).1 (by omega)⟩
  · rintro ⟨a, b, c, d⟩; exact ⟨a, b, by omega, by have := (Nat.log2_lt (n := n) (by omega)).2 d; omega⟩
theorem may_eq (h : Int) (n : Nat) {k : Nat} (hk : 64 ≤ k) : medlarref01_May.f k h (n : Int) = some (decide (Nd h.toNat n)) := by
  unfold medlarref01_May.f
  by_cases h1 : h ≥ 1
  · rw [if_pos h1]
    by_cases h2 : h ≤ 32
    · rw [if_pos h2]
      by_cases h3 : (n : Int) ≥ 1
      · rw [if_pos h3, w64 (by omega) (by omega), show h + 1 = ((h.toNat + 1 : Nat) : Int) by omega, power_eq (by omega) hk]
        simp only [Option.bind_some]
        congr 1
        rw [decide_eq_decide, nd_lt]
        have : ((n : Int) < ((2 ^ (h.toNat + 1) : Nat) : Int)) ↔ n < 2 ^ (h.toNat + 1) := Int.ofNat_lt
        rw [this]; omega
      · rw [if_neg h3]; congr 1; symm; rw [decide_eq_false_iff_not, nd_iff]; omega
    · rw [if_neg h2]; congr 1; symm; rw [decide_eq_false_iff_not, nd_iff]; omega
  · rw [if_neg h1]; congr 1; symm; rw [decide_eq_false_iff_not, nd_iff]; omega
theorem tdiv2 (n : Nat) : IntKind.u64.wrap (Int.tdiv (n : Int) 2) = ((n / 2 % 18446744073709551616 : Nat) : Int) := by
  have : IntKind.u64.wrap (Int.tdiv (n : Int) 2) = (Int.tdiv (n : Int) 2) % 18446744073709551616 := rfl
  rw [this, Int.tdiv_eq_ediv_of_nonneg (by omega)]; omega
theorem chain_eq : ∀ (k n : Nat), n ≠ 0 → n < 18446744073709551616 → n.log2 < k → medlarref01_Chain.f k (n : Int) = some (ints (chn n)) := by
  intro k
  induction k with
  | zero => intro n _ _ h; omega
  | succ k ih =>
    intro n h0 hn hk
    simp only [medlarref01_Chain.f]
    by_cases h1 : n = 1
    · subst h1; rw [if_pos (by rfl), chn_one]; rfl
    · have hl := log2_half (n := n) (by omega)
      have := log2_64 hn
      rw [if_neg (by omega), tdiv2, show n / 2 % 18446744073709551616 = n / 2 by omega, ih (n / 2) (by omega) (by omega) (by omega)]
      simp only [Option.bind_some]
      rw [ints_len, chn_len, if_pos (by omega), chn_snoc (n := n) (by omega)]
      simp [ints]
theorem is_l (a : Nat) (l : List Nat) (hl : l.length < 1000) : ∀ (m i k : Nat), i + m = l.length → m < k → medlarref01_Is.l0 k (a : Int) (ints l) (l.length : Int) (i : Int) = some (decide (a ∈ l.drop i)) := by
  intro m
  induction m with
  | zero =>
    intro i k hi hk
    obtain ⟨k, rfl⟩ : ∃ m, k = m + 1 := ⟨k - 1, by omega⟩
    simp only [medlarref01_Is.l0]
    rw [if_neg (by omega), List.drop_of_length_le (by omega)]; simp
  | succ m ih =>
    intro i k hi hk
    obtain ⟨k, rfl⟩ : ∃ m, k = m + 1 := ⟨k - 1, by omega⟩
    simp only [medlarref01_Is.l0]
    rw [if_pos (by omega), if_pos (by omega), if_pos (by rw [ints_len]; omega), ints_rd (by omega), List.drop_eq_getElem_cons (by omega)]
    by_cases h : l[i] = a
    · rw [if_pos (by omega)]; simp [h]
    · rw [if_neg (by omega), w64 (by omega) (by omega), show (i : Int) + 1 = ((i + 1 : Nat) : Int) by omega, ih (i + 1) k (by omega) (by omega)]
      congr 1; rw [decide_eq_decide, List.mem_cons]
      constructor
      · intro x; exact .inr x
      · rintro (x | x)
        · exact absurd x.symm h
        · exact x
theorem is_eq (a : Nat) {b : Nat} (hb0 : b ≠ 0) (hb : b < 18446744073709551616) {k : Nat} (hk : 70 ≤ k) : medlarref01_Is.f k (a : Int) (b : Int) = some (decide (Abv a b)) := by
  have h2 := log2_64 hb
  unfold medlarref01_Is.f
  rw [chain_eq k b hb0 hb (by omega)]; simp only [Option.bind_some]
  rw [ints_len]
  have := is_l a (chn b) (by rw [chn_len]; omega) (chn b).length 0 k (by omega) (by rw [chn_len]; omega)
  rw [show ((0 : Nat) : Int) = 0 by rfl] at this
  rw [this, List.drop_zero]
  congr 1; rw [decide_eq_decide, mem_chn hb0]
theorem rCheck8_eq (h : Int) {i j : Nat} (hi : i < 18446744073709551616) (hj : j < 18446744073709551616) {k : Nat} (hk : 70 ≤ k) :
    medlarref08_Check.f k h (i : Int) (j : Int) = some (if Sb h.toNat i j then 0 else 1) := by
  unfold medlarref08_Check.f
  rw [may_eq h i (by omega)]; simp only [Option.bind_some]
  by_cases h1 : Nd h.toNat i
  · rw [decide_eq_true h1, if_pos rfl]
    by_cases h0 : j = 0
    · rw [if_pos (by omega), if_pos ⟨h1, .inl h0⟩]
    · rw [if_neg (by omega), may_eq h j (by omega)]; simp only [Option.bind_some]
      by_cases h2 : Nd h.toNat j
      · rw [decide_eq_true h2, if_pos rfl]
        by_cases h3 : i = j
        · rw [if_pos (by omega), if_neg (fun z => z.2.elim h0 (fun y => y.2.1 h3))]
        · rw [if_neg (by omega), is_eq i h0 hj hk]; simp only [Option.bind_some]
          by_cases h4 : Abv i j
          · rw [decide_eq_true h4, if_pos rfl, if_pos ⟨h1, .inr ⟨h2, h3, h4⟩⟩]
          · rw [decide_eq_false h4, if_neg (by simp), if_neg (fun z => z.2.elim h0 (fun y => h4 y.2.2))]
      · rw [decide_eq_false h2, if_neg (by simp), if_neg (fun z => z.2.elim h0 (fun y => h2 y.1))]
  · rw [decide_eq_false h1, if_neg (by simp), if_neg (fun z => h1 z.1)]
theorem stepL8_eq : ∀ h : Fin 33, 1 ≤ h.val → medlarref08_Step.l0 8 (h.val : Int) 1 = some ((stp h.val : Int), 0) := by decide +kernel
theorem rStep_eq (h : Int) {k : Nat} (hk : 10 ≤ k) : medlarref08_Step.f k h = some (if Hi h then ((stp h.toNat : Int), 0) else (0, 1)) := by
  obtain ⟨k, rfl⟩ : ∃ m, k = m + 1 := ⟨k - 1, by omega⟩
  unfold medlarref08_Step.f
  by_cases h1 : Hi h
  · rw [if_pos h1]
    rw [hi_iff] at h1
    rw [if_neg (by omega)]; simp only [medlarref08_Step.j0]
    rw [decide_eq_false (by omega), if_neg (by simp)]
    have := stepL8_eq ⟨h.toNat, by omega⟩ (by show 1 ≤ h.toNat; omega)
    have e : ((h.toNat : Nat) : Int) = h := by omega
    simp only [e] at this
    exact at_rounds (g := fun k => medlarref08_Step.l0 k h 1) (fun k => (medlarref08_Step.mono_l k).2 _ _) (show 8 ≤ k by omega) this
  · rw [if_neg h1]
    rw [hi_iff] at h1
    by_cases h2 : h < 1
    · rw [if_pos h2]; simp only [medlarref08_Step.j0, if_true]
    · rw [if_neg h2]; simp only [medlarref08_Step.j0]; rw [decide_eq_true (by omega), if_pos rfl]
theorem special_eq {h : Nat} (h1 : 1 ≤ h) (h2 : h ≤ 32) (d : Nat) {k : Nat} (hk : 10 ≤ k) : medlarref08_special.f k (h : Int) (d : Int) = some (decide (Spc h d)) := by
  unfold medlarref08_special.f
  have hs := stp_pos h
  rw [rStep_eq _ hk, if_pos (by rw [hi_iff]; omega)]; simp only [Option.bind_some, Int.toNat_natCast]
  rw [if_neg (by omega), tmod_cast]
  by_cases c : d % stp h = 0
  · rw [if_pos (by omega), decide_eq_true (.inl c)]
  · rw [if_neg (by omega)]; congr 1
    by_cases e : d = h
    · rw [decide_eq_true (.inr e), e]; simp
    · rw [decide_eq_false (fun z => z.elim c e), beq_eq_false_iff_ne]; omega
theorem rdepth_eq {n : Nat} (h0 : n ≠ 0) (hn : n < 18446744073709551616) {k : Nat} (hk : 70 ≤ k) : medlarref08_depth.f k (n : Int) = some (n.log2 : Int) := by
  have := log2_64 hn
  unfold medlarref08_depth.f
  rw [chain_eq k n h0 hn (by omega)]; simp only [Option.bind_some]
  rw [ints_len, chn_len, w64 (by omega) (by omega)]; congr 1; omega
theorem next_all : ∀ h : Fin 33, ∀ i : Fin 33, 1 ≤ h.val → i.val < h.val → medlarref08_next.l0 20 (h.val : Int) ((i.val + 1 : Nat) : Int) = some (nxt h.val i.val : Int) := by decide +kernel
theorem rnext_eq {h i : Nat} (h1 : 1 ≤ h) (h2 : h ≤ 32) (hi : i < h) {k : Nat} (hk : 20 ≤ k) : medlarref08_next.f k (h : Int) (i : Int) = some (nxt h i : Int) := by
  unfold medlarref08_next.f
  have := next_all ⟨h, by omega⟩ ⟨i, by omega⟩ h1 hi
  simp only at this
  rw [w64 (by omega) (by omega), show (i : Int) + 1 = ((i + 1 : Nat) : Int) by omega]
  exact at_rounds (g := fun k => medlarref08_next.l0 k (h : Int) ((i + 1 : Nat) : Int)) (fun k => (medlarref08_next.mono_l k) _ _) hk this
theorem rUseful_eq (h : Int) {i j : Nat} (hi : i < 18446744073709551616) (hj : j < 18446744073709551616) {k : Nat} (hk : 70 ≤ k) :
    medlarref08_Useful.f k h (i : Int) (j : Int) = some (if Sb h.toNat i j then (decide (Usf h.toNat i j), 0) else (false, 1)) := by
  unfold medlarref08_Useful.f
  rw [rCheck8_eq h hi hj hk]; simp only [Option.bind_some]
  by_cases h1 : Sb h.toNat i j
  · have e := sb_h h1
    rw [if_pos h1, if_pos rfl, if_pos h1]
    by_cases h0 : j = 0
    · subst h0
      rw [if_pos (by rfl)]; congr 2
      by_cases c : i = 1
      · rw [decide_eq_true ((usf_0 _ _).2 c), c]; rfl
      · rw [decide_eq_false (fun z => c ((usf_0 _ _).1 z)), beq_eq_false_iff_ne]; omega
    · have hu := usf_j h.toNat i h0
      rw [if_neg (by omega), rdepth_eq h1.1.2.2.1 hi hk]; simp only [Option.bind_some]
      have hh := h1.1
      rw [nd_iff] at hh
      have hsp := special_eq (h := h.toNat) hh.1 hh.2.1 i.log2 (k := k) (by omega)
      rw [e] at hsp
      rw [hsp]; simp only [Option.bind_some]
      by_cases c : Spc h.toNat i.log2
      · rw [decide_eq_true c, if_pos rfl, decide_eq_true (hu.2 (.inl c))]
      · have hn := rnext_eq (h := h.toNat) (i := i.log2) hh.1 hh.2.1 (Nat.lt_of_le_of_ne hh.2.2.2 (fun z => c (.inr z))) (k := k) (by omega)
        rw [e] at hn
        rw [decide_eq_false c, if_neg (by simp), hn]; simp only [Option.bind_some]
        rw [rdepth_eq h0 hj hk]; simp only [Option.bind_some]
        congr 2; rw [decide_eq_decide, hu]
        constructor
        · intro z; right; omega
        · rintro (z | z)
          · exact absurd z c
          · omega
  · rw [if_neg h1, if_neg (by omega), if_neg h1]
instance decS : DecidableEq S39 := fun a b =>
  if h : a.f0 = b.f0 ∧ a.f1 = b.f1 then .isTrue (by obtain ⟨a0, a1⟩ := a; obtain ⟨b0, b1⟩ := b; obtain ⟨rfl, rfl⟩ := h; rfl) else .isFalse (fun e => h (by rw [e]; exact ⟨rfl, rfl⟩))
theorem rLess_eq (i j a b : Nat) : medlarref08_Less.f (i : Int) (j : Int) (a : Int) (b : Int) = some (decide (Lss (i, j) (a, b))) := by
  unfold medlarref08_Less.f
  by_cases c1 : i < a
  · rw [if_pos (by omega), decide_eq_true (show Lss (i, j) (a, b) from .inl c1)]
  · rw [if_neg (by omega)]
    by_cases c2 : i = a
    · rw [if_pos (by omega)]; congr 1; rw [decide_eq_decide, lss_iff]; simp only; omega
    · rw [if_neg (by omega), decide_eq_false (show ¬ Lss (i, j) (a, b) by rw [lss_iff]; simp only; omega)]
theorem qput_l (o : Nat) (ho : o ≤ 8) : ∀ (q i k n : Nat) (A : List Nat), i + q = o → q < k → n < 18446744073709551616 → A.length ≤ i →
    medlarref16_put.l0 k (n : Int) (ints A) (o : Int) (i : Int) = some (ints (A ++ oct n q)) := by
  intro q
  induction q with
  | zero =>
    intro i k n A hi hk hn hA
    obtain ⟨k, rfl⟩ : ∃ m, k = m + 1 := ⟨k - 1, by omega⟩
    rw [medlarref16_put.l0, if_neg (by omega)]; simp [oct]
  | succ q ih =>
    intro i k n A hi hk hn hA
    obtain ⟨k, rfl⟩ : ∃ m, k = m + 1 := ⟨k - 1, by omega⟩
    rw [medlarref16_put.l0, if_pos (by omega), if_pos (by rw [ints_len]; omega), Int.tdiv_eq_ediv_of_nonneg (by omega), Int.tmod_eq_emod_of_nonneg (by omega), wu64 (by omega) (by omega), w64 (by omega) (by omega),
      show (n : Int) / 256 = ((n / 256 : Nat) : Int) by omega, show ((n : Int) % 256) % 256 = ((n % 256 : Nat) : Int) by omega, ints_one, ints_app, show (i : Int) + 1 = ((i + 1 : Nat) : Int) by omega,
      ih (i + 1) k (n / 256) (A ++ [n % 256]) (by omega) (by omega) (by omega) (by simp; omega), oct, List.append_assoc]
    rfl
theorem qput_eq {n o : Nat} (ho : o ≤ 8) (hn : n < 18446744073709551616) {k : Nat} (hk : 9 ≤ k) : medlarref16_put.f k (n : Int) (o : Int) = some (ints (oct n o)) := by
  unfold medlarref16_put.f
  have := qput_l o ho o 0 k n [] (by omega) (by omega) hn (by simp)
  rw [show (0 : Int) = ((0 : Nat) : Int) from rfl, ints_nil, this]; rfl
theorem qtake_l (c : List Nat) (h8 : c.length ≤ 8) (hc : ∀ x ∈ c, x < 256) : ∀ (q k : Nat), q ≤ c.length → q < k →
    medlarref16_take.l0 k (ints c) (nm (c.drop q) : Int) ((q : Int) - 1) = some (nm c : Int) := by
  have p9 : (256 : Nat) ^ 8 = 18446744073709551616 := by decide
  intro q
  induction q with
  | zero =>
    intro k hi hk
    obtain ⟨k, rfl⟩ : ∃ m, k = m + 1 := ⟨k - 1, by omega⟩
    rw [medlarref16_take.l0, if_neg (by omega), List.drop_zero]
  | succ q ih =>
    intro k hi hk
    obtain ⟨k, rfl⟩ : ∃ m, k = m + 1 := ⟨k - 1, by omega⟩
    have hlt : q < c.length := by omega
    have e : nm (c.drop q) = c[q] + 256 * nm (c.drop (q + 1)) := by rw [List.drop_eq_getElem_cons hlt, nm]
    have hx : nm (c.drop q) < 256 ^ 8 := by
      have := nm_lt (c.drop q) fun y hy => hc y (List.mem_of_mem_drop hy)
      exact Nat.lt_of_lt_of_le this (Nat.pow_le_pow_right (by decide) (by rw [List.length_drop]; omega))
    rw [medlarref16_take.l0, if_pos (by omega), if_pos (by omega), if_pos (by rw [ints_len]; omega), show ((q + 1 : Nat) : Int) - 1 = (q : Int) by omega, ints_rd hlt, wu64 (x := 256 * (nm (c.drop (q + 1)) : Int)) (by omega) (by omega),
      wu64 (x := ((c[q] : Nat) : Int)) (by omega) (by omega), wu64 (by omega) (by omega), w64 (by omega) (by omega), show 256 * (nm (c.drop (q + 1)) : Int) + ((c[q] : Nat) : Int) = ((nm (c.drop q) : Nat) : Int) by omega, ih k (by omega) (by omega)]
theorem qtake_eq {c : List Nat} (h8 : c.length ≤ 8) (hc : ∀ x ∈ c, x < 256) {k : Nat} (hk : 9 ≤ k) : medlarref16_take.f k (ints c) = some (nm c : Int) := by
  unfold medlarref16_take.f
  have := qtake_l c h8 hc c.length k (by omega) (by omega)
  rw [List.drop_length] at this
  rw [ints_len, w64 (by omega) (by omega)]; exact this
theorem qoct_l1 (l : List Int) (j : Int) (r : List Int) (c : Nat) : ∀ (q i k n : Nat) (A : List Nat), i + q = 8 → (∀ k', c ≤ k' → medlarref03_Octets.l0 k' (ints (A ++ oct n q)) l (wrap64 (j + 1)) = some r) → q + 1 + c ≤ k → n < 18446744073709551616 → A.length ≤ 1000 + i →
    medlarref03_Octets.l1 k (ints A) (n : Int) l j (i : Int) = some r := by
  intro q
  induction q with
  | zero =>
    intro i k n A hi hc hk hn hA
    obtain ⟨k, rfl⟩ : ∃ m, k = m + 1 := ⟨k - 1, by omega⟩
    have := hc k (by omega)
    rw [oct, List.append_nil] at this
    rw [medlarref03_Octets.l1, if_neg (by omega), this]
  | succ q ih =>
    intro i k n A hi hc hk hn hA
    obtain ⟨k, rfl⟩ : ∃ m, k = m + 1 := ⟨k - 1, by omega⟩
    rw [medlarref03_Octets.l1, if_pos (by omega), if_pos (by rw [ints_len]; omega), Int.tdiv_eq_ediv_of_nonneg (by omega), Int.tmod_eq_emod_of_nonneg (by omega), wu64 (by omega) (by omega), w64 (by omega) (by omega),
      show (n : Int) / 256 = ((n / 256 : Nat) : Int) by omega, show ((n : Int) % 256) % 256 = ((n % 256 : Nat) : Int) by omega, ints_one, ints_app, show (i : Int) + 1 = ((i + 1 : Nat) : Int) by omega]
    refine ih (i + 1) k (n / 256) (A ++ [n % 256]) (by omega) (fun k' hk' => ?_) (by omega) (by omega) (by simp; omega)
    have := hc k' hk'
    rw [oct] at this
    rw [List.append_assoc]; exact this
theorem qoct_eq {a b : Nat} (ha : a < 18446744073709551616) (hb : b < 18446744073709551616) {k : Nat} (hk : 40 ≤ k) : medlarref03_Octets.f k (a : Int) (b : Int) = some (ints (so a b)) := by
  obtain ⟨k, rfl⟩ : ∃ m, k = m + 1 := ⟨k - 1, by omega⟩
  unfold medlarref03_Octets.f medlarref03_Octets.g
  have e0 : rd [(a : Int), (b : Int)] 0 = (a : Int) := rfl
  have e1 : rd [(a : Int), (b : Int)] 1 = (b : Int) := rfl
  rw [medlarref03_Octets.l0, if_pos (by decide), if_pos (by decide), if_pos (by decide), e0]
  show medlarref03_Octets.l1 k (ints []) _ _ _ ((0 : Nat) : Int) = _
  refine qoct_l1 _ 0 _ 12 8 0 k a [] (by decide) (fun k1 h1 => ?_) (by omega) ha (by simp)
  obtain ⟨k1, rfl⟩ : ∃ m, k1 = m + 1 := ⟨k1 - 1, by omega⟩
  rw [show wrap64 (0 + 1) = 1 from w64 (by decide) (by decide), medlarref03_Octets.l0, if_pos (by decide), if_pos (by decide), if_pos (by decide), e1]
  show medlarref03_Octets.l1 k1 _ _ _ _ ((0 : Nat) : Int) = _
  refine qoct_l1 _ 1 _ 2 8 0 k1 b _ (by decide) (fun k2 h2 => ?_) (by omega) hb (by simp [oct_len])
  obtain ⟨k2, rfl⟩ : ∃ m, k2 = m + 1 := ⟨k2 - 1, by omega⟩
  rw [show wrap64 (1 + 1) = 2 from w64 (by decide) (by decide), medlarref03_Octets.l0, if_neg (by decide)]; rfl
theorem qnum_l (c : List Nat) (h8 : c.length ≤ 8) (hc : ∀ x ∈ c, x < 256) : ∀ (q k : Nat), q ≤ c.length → q < k →
    medlarref03_number.l0 k (ints c) (nm (c.drop q) : Int) ((q : Int) - 1) = some (nm c : Int) := by
  have p9 : (256 : Nat) ^ 8 = 18446744073709551616 := by decide
  intro q
  induction q with
  | zero =>
    intro k hi hk
    obtain ⟨k, rfl⟩ : ∃ m, k = m + 1 := ⟨k - 1, by omega⟩
    rw [medlarref03_number.l0, if_neg (by omega), List.drop_zero]
  | succ q ih =>
    intro k hi hk
    obtain ⟨k, rfl⟩ : ∃ m, k = m + 1 := ⟨k - 1, by omega⟩
    have hlt : q < c.length := by omega
    have e : nm (c.drop q) = c[q] + 256 * nm (c.drop (q + 1)) := by rw [List.drop_eq_getElem_cons hlt, nm]
    have hx : nm (c.drop q) < 256 ^ 8 := by
      have := nm_lt (c.drop q) fun y hy => hc y (List.mem_of_mem_drop hy)
      exact Nat.lt_of_lt_of_le this (Nat.pow_le_pow_right (by decide) (by rw [List.length_drop]; omega))
    rw [medlarref03_number.l0, if_pos (by omega), if_pos (by omega), if_pos (by rw [ints_len]; omega), show ((q + 1 : Nat) : Int) - 1 = (q : Int) by omega, ints_rd hlt, wu64 (x := 256 * (nm (c.drop (q + 1)) : Int)) (by omega) (by omega),
      wu64 (x := ((c[q] : Nat) : Int)) (by omega) (by omega), wu64 (by omega) (by omega), w64 (by omega) (by omega), show 256 * (nm (c.drop (q + 1)) : Int) + ((c[q] : Nat) : Int) = ((nm (c.drop q) : Nat) : Int) by omega, ih k (by omega) (by omega)]
theorem qnum_eq {c : List Nat} (h8 : c.length ≤ 8) (hc : ∀ x ∈ c, x < 256) {k : Nat} (hk : 9 ≤ k) : medlarref03_number.f k (ints c) = some (nm c : Int) := by
  unfold medlarref03_number.f
  have := qnum_l c h8 hc c.length k (by omega) (by omega)
  rw [List.drop_length] at this
  rw [ints_len, w64 (by omega) (by omega)]; exact this
theorem qof_eq {c : List Nat} (hl : c.length = 16) (hc : ∀ x ∈ c, x < 256) {k : Nat} (hk : 17 ≤ k) : medlarref03_Of.f k (ints c) = some ((nm (c.take 8) : Int), (nm (c.drop 8) : Int), 0) := by
  unfold medlarref03_Of.f
  rw [if_pos (by rw [ints_len]; omega), if_pos (by rw [ints_len]; omega), ints_take, ints_drop, qnum_eq (by rw [List.length_take]; omega) (fun x hx => hc x (List.mem_of_mem_take hx)) (by omega)]; simp only [bnd]
  rw [qnum_eq (by rw [List.length_drop]; omega) (fun x hx => hc x (List.mem_of_mem_drop hx)) (by omega)]; rfl
theorem qSch_eq (h s : Int) {k : Nat} (hk : 64 ≤ k) : medlarref12_scheme.f k h s = some (decide (Sch s ∧ Hi h)) := by
  unfold medlarref12_scheme.f
  have m := may_eq h 1 hk
  rw [show ((1 : Nat) : Int) = 1 from rfl] at m
  rw [m]; simp only [bnd]
  have e : Nd h.toNat 1 ↔ Hi h := nd_root' h
  by_cases c : Hi h
  · rw [decide_eq_true (e.2 c), if_pos rfl]
    by_cases s1 : s ≥ 1
    · rw [if_pos s1]
      congr 1
      rw [Bool.eq_iff_iff, decide_eq_true_iff, decide_eq_true_iff, sch_iff]
      constructor
      · intro z; exact ⟨⟨by omega, z⟩, c⟩
      · intro z; exact z.1.2
    · rw [if_neg s1, decide_eq_false]
      intro z
      rw [sch_iff] at z
      omega
  · rw [decide_eq_false (fun z => c (e.1 z)), if_neg (by simp), decide_eq_false (fun z => c z.2)]
theorem qLMay_eq (h s : Int) {i j : Nat} (hi' : i < 18446744073709551616) (hj : j < 18446744073709551616) {k : Nat} (hk : 72 ≤ k) :
    medlarref12_May.f k h s (i : Int) (j : Int) = some (if Sch s ∧ Sb h.toNat i j then (decide (May h.toNat s i j), 0) else (false, 1)) := by
  obtain ⟨k, rfl⟩ : ∃ m, k = m + 1 := ⟨k - 1, by omega⟩
  unfold medlarref12_May.f
  have ck := qSch_eq h s (k := k + 1) (by omega)
  have c8 := rCheck8_eq h hi' hj (k := k + 1) (by omega)
  have bad : medlarref12_May.j0 (k + 1) h s true (i : Int) (j : Int) = some (false, 1) := by rw [medlarref12_May.j0, if_pos rfl]
  by_cases c1 : Sch s ∧ Hi h
  · rw [decide_eq_true c1] at ck
    rw [ck]; simp only [bnd]
    rw [if_pos (by trivial), c8]; simp only [bnd]
    by_cases c2 : Sb h.toNat i j
    · have c3 : Sch s ∧ Sb h.toNat i j := ⟨c1.1, c2⟩
      rw [if_pos c2, if_pos c3, show ((0 : Int) != 0) = false from rfl, medlarref12_May.j0, if_neg (by simp)]
      by_cases e1 : s = 1
      · rw [if_pos e1]; congr 2
        rw [Bool.eq_iff_iff, beq_iff_eq, decide_eq_true_iff, may_iff]
        simp [e1]
      · rw [if_neg e1]
        by_cases e2 : s = 2
        · rw [if_pos e2]
          by_cases e3 : j = 0
          · subst e3
            rw [if_pos (by rfl)]; congr 2
            rw [Bool.eq_iff_iff, beq_iff_eq, decide_eq_true_iff, may_iff]
            simp [e2]; omega
          · rw [if_neg (by omega)]; congr 2
            symm; rw [decide_eq_true_iff, may_iff]
            simp [e2, e3]
        · rw [if_neg e2, rUseful_eq h hi' hj (by omega), if_pos c2]; simp only [bnd]
          congr 2
          rw [decide_eq_decide, may_iff]
          simp [e1, e2]
    · rw [if_neg c2, if_neg (fun z => c2 z.2), show ((1 : Int) != 0) = true from rfl, bad]
  · have c3 : ¬ (Sch s ∧ Sb h.toNat i j) := by
      rintro ⟨a, b⟩
      refine c1 ⟨a, ?_⟩
      have := b.1; rw [nd_iff] at this; rw [hi_iff]; omega
    rw [decide_eq_false c1] at ck
    rw [ck, if_neg c3]; simp only [bnd]
    rw [if_neg (by simp), bad]
theorem qshut_eq (v : S29) : medlarref16_shut.f v.f0 v.f1 v.f2.f0 v.f2.f1 v.f3.f0.f0 v.f3.f0.f1 v.f3.f1.f0 v.f3.f1.f1 v.f4 = some (decide (shv v)) := by
  rcases v with ⟨a, b, ⟨c, d⟩, e, f⟩
  unfold medlarref16_shut.f shv
  cases a <;> cases b <;> simp <;> by_cases h1 : c = 0 <;> by_cases h2 : d = 0 <;> by_cases h3 : f = 0 <;> simp [h1, h2, h3]
open Classical in
theorem qchk_l (h s : Int) (L : List S41) (hL : ∀ p ∈ L, Upt p) (hn : L.length ≤ 50000) (x0 x1 x2 : Int) (x4 x5 : Bool) (x6 x7 x8 x9 x10 x11 x12 : Int) : ∀ (q i k : Nat), i + q = L.length → q + 80 ≤ k →
    medlarref16_Check.l0 k L (L.length : Int) (i : Int) s h x2 L x4 x5 x6 x7 x8 x9 x10 x11 x12 = some (if ∀ j, i ≤ j → j < L.length → okpt h s L j then 0 else 1) := by
  intro q
  induction q with
  | zero =>
    intro i k hi hk
    obtain ⟨k, rfl⟩ : ∃ m, k = m + 1 := ⟨k - 1, by omega⟩
    rw [medlarref16_Check.l0, if_neg (by omega), if_pos (by intro j h1 h2; omega)]
  | succ q ih =>
    intro i k hi hk
    obtain ⟨k, rfl⟩ : ∃ m, k = m + 1 := ⟨k - 1, by omega⟩
    have hlt : i < L.length := by omega
    have nx := ih (i + 1) k (by omega) (by omega)
    obtain ⟨⟨p00, p01⟩, ⟨p10, p11⟩, us⟩ := hL _ (List.getElem_mem hlt)
    have r1 : rd_T41 L (i : Int) = L[i] := by unfold rd_T41; simp [List.getD_eq_getElem?_getD, hlt]
    have g1 : L[i]? = some L[i] := List.getElem?_eq_getElem hlt
    rw [medlarref16_Check.l0, if_pos (by omega), if_pos (by omega), if_pos (by omega), r1]
    have e0 : L[i].f0.f0 = ((L[i].f0.f0.toNat : Nat) : Int) := (Int.toNat_of_nonneg p00).symm
    have e1 : L[i].f0.f1 = ((L[i].f0.f1.toNat : Nat) : Int) := (Int.toNat_of_nonneg p10).symm
    have my := qLMay_eq h s (i := L[i].f0.f0.toNat) (j := L[i].f0.f1.toNat) (by omega) (by omega) (k := k) (by omega)
    rw [← e0, ← e1] at my
    rw [my, bnd]
    by_cases c1 : Sch s ∧ Sb h.toNat L[i].f0.f0.toNat L[i].f0.f1.toNat
    · rw [if_pos c1]; simp only [if_true, decide_eq_true_eq]
      by_cases c2 : May h.toNat s L[i].f0.f0.toNat L[i].f0.f1.toNat
      · rw [if_pos c2, qshut_eq, bnd]
        by_cases c3 : shv L[i].f1
        · simp only [c3, decide_true, if_true]
          by_cases c4 : 0 < i
          · have hlt' : i - 1 < L.length := by omega
            obtain ⟨⟨q00, q01⟩, ⟨q10, q11⟩, _⟩ := hL _ (List.getElem_mem hlt')
            have w1 : wrap64 ((i : Int) - 1) = ((i - 1 : Nat) : Int) := by rw [w64 (by omega) (by omega)]; omega
            have r2 : rd_T41 L ((i - 1 : Nat) : Int) = L[i - 1] := by unfold rd_T41; simp [List.getD_eq_getElem?_getD, hlt']
            have f0 : L[i - 1].f0.f0 = ((L[i - 1].f0.f0.toNat : Nat) : Int) := (Int.toNat_of_nonneg q00).symm
            have f1 : L[i - 1].f0.f1 = ((L[i - 1].f0.f1.toNat : Nat) : Int) := (Int.toNat_of_nonneg q10).symm
            have ls := rLess_eq L[i - 1].f0.f0.toNat L[i - 1].f0.f1.toNat L[i].f0.f0.toNat L[i].f0.f1.toNat
            rw [← f0, ← f1, ← e0, ← e1] at ls
            rw [if_pos (by omega), w1, if_pos (by omega), if_pos (by omega), r2, ls, bnd]
            simp only [decide_eq_true_eq]
            by_cases c5 : Lss (L[i - 1].f0.f0.toNat, L[i - 1].f0.f1.toNat) (L[i].f0.f0.toNat, L[i].f0.f1.toNat)
            · rw [if_pos c5, w64 (by omega) (by omega), show (i : Int) + 1 = ((i + 1 : Nat) : Int) by omega, nx]
              congr 1
              have : okpt h s L i := ⟨_, g1, c1.1, c1.2, c2, c3, fun _ => ⟨_, List.getElem?_eq_getElem hlt', c5⟩⟩
              by_cases a : ∀ j, i + 1 ≤ j → j < L.length → okpt h s L j
              · rw [if_pos a, if_pos (fun j h1 h2 => by rcases Nat.eq_or_lt_of_le h1 with rfl | h1; exact this; exact a j h1 h2)]
              · rw [if_neg a, if_neg (fun z => a fun j h1 h2 => z j (by omega) h2)]
            · rw [if_neg c5, if_neg]
              intro z
              obtain ⟨p, gp, _, _, _, _, hq⟩ := z i (Nat.le_refl _) hlt
              obtain ⟨q, gq, lq⟩ := hq c4
              rw [g1] at gp; rw [List.getElem?_eq_getElem hlt'] at gq
              cases gp; cases gq
              exact c5 lq
          · rw [if_neg (by omega), w64 (by omega) (by omega), show (i : Int) + 1 = ((i + 1 : Nat) : Int) by omega, nx]
            congr 1
            have : okpt h s L i := ⟨_, g1, c1.1, c1.2, c2, c3, fun z => absurd z c4⟩
            by_cases a : ∀ j, i + 1 ≤ j → j < L.length → okpt h s L j
            · rw [if_pos a, if_pos (fun j h1 h2 => by rcases Nat.eq_or_lt_of_le h1 with rfl | h1; exact this; exact a j h1 h2)]
            · rw [if_neg a, if_neg (fun z => a fun j h1 h2 => z j (by omega) h2)]
        · simp only [c3, decide_false, Bool.false_eq_true, if_false]
          rw [if_neg]
          intro z
          obtain ⟨p, gp, _, _, _, hs, _⟩ := z i (Nat.le_refl _) hlt
          rw [g1] at gp; cases gp; exact c3 hs
      · rw [if_neg c2, if_neg]
        intro z
        obtain ⟨p, gp, _, _, hm, _⟩ := z i (Nat.le_refl _) hlt
        rw [g1] at gp; cases gp; exact c2 hm
    · rw [if_neg c1]; simp only [show ¬ ((1 : Int) = 0) by decide, if_false]
      rw [if_neg]
      intro z
      obtain ⟨p, gp, h1, h2, _⟩ := z i (Nat.le_refl _) hlt
      rw [g1] at gp; cases gp; exact c1 ⟨h1, h2⟩
open Classical in
theorem qCheck_eq (s h e : Int) (L : List S41) (v : S29) (hL : ∀ p ∈ L, Upt p) (hn : L.length ≤ 50000) {k : Nat} (hk : L.length + 90 ≤ k) :
    medlarref16_Check.f k s h e L v.f0 v.f1 v.f2.f0 v.f2.f1 v.f3.f0.f0 v.f3.f0.f1 v.f3.f1.f0 v.f3.f1.f1 v.f4 = some (if Ck s h e L v then 0 else 1) := by
  obtain ⟨k, rfl⟩ : ∃ m, k = m + 2 := ⟨k - 2, by omega⟩
  have j1 : medlarref16_Check.j0 (k + 2) true s h e L v.f0 v.f1 v.f2.f0 v.f2.f1 v.f3.f0.f0 v.f3.f0.f1 v.f3.f1.f0 v.f3.f1.f1 v.f4 = some 1 := by rw [medlarref16_Check.j0, if_pos rfl]
  unfold medlarref16_Check.f
  have m := may_eq h 1 (k := k + 2) (by omega)
  rw [show ((1 : Nat) : Int) = 1 from rfl] at m
  rw [m, bnd]
  have en : Nd h.toNat 1 ↔ Hi h := nd_root' h
  by_cases c1 : Hi h
  · rw [decide_eq_true (en.2 c1), if_pos rfl]
    by_cases c6 : s < 1
    · rw [if_pos c6, j1, if_neg (fun z => by have := (sch_iff s).1 z.2.1; omega)]
    rw [if_neg c6]
    by_cases c7 : s > 3
    · rw [if_pos c7, j1, if_neg (fun z => by have := (sch_iff s).1 z.2.1; omega)]
    rw [if_neg c7]
    have cs : Sch s := (sch_iff s).2 ⟨by omega, by omega⟩
    by_cases c2 : e < 1
    · rw [if_pos c2, j1, if_neg (fun z => by have := z.2.2.1; omega)]
    rw [if_neg c2]
    by_cases c3 : e > 1099511627776
    · rw [if_pos c3, j1, if_neg (fun z => by have := z.2.2.2.1; omega)]
    rw [if_neg c3]
    by_cases c4 : (L.length : Int) > 32768
    · rw [if_pos c4, j1, if_neg (fun z => by have := z.2.2.2.2.1; omega)]
    rw [if_neg c4, qshut_eq, bnd]
    by_cases c5 : shv v
    · simp only [c5, decide_true, Bool.not_true]
      rw [medlarref16_Check.j0, if_neg (by decide)]
      have := qchk_l h s L hL hn s h e v.f0 v.f1 v.f2.f0 v.f2.f1 v.f3.f0.f0 v.f3.f0.f1 v.f3.f1.f0 v.f3.f1.f1 v.f4 L.length 0 (k + 1) (by omega) (by omega)
      rw [show ((0 : Nat) : Int) = 0 from rfl] at this
      rw [this]
      congr 1
      by_cases a : ∀ j, j < L.length → okpt h s L j
      · rw [if_pos (fun j _ h2 => a j h2), if_pos ⟨c1, cs, by omega, by omega, by omega, c5, a⟩]
      · rw [if_neg (fun z => a fun j h2 => z j (Nat.zero_le _) h2), if_neg (fun z => a z.2.2.2.2.2.2)]
    · simp only [c5, decide_false, Bool.not_false]
      rw [j1, if_neg (fun z => c5 z.2.2.2.2.2.1)]
  · rw [decide_eq_false (fun z => c1 (en.1 z)), if_neg (by simp), j1, if_neg (fun z => c1 z.1)]
theorem qsoc (s : S27) {k : Nat} (hs : Us s) (hk : 40 ≤ k) : medlarref04_Octets.f k s.f0.f0 s.f0.f1 s.f1.f0 s.f1.f1 = some (ints (st s)) := by
  obtain ⟨⟨a0, a1⟩, ⟨b0, b1⟩, ⟨c0, c1⟩, ⟨d0, d1⟩⟩ := hs
  have h1 := qoct_eq (a := s.f0.f0.toNat) (b := s.f0.f1.toNat) (by omega) (by omega) hk
  have h2 := qoct_eq (a := s.f1.f0.toNat) (b := s.f1.f1.toNat) (by omega) (by omega) hk
  rw [Int.toNat_of_nonneg a0, Int.toNat_of_nonneg b0] at h1
  rw [Int.toNat_of_nonneg c0, Int.toNat_of_nonneg d0] at h2
  unfold medlarref04_Octets.f
  rw [h1, bnd, h2, bnd, if_pos (by rw [ints_len, ints_len, so_len, so_len]; omega), ints_app]; rfl
theorem qbyt_l (L : List S41) (hL : ∀ p ∈ L, Upt p) (hn : L.length ≤ 50000) (v : S29) (hv : Us v.f3) (x0 x1 x2 : Int) (x3 : List S41) (x4 x5 : Bool) (x6 x7 x12 : Int) : ∀ (q i k : Nat) (A : List Nat), i + q = L.length → q + 50 ≤ k → A.length = 15 + 48 * i →
    medlarref16_Bytes.l0 k (ints A) L (L.length : Int) (i : Int) x0 x1 x2 x3 x4 x5 x6 x7 v.f3.f0.f0 v.f3.f0.f1 v.f3.f1.f0 v.f3.f1.f1 x12 = some (ints (A ++ ((L.drop i).flatMap pt ++ st v.f3)), 0) := by
  intro q
  induction q with
  | zero =>
    intro i k A hi hk hA
    obtain ⟨k, rfl⟩ : ∃ m, k = m + 1 := ⟨k - 1, by omega⟩
    rw [medlarref16_Bytes.l0, if_neg (by omega), qsoc v.f3 hv (by omega), bnd, if_pos (by rw [ints_len, ints_len, st_len]; omega), ints_app, List.drop_of_length_le (by omega)]
    rfl
  | succ q ih =>
    intro i k A hi hk hA
    obtain ⟨k, rfl⟩ : ∃ m, k = m + 1 := ⟨k - 1, by omega⟩
    have hlt : i < L.length := by omega
    obtain ⟨⟨p00, p01⟩, ⟨p10, p11⟩, us⟩ := hL _ (List.getElem_mem hlt)
    have r1 : rd_T41 L (i : Int) = L[i] := by unfold rd_T41; simp [List.getD_eq_getElem?_getD, hlt]
    have e0 : L[i].f0.f0 = ((L[i].f0.f0.toNat : Nat) : Int) := (Int.toNat_of_nonneg p00).symm
    have e1 : L[i].f0.f1 = ((L[i].f0.f1.toNat : Nat) : Int) := (Int.toNat_of_nonneg p10).symm
    have h1 := qput_eq (n := L[i].f0.f0.toNat) (o := 8) (by decide) (by omega) (k := k) (by omega)
    have h2 := qput_eq (n := L[i].f0.f1.toNat) (o := 8) (by decide) (by omega) (k := k) (by omega)
    rw [← e0] at h1; rw [← e1] at h2
    rw [show ((8 : Nat) : Int) = 8 from rfl] at h1 h2
    rw [medlarref16_Bytes.l0, if_pos (by omega), if_pos (by omega), if_pos (by omega), r1, h1, bnd, if_pos (by rw [ints_len, ints_len, oct_len]; omega), bnd, h2, bnd, ints_app, if_pos (by rw [ints_len, ints_len, oct_len, List.length_append, oct_len]; omega), bnd, ints_app, qsoc _ us (by omega), bnd,
      if_pos (by rw [ints_len, ints_len, st_len, List.length_append, List.length_append, oct_len, oct_len]; omega), ints_app, w64 (by omega) (by omega), show (i : Int) + 1 = ((i + 1 : Nat) : Int) by omega]
    have ea : A ++ oct L[i].f0.f0.toNat 8 ++ oct L[i].f0.f1.toNat 8 ++ st L[i].f1.f3 = A ++ pt L[i] := by simp [pt, List.append_assoc]
    rw [ea, ih (i + 1) k _ (by omega) (by omega) (by rw [List.length_append, pt_len]; omega), List.drop_eq_getElem_cons hlt, List.flatMap_cons]
    simp only [List.append_assoc]
open Classical in
theorem qBytes_eq (s h e : Int) (L : List S41) (v : S29) (hL : ∀ p ∈ L, Upt p) (hv : Us v.f3) (hn : L.length ≤ 50000) {k : Nat} (hk : L.length + 100 ≤ k) :
    medlarref16_Bytes.f k s h e L v.f0 v.f1 v.f2.f0 v.f2.f1 v.f3.f0.f0 v.f3.f0.f1 v.f3.f1.f0 v.f3.f1.f1 v.f4 = some (if Ck s h e L v then (ints (text s h e L v), 0) else ([], 1)) := by
  unfold medlarref16_Bytes.f
  rw [qCheck_eq s h e L v hL hn (by omega), bnd]
  by_cases c : Ck s h e L v
  · obtain ⟨⟨h1, h2⟩, cs, e1, e2, _, _⟩ := id c
    have ⟨s1, s2⟩ := (sch_iff s).1 cs
    rw [if_pos c, if_pos rfl, if_pos c, bnd]
    have we : IntKind.u64.wrap e = ((e.toNat : Nat) : Int) := by rw [wu64 (by omega) (by omega)]; omega
    have wl : IntKind.u64.wrap (L.length : Int) = ((L.length : Nat) : Int) := wu64 (by omega) (by omega)
    have e3 : [1, s % 256, h % 256] = ints [1, s.toNat % 256, h.toNat % 256] := by
      unfold ints; simp; omega
    have p1 := qput_eq (n := e.toNat) (o := 8) (by decide) (by omega) (k := k) (by omega)
    have p2 := qput_eq (n := L.length) (o := 4) (by decide) (by omega) (k := k) (by omega)
    rw [show ((8 : Nat) : Int) = 8 from rfl] at p1
    rw [show ((4 : Nat) : Int) = 4 from rfl] at p2
    rw [we, e3, p1, bnd, if_pos (by rw [ints_len, ints_len, oct_len]; simp), bnd, wl, p2, bnd, ints_app, if_pos (by rw [ints_len, ints_len, oct_len]; simp [oct_len]), ints_app]
    have := qbyt_l L hL hn v hv s h e L v.f0 v.f1 v.f2.f0 v.f2.f1 v.f4 L.length 0 k ([1, s.toNat % 256, h.toNat % 256] ++ oct e.toNat 8 ++ oct L.length 4) (by omega) (by omega) (by simp [oct_len])
    rw [show ((0 : Nat) : Int) = 0 from rfl, List.drop_zero] at this
    rw [this]
    simp only [text, front, List.append_assoc]
  · rw [if_neg c, if_neg (by decide), if_neg c]
theorem n8_cut (b : List Nat) (i : Nat) : nm ((b.take (i + 8)).drop i) = (n8 b i).toNat := by
  unfold n8
  rw [List.drop_take, show i + 8 - i = 8 by omega]; simp
theorem n8_nn (b : List Nat) (i : Nat) : ((n8 b i).toNat : Int) = n8 b i := by unfold n8; simp
theorem n8_take {X : List Nat} {i : Nat} (h : i + 8 ≤ 32) : n8 (X.take 32) i = n8 X i := by
  unfold n8
  rw [List.drop_take, List.take_take, show min 8 (32 - i) = 8 by omega]
theorem n8_drop (X : List Nat) (i j : Nat) : n8 (X.drop i) j = n8 X (i + j) := by
  unfold n8
  rw [List.drop_drop]
theorem qsealed_eq {c : List Nat} (h : c.length = 32) (hc : ∀ x ∈ c, x < 256) {k : Nat} (hk : 17 ≤ k) : medlarref16_sealed.f k (ints c) = some (false, true, 0, 0, n8 c 0, n8 c 8, n8 c 16, n8 c 24, 0) := by
  unfold medlarref16_sealed.f medlarref04_Of.f
  rw [if_pos (by rw [ints_len]; omega), if_pos (by rw [ints_len]; omega), ints_take, ints_drop, qof_eq (c := c.take 16) (by rw [List.length_take]; omega) (fun x hx => hc x (List.mem_of_mem_take hx)) hk, bnd, qof_eq (c := c.drop 16) (by rw [List.length_drop]; omega) (fun x hx => hc x (List.mem_of_mem_drop hx)) hk, bnd, bnd]
  have a1 : (nm ((c.take 16).take 8) : Int) = n8 c 0 := by unfold n8; rw [List.take_take, List.drop_zero]; rfl
  have a2 : (nm ((c.take 16).drop 8) : Int) = n8 c 8 := by unfold n8; rw [List.drop_take]
  have a3 : (nm ((c.drop 16).take 8) : Int) = n8 c 16 := rfl
  have a4 : (nm ((c.drop 16).drop 8) : Int) = n8 c 24 := by unfold n8; rw [List.drop_drop, List.take_of_length_le (l := c.drop 24) (by rw [List.length_drop]; omega)]
  rw [a1, a2, a3, a4]
theorem hprs_get : ∀ (m : Nat) (l : List Nat) (j : Nat) (h : j < (hprs m l).length), (hprs m l)[j] = mkp (l.drop (48 * j))
  | 0, l, j, h => by simp [hprs] at h
  | m + 1, l, 0, h => by simp [hprs]
  | m + 1, l, j + 1, h => by
    simp only [hprs, List.getElem_cons_succ]
    rw [hprs_get m (l.drop 48) j, List.drop_drop, show 48 + 48 * j = 48 * (j + 1) by omega]
theorem qparts_l {b : List Nat} (hb : ∀ c ∈ b, c < 256) (hn : b.length ≤ 2097152) (m : Nat) (hm : b.length = 47 + 48 * m) (s h e : Int) (v0 v1 : Bool) (v2 v3 v4 v5 v6 v7 v8 : Int) (r : Res) (c : Nat)
    (hr : ∀ k', c ≤ k' → medlarref16_From.l0 k' (ints b) ((15 + 48 * m : Nat) : Int) s h e (hprs m (b.drop 15)) v0 v1 v2 v3 v4 v5 v6 v7 v8 = some r) : ∀ (q j k : Nat), j + q = m → q + 30 + c ≤ k →
    medlarref16_From.l0 k (ints b) ((15 + 48 * j : Nat) : Int) s h e ((hprs m (b.drop 15)).take j) v0 v1 v2 v3 v4 v5 v6 v7 v8 = some r := by
  have hl := hprs_len m (b.drop 15)
  intro q
  induction q with
  | zero =>
    intro j k hj hk
    obtain rfl : j = m := by omega
    rw [List.take_of_length_le (by omega)]
    exact hr k (by omega)
  | succ q ih =>
    intro j k hj hk
    obtain ⟨k, rfl⟩ : ∃ n, k = n + 1 := ⟨k - 1, by omega⟩
    have jl : j < (hprs m (b.drop 15)).length := by omega
    obtain ⟨a, ha⟩ : ∃ a, a = 15 + 48 * j := ⟨_, rfl⟩
    have w1 : wrap64 ((a : Int) + 48) = ((a + 48 : Nat) : Int) := by rw [w64 (by omega) (by omega)]; omega
    have w2 : wrap64 ((a : Int) + 8) = ((a + 8 : Nat) : Int) := by rw [w64 (by omega) (by omega)]; omega
    have w3 : wrap64 ((a : Int) + 16) = ((a + 16 : Nat) : Int) := by rw [w64 (by omega) (by omega)]; omega
    have w4 : wrap64 (((ints b).length : Int) - 32) = ((15 + 48 * m : Nat) : Int) := by rw [ints_len, w64 (by omega) (by omega)]; omega
    have hx : ∀ i j : Nat, ∀ x ∈ (b.take i).drop j, x < 256 := fun i j x hx => hb x (List.mem_of_mem_take (List.mem_of_mem_drop hx))
    have t1 := qtake_eq (c := (b.take (a + 8)).drop a) (by rw [List.length_drop, List.length_take]; omega) (hx _ _) (k := k) (by omega)
    have t2 := qtake_eq (c := (b.take (a + 16)).drop (a + 8)) (by rw [List.length_drop, List.length_take]; omega) (hx _ _) (k := k) (by omega)
    have t3 := qsealed_eq (c := (b.take (a + 48)).drop (a + 16)) (by rw [List.length_drop, List.length_take]; omega) (hx _ _) (k := k) (by omega)
    rw [n8_cut, n8_nn] at t1
    rw [show a + 16 = a + 8 + 8 by omega, n8_cut, n8_nn, show a + 8 + 8 = a + 16 by omega] at t2
    rw [List.drop_take, show a + 48 - (a + 16) = 32 by omega, n8_take (by decide), n8_take (by decide), n8_take (by decide), n8_take (by decide), n8_drop, n8_drop, n8_drop, n8_drop] at t3
    rw [← ha, medlarref16_From.l0, w1, w4, if_pos (by omega), if_pos (by omega), w2, if_pos (by omega), if_pos (by rw [ints_len]; omega), Int.toNat_natCast, Int.toNat_natCast, ints_take, ints_drop, t1, bnd, if_pos (by omega), w3, if_pos (by omega), if_pos (by rw [ints_len]; omega), Int.toNat_natCast, ints_take, ints_drop, t2, bnd,
      if_pos (by omega), if_pos (by omega), if_pos (by rw [ints_len]; omega), Int.toNat_natCast, ints_take, ints_drop, List.drop_take, show a + 48 - (a + 16) = 32 by omega, t3, bnd, if_pos (by rw [List.length_take]; omega)]
    have nx := ih (j + 1) k (by omega) (by omega)
    rw [List.take_succ_eq_append_getElem jl, hprs_get m (b.drop 15) j jl, show 15 + 48 * (j + 1) = a + 48 by omega, List.drop_drop, ← ha] at nx
    have mk : mkp (b.drop a) = ⟨⟨n8 b a, n8 b (a + 8)⟩, ⟨false, true, ⟨0, 0⟩, ⟨⟨n8 b (a + 16 + 0), n8 b (a + 16 + 8)⟩, ⟨n8 b (a + 16 + 16), n8 b (a + 16 + 24)⟩⟩, 0⟩⟩ := by
      unfold mkp slv
      simp only [n8_drop, List.drop_drop, Nat.add_zero]
    rw [mk] at nx
    exact nx
theorem nm_one {b : List Nat} {i : Nat} (h : i < b.length) : (nm ((b.drop i).take 1) : Int) = (b[i] : Int) := by
  rw [List.drop_eq_getElem_cons h]
  show ((nm [b[i]] : Nat) : Int) = _
  simp only [nm]
  omega
open Classical in
theorem qFrom_eq (b : List Nat) (hb : ∀ x ∈ b, x < 256) (m : Nat) (hm : b.length = 47 + 48 * m) (hl : b.length ≤ 2097152) {k : Nat} (hk : 2 * m + 300 ≤ k) :
    medlarref16_From.f k (ints b) = some (if Rd m b then resOf (scm b) (hgt b) (epo b) (hprs m (b.drop 15)) (slv (b.drop (15 + 48 * m))) else resNo 2) := by
  obtain ⟨k, rfl⟩ : ∃ n, k = n + 1 := ⟨k - 1, by omega⟩
  have hb15 : ∀ x ∈ b.drop 15, x < 256 := fun y hy => hb y (List.mem_of_mem_drop hy)
  have hbm : ∀ x ∈ b.drop (15 + 48 * m), x < 256 := fun y hy => hb y (List.mem_of_mem_drop hy)
  have h1 : 1 < b.length := by omega
  have h2 : 2 < b.length := by omega
  have w4 : wrap64 (((ints b).length : Int) - 32) = ((15 + 48 * m : Nat) : Int) := by rw [ints_len, w64 (by omega) (by omega)]; omega
  have w5 : ((Int.tmod (wrap64 (((ints b).length : Int) - 47)) 48) != 0) = false := by
    rw [ints_len, w64 (by omega) (by omega), Int.tmod_eq_emod_of_nonneg (by omega), bne_eq_false_iff_eq]; omega
  have g1 : wrap64 (rd (ints b) 1) = scm b := by
    have := hb _ (List.getElem_mem h1)
    rw [show (1 : Int) = ((1 : Nat) : Int) from rfl, ints_rd h1, w64 (by omega) (by omega)]; unfold scm; rw [nm_one h1]
  have g2 : wrap64 (rd (ints b) 2) = hgt b := by
    have := hb _ (List.getElem_mem h2)
    rw [show (2 : Int) = ((2 : Nat) : Int) from rfl, ints_rd h2, w64 (by omega) (by omega)]; unfold hgt; rw [nm_one h2]
  have t1 := qtake_eq (c := (b.take (3 + 8)).drop 3) (by rw [List.length_drop, List.length_take]; omega) (fun x hx => hb x (List.mem_of_mem_take (List.mem_of_mem_drop hx))) (k := k) (by omega)
  rw [n8_cut, n8_nn] at t1
  have t3 := qsealed_eq (c := b.drop (15 + 48 * m)) (by rw [List.length_drop]; omega) hbm (k := k) (by omega)
  unfold medlarref16_From.f
  rw [if_neg (by rw [ints_len]; omega), if_neg (by rw [ints_len]; omega), w5, medlarref16_From.j0, if_neg (by simp), if_pos (by rw [ints_len]; omega), if_pos (by rw [ints_len]; omega), if_pos (by decide), if_pos (by rw [ints_len]; omega), ints_take, ints_drop, show (11 : Nat) = 3 + 8 from rfl, t1, bnd, w4, if_pos (by omega), if_pos (by rw [ints_len]; omega),
    Int.toNat_natCast, ints_drop, t3, bnd, g1, g2]
  have B := fun (k' : Nat) (hk' : m + 100 ≤ k') => qBytes_eq (scm b) (hgt b) (epo b) (hprs m (b.drop 15)) (slv (b.drop (15 + 48 * m))) (hprs_U m _ hb15) (slv_U hbm) (by rw [hprs_len]; omega) (k := k') (by rw [hprs_len]; omega)
  have P := qparts_l hb hl m hm (scm b) (hgt b) (epo b) false true 0 0 (n8 (b.drop (15 + 48 * m)) 0) (n8 (b.drop (15 + 48 * m)) 8) (n8 (b.drop (15 + 48 * m)) 16) (n8 (b.drop (15 + 48 * m)) 24) 0 (if Rd m b then resOf (scm b) (hgt b) (epo b) (hprs m (b.drop 15)) (slv (b.drop (15 + 48 * m))) else resNo 2) (m + 200) (fun k' hk' => ?_) m 0 k (by omega) (by omega)
  · rw [List.take_zero] at P
    exact P
  obtain ⟨k', rfl⟩ : ∃ n, k' = n + 1 := ⟨k' - 1, by omega⟩
  have B' : medlarref16_Bytes.f k' (scm b) (hgt b) (epo b) (hprs m (b.drop 15)) false true 0 0 (n8 (b.drop (15 + 48 * m)) 0) (n8 (b.drop (15 + 48 * m)) 8) (n8 (b.drop (15 + 48 * m)) 16) (n8 (b.drop (15 + 48 * m)) 24) 0 = _ := B k' (by omega)
  rw [medlarref16_From.l0, if_neg (by rw [w4, w64 (by omega) (by omega)]; omega)]
  refine Eq.trans (congrArg (fun z => Option.bind z _) B') ?_
  rw [bnd]
  by_cases c : Ck (scm b) (hgt b) (epo b) (hprs m (b.drop 15)) (slv (b.drop (15 + 48 * m)))
  · rw [if_pos c]
    dsimp only
    have sb := str_beq (text (scm b) (hgt b) (epo b) (hprs m (b.drop 15)) (slv (b.drop (15 + 48 * m)))) b (text_lt _ _ _ _ _) hb
    rw [if_pos rfl]
    by_cases d : text (scm b) (hgt b) (epo b) (hprs m (b.drop 15)) (slv (b.drop (15 + 48 * m))) = b
    · rw [if_pos (show Rd m b from ⟨c, d⟩), if_pos (by rw [d])]; rfl
    · rw [if_neg (show ¬ Rd m b from fun z => d z.2), if_neg (fun z => d (decide_eq_true_iff.1 (sb.symm.trans (beq_iff_eq.2 z))))]
  · rw [if_neg c]
    dsimp only
    rw [if_neg (by decide), if_neg (show ¬ Rd m b from fun z => c z.1)]
theorem qFrom_no (b : List Nat) (h : b.length < 47 ∨ (b.length - 47) % 48 ≠ 0) (hl : b.length ≤ 2097152) {k : Nat} (hk : 1 ≤ k) : medlarref16_From.f k (ints b) = some (resNo 2) := by
  obtain ⟨k, rfl⟩ : ∃ n, k = n + 1 := ⟨k - 1, by omega⟩
  unfold medlarref16_From.f
  rw [if_neg (by rw [ints_len]; omega)]
  by_cases c : b.length < 47
  · rw [if_pos (by rw [ints_len]; omega), medlarref16_From.j0, if_pos rfl]
  · have w5 : ((Int.tmod (wrap64 (((ints b).length : Int) - 47)) 48) != 0) = true := by
      rw [ints_len, w64 (by omega) (by omega), Int.tmod_eq_emod_of_nonneg (by omega), bne_iff_ne]; omega
    rw [if_neg (by rw [ints_len]; omega), w5, medlarref16_From.j0, if_pos rfl]
theorem qFrom_long (b : List Nat) (hl : b.length > 2097152) (k : Nat) : medlarref16_From.f k (ints b) = some (resNo 3) := by
  unfold medlarref16_From.f
  rw [if_pos (by rw [ints_len]; omega)]
theorem From_long (b : List Nat) (hl : b.length > 2097152) (k : Nat) : head_From.f k (ints b) = some (resNo 3) := by
  unfold head_From.f
  rw [if_pos (by rw [ints_len]; omega)]
open Classical in
theorem qparts_same_l (L M : List S41) (hl : L.length = M.length) (hn : L.length ≤ 50000) (s h e : Int) (v0 v1 : Bool) (v2 v3 v4 v5 v6 v7 v8 s' h' e' : Int) (v0' v1' : Bool) (v2' v3' v4' v5' v6' v7' v8' : Int) : ∀ (q i k : Nat), i + q = L.length → q < k →
    medlarref16_Same.l0 k (L.length : Int) (i : Int) s h e L v0 v1 v2 v3 v4 v5 v6 v7 v8 s' h' e' M v0' v1' v2' v3' v4' v5' v6' v7' v8' = some (decide (L.drop i = M.drop i)) := by
  intro q
  induction q with
  | zero =>
    intro i k hi hk
    obtain ⟨k, rfl⟩ : ∃ m, k = m + 1 := ⟨k - 1, by omega⟩
    rw [medlarref16_Same.l0, if_neg (by omega), List.drop_of_length_le (by omega), List.drop_of_length_le (by omega)]; simp
  | succ q ih =>
    intro i k hi hk
    obtain ⟨k, rfl⟩ : ∃ m, k = m + 1 := ⟨k - 1, by omega⟩
    have h1 : i < L.length := by omega
    have h2 : i < M.length := by omega
    have r1 : rd_T41 L (i : Int) = L[i] := by unfold rd_T41; simp [List.getD_eq_getElem?_getD, h1]
    have r2 : rd_T41 M (i : Int) = M[i] := by unfold rd_T41; simp [List.getD_eq_getElem?_getD, h2]
    rw [medlarref16_Same.l0, if_pos (by omega), if_pos (by omega), if_pos (by omega), if_pos (by omega), r1, r2, List.drop_eq_getElem_cons h1, List.drop_eq_getElem_cons h2]
    by_cases c : L[i] = M[i]
    · rw [if_neg (fun z => (part_ne _ _).1 z c), w64 (by omega) (by omega), show (i : Int) + 1 = ((i + 1 : Nat) : Int) by omega, ih (i + 1) k (by omega) (by omega)]
      congr 1
      rw [decide_eq_decide, List.cons.injEq]
      exact ⟨fun z => ⟨c, z⟩, fun z => z.2⟩
    · rw [if_pos ((part_ne _ _).2 c), decide_eq_false (fun z => c (List.cons.inj z).1)]
theorem val_ne (v v' : S29) : ((!(v.f0 == v'.f0) || (!(v.f1 == v'.f1) || ((!(v.f2.f0 == v'.f2.f0) || (!(v.f2.f1 == v'.f2.f1))) || (((!(v.f3.f0.f0 == v'.f3.f0.f0) || (!(v.f3.f0.f1 == v'.f3.f0.f1))) || ((!(v.f3.f1.f0 == v'.f3.f1.f0) || (!(v.f3.f1.f1 == v'.f3.f1.f1))))) || (!(v.f4 == v'.f4)))))) = true) ↔ v ≠ v' := by
  rcases v with ⟨c, d, ⟨e, f⟩, ⟨⟨g, h⟩, ⟨i, j⟩⟩, l⟩
  rcases v' with ⟨c', d', ⟨e', f'⟩, ⟨⟨g', h'⟩, ⟨i', j'⟩⟩, l'⟩
  simp only [S29.mk.injEq, S25.mk.injEq, S27.mk.injEq, Bool.or_eq_true, Bool.not_eq_true', beq_eq_false_iff_ne, ne_eq, Classical.not_and_iff_not_or_not]
open Classical in
theorem qSame_eq (s h e s' h' e' : Int) (L L' : List S41) (v v' : S29) (hn : L.length ≤ 50000) {k : Nat} (hk : L.length + 1 < k) :
    medlarref16_Same.f k s h e L v.f0 v.f1 v.f2.f0 v.f2.f1 v.f3.f0.f0 v.f3.f0.f1 v.f3.f1.f0 v.f3.f1.f1 v.f4 s' h' e' L' v'.f0 v'.f1 v'.f2.f0 v'.f2.f1 v'.f3.f0.f0 v'.f3.f0.f1 v'.f3.f1.f0 v'.f3.f1.f1 v'.f4 = some (decide (s = s' ∧ h = h' ∧ e = e' ∧ L = L' ∧ v = v')) := by
  obtain ⟨k, rfl⟩ : ∃ n, k = n + 1 := ⟨k - 1, by omega⟩
  have no : medlarref16_Same.j0 (k + 1) true s h e L v.f0 v.f1 v.f2.f0 v.f2.f1 v.f3.f0.f0 v.f3.f0.f1 v.f3.f1.f0 v.f3.f1.f1 v.f4 s' h' e' L' v'.f0 v'.f1 v'.f2.f0 v'.f2.f1 v'.f3.f0.f0 v'.f3.f0.f1 v'.f3.f1.f0 v'.f3.f1.f1 v'.f4 = some false := by rw [medlarref16_Same.j0, if_pos rfl]
  unfold medlarref16_Same.f
  by_cases a1 : s = s'
  · by_cases a2 : h = h'
    · by_cases a3 : e = e'
      · rw [if_pos a1, if_pos a2, if_pos a3]
        by_cases a4 : v = v'
        · rw [if_neg (fun z => (val_ne v v').1 z a4)]
          by_cases a5 : L.length = L'.length
          · rw [show ((L.length : Int) != (L'.length : Int)) = false by rw [bne_eq_false_iff_eq]; omega, medlarref16_Same.j0, if_neg (by simp)]
            have := qparts_same_l L L' a5 hn s h e v.f0 v.f1 v.f2.f0 v.f2.f1 v.f3.f0.f0 v.f3.f0.f1 v.f3.f1.f0 v.f3.f1.f1 v.f4 s' h' e' v'.f0 v'.f1 v'.f2.f0 v'.f2.f1 v'.f3.f0.f0 v'.f3.f0.f1 v'.f3.f1.f0 v'.f3.f1.f1 v'.f4 L.length 0 k (by omega) (by omega)
            rw [List.drop_zero, List.drop_zero] at this
            refine Eq.trans this ?_
            congr 1
            rw [decide_eq_decide]
            exact ⟨fun z => ⟨a1, a2, a3, z, a4⟩, fun z => z.2.2.2.1⟩
          · rw [show ((L.length : Int) != (L'.length : Int)) = true by rw [bne_iff_ne]; omega, no, decide_eq_false (fun z => a5 (by rw [z.2.2.2.1]))]
        · rw [if_pos ((val_ne v v').2 a4), no, decide_eq_false (fun z => a4 z.2.2.2.2)]
      · rw [if_pos a1, if_pos a2, if_neg a3, no, decide_eq_false (fun z => a3 z.2.2.1)]
    · rw [if_pos a1, if_neg a2, no, decide_eq_false (fun z => a2 z.2.1)]
  · rw [if_neg a1, no, decide_eq_false (fun z => a1 z.1)]
theorem qLen_both (a : Int) : ∃ x e, head_Length.f a = some (x, e) ∧ medlarref16_Length.f a = some (x, e) := by
  unfold head_Length.f medlarref16_Length.f
  by_cases c1 : a < 0
  · rw [if_pos c1, if_pos c1]; exact ⟨_, _, rfl, rfl⟩
  rw [if_neg c1, if_neg c1]
  by_cases c2 : a > 32768
  · rw [if_pos c2, if_pos c2]; exact ⟨_, _, rfl, rfl⟩
  rw [if_neg c2, if_neg c2, w64 (x := 48 * a) (by omega) (by omega), w64 (x := 15 + 48 * a) (by omega) (by omega), w64 (by omega) (by omega), w64 (by omega) (by omega)]
  exact ⟨_, _, rfl, by congr 2; omega⟩
theorem live16' : medlarlaw16_live.f 60 = some true := by decide +kernel
theorem live16 {k : Nat} (hk : 60 ≤ k) : medlarlaw16_live.f k = some true := at_rounds (g := fun k => medlarlaw16_live.f k) medlarlaw16_live.mono hk live16'
end Go.Proofs.Ytoljdfgkkkpnbaa.Med
