/- The leaves below a node and of a subset, as spans: what the functions of node, sub and leaf come to, on numbers. -/
import Derived.Test.YtmaaibcnfhbajaaMS
import Derived.Laws.Bits64b
import Derived.Test.YtmaaibcnfhbajaaMPx13
import Derived.Test.YtmaaibcnfhbajaaMPx14
import Derived.Test.YtmaaibcnfhbajaaMPx15
import Derived.Test.YtmaaibcnfhbajaaMPx21
set_option linter.unusedVariables false
set_option linter.unusedSimpArgs false
namespace Go.Proofs.Ytmaaibcnfhbajaa.Med
open Go.RowKit Go.Proofs.YtmaaibcnfhbajaaW.PrintWords Go.Proofs.YtmaaibcnfhbajaaW.PrintMore Go.Proofs.Ytmaaibcnfhbajaa.MP

theorem shl_eq {n k : Nat} (hk : k ≤ 64) (hb : n * 2 ^ k < 18446744073709551616) : shl .u64 (n : Int) (k : Int) = ((n * 2 ^ k : Nat) : Int) := by
  unfold shl
  have : min ((k : Int)).toNat (IntKind.bits .u64) = k := by
    show min ((k : Int)).toNat 64 = k
    omega
  have e : (n : Int) * 2 ^ k = ((n * 2 ^ k : Nat) : Int) := by push_cast; rfl
  rw [this, e, wu64 (by omega) (by omega)]
/-- The first leaf below n, and the last one, as leaves' numbers; how many there are. -/
def lo (h n : Nat) : Nat := lf h n - 2 ^ h
def hi (h n : Nat) : Nat := rt h n - 1 - 2 ^ h
def wd (h n : Nat) : Nat := 2 ^ (h - n.log2)
theorem wd_pos (h n : Nat) : 0 < wd h n := pow_pos2 _
theorem hi_eq {h n : Nat} (d : Nd h n) : hi h n + 1 = lo h n + wd h n := by
  have := rt_eq h n
  have h1 := lf_ge d.2.2.1 d.2.2.2
  have h2 := wd_pos h n
  unfold hi lo; unfold wd at *; omega
theorem hi_lt {h n : Nat} (d : Nd h n) : hi h n < 2 ^ h := by
  have h1 := rt_le (h := h) (n := n) d.2.2.2
  have h2 := lf_lt_rt h n
  have h3 := lf_ge d.2.2.1 d.2.2.2
  have h4 : 2 ^ (h + 1) = 2 ^ h * 2 := Nat.pow_succ 2 h
  unfold hi; omega
theorem pow_le_h {h : Nat} (hh : h ≤ 32) : 2 ^ h ≤ 4294967296 := pow_mono (b := 32) hh
theorem nLeaves_eq (h : Int) {n : Nat} (hn : n < 18446744073709551616) (k : Nat) :
    node_Leaves.f (k + 1) h (n : Int) = some (if Nd h.toNat n then ((lo h.toNat n : Int), (hi h.toNat n : Int), 0) else (0, 0, 1)) := by
  unfold node_Leaves.f
  rw [check_eq h hn]; simp only [Option.bind_some]
  by_cases h1 : Nd h.toNat n
  · have hh := h1
    rw [nd_iff] at hh
    have e : ((h.toNat : Nat) : Int) = h := by omega
    rw [if_pos h1, if_pos rfl, if_pos h1, depth_eq h1.2.2.1 hn]; simp only [Option.bind_some]
    generalize hH : h.toNat = H at *
    subst e
    have hlf := lf_ge h1.2.2.1 h1.2.2.2
    have hrt := rt_le (h := H) (n := n) h1.2.2.2
    have hlr := lf_lt_rt H n
    have hp33 : 2 ^ (H + 1) ≤ 8589934592 := pow_le_32 (by omega)
    have hpH : 2 ^ H ≤ 4294967296 := pow_le_h (by omega)
    have hpw : 2 ^ (H - n.log2) ≤ 4294967296 := pow_le_h (by omega)
    have hre := rt_eq H n
    rw [w64 (x := (H : Int) - n.log2) (by omega) (by omega), show (H : Int) - n.log2 = ((H - n.log2 : Nat) : Int) by omega, if_pos (by omega), if_pos (by omega)]
    have e1 : shl .u64 (n : Int) ((H - n.log2 : Nat) : Int) = (lf H n : Int) := shl_eq (by omega) (show lf H n < _ by omega)
    have e2 : shl .u64 1 (H : Int) = ((2 ^ H : Nat) : Int) := by
      have := shl_eq (n := 1) (k := H) (by omega) (by omega)
      rw [Nat.one_mul] at this; exact this
    have e3 : shl .u64 1 ((H - n.log2 : Nat) : Int) = ((2 ^ (H - n.log2) : Nat) : Int) := by
      have := shl_eq (n := 1) (k := H - n.log2) (by omega) (by omega)
      rw [Nat.one_mul] at this; exact this
    rw [e1, e2, e3]
    have f1 : (lf H n : Int) - ((2 ^ H : Nat) : Int) = (lo H n : Int) := by unfold lo; omega
    rw [f1]
    have g1 : lo H n < 8589934592 := by unfold lo; omega
    have g2 := hi_eq h1
    unfold wd at g2
    rw [wu64 (x := (lo H n : Int)) (by omega) (by omega), wu64 (x := (lo H n : Int) + _) (by omega) (by omega), wu64 (by omega) (by omega)]
    congr 3; omega
  · rw [if_neg h1, if_neg (by omega), if_neg h1]
theorem both_eq' (h : Int) {i j : Nat} (hi' : i < 18446744073709551616) (hj : j < 18446744073709551616) (k : Nat) :
    sub_both.f (k + 1) h (i : Int) (j : Int) = some (if Sb h.toNat i j then ((lo h.toNat i : Int), (hi h.toNat i : Int), (if j = 0 then 0 else (lo h.toNat j : Int)), (if j = 0 then 0 else (hi h.toNat j : Int)), 0) else (0, 0, 0, 0, 1)) := by
  unfold sub_both.f
  rw [sCheck_eq h hi' hj]; simp only [Option.bind_some]
  by_cases h1 : Sb h.toNat i j
  · rw [if_pos h1, if_pos rfl, nLeaves_eq h hi', if_pos h1.1]; simp only [Option.bind_some, if_true]
    by_cases h0 : j = 0
    · subst h0; rw [if_pos (by rfl)]; simp [h1]
    · rw [if_neg (by omega), nLeaves_eq h hj, if_pos (h1.2.resolve_left h0).1]; simp only [Option.bind_some]
      simp [h1, h0]
  · rw [if_neg h1, if_neg (by omega), if_neg h1]
/-- A subset's leaves, as spans. -/
def spn (h i j : Nat) : List (Nat × Nat) := if j = 0 then [(lo h i, hi h i)] else (if lo h i < lo h j then [(lo h i, lo h j - 1)] else []) ++ (if hi h j < hi h i then [(hi h j + 1, hi h i)] else [])
def sps (l : List (Nat × Nat)) : List S50 := l.map fun p => ⟨(p.1 : Int), (p.2 : Int)⟩
theorem sLeaves_eq (h : Int) {i j : Nat} (hi' : i < 18446744073709551616) (hj : j < 18446744073709551616) (k : Nat) :
    sub_Leaves.f (k + 1) h (i : Int) (j : Int) = some (if Sb h.toNat i j then (sps (spn h.toNat i j), 0) else ([], 1)) := by
  unfold sub_Leaves.f
  rw [both_eq' h hi' hj]; simp only [Option.bind_some]
  by_cases h1 : Sb h.toNat i j
  · rw [if_pos h1, if_pos h1]; simp only [if_true]
    by_cases h0 : j = 0
    · subst h0; rw [if_pos (by rfl)]; simp [spn, sps]
    · have dj := (h1.2.resolve_left h0).1
      have hp : 2 ^ h.toNat ≤ 4294967296 := pow_le_h (by have := h1.1.2.1; omega)
      have l1 := hi_lt h1.1
      have l2 := hi_lt dj
      have q2 := hi_eq dj
      have w2 := wd_pos h.toNat j
      simp only [if_neg h0]
      rw [if_neg (by omega)]
      unfold spn; rw [if_neg h0]
      by_cases c1 : lo h.toNat i < lo h.toNat j
      · rw [if_pos (by omega), if_pos (by simp), if_pos c1]
        rw [wu64 (x := (lo h.toNat j : Int) - 1) (by omega) (by omega)]
        by_cases c2 : hi h.toNat j < hi h.toNat i
        · rw [if_pos (by omega), if_pos (by simp), if_pos c2, wu64 (by omega) (by omega)]
          simp [sps]; omega
        · rw [if_neg (by omega), if_neg c2]; simp [sps]; omega
      · rw [if_neg (by omega), if_neg c1]
        by_cases c2 : hi h.toNat j < hi h.toNat i
        · rw [if_pos (by omega), if_pos (by simp), if_pos c2, wu64 (by omega) (by omega)]; simp [sps]
        · rw [if_neg (by omega), if_neg c2]; rfl
  · rw [if_neg h1, if_neg (by simp), if_neg h1]
/-- A leaf of a subset. -/
def In (h i j p : Nat) : Prop := (lo h i ≤ p ∧ p ≤ hi h i) ∧ (j = 0 ∨ ¬ (lo h j ≤ p ∧ p ≤ hi h j))
instance (h i j p : Nat) : Decidable (In h i j p) := inferInstanceAs (Decidable (_ ∧ _))
theorem in_iff (h i j p : Nat) : In h i j p ↔ (lo h i ≤ p ∧ p ≤ hi h i) ∧ (j = 0 ∨ ¬ (lo h j ≤ p ∧ p ≤ hi h j)) := Iff.rfl
/-- What lies below lies within. -/
theorem abv_lohi {h i j : Nat} (di : Nd h i) (dj : Nd h j) (ab : Abv i j) : lo h i ≤ lo h j ∧ hi h j ≤ hi h i := by
  have := (abv_span di.2.2.1 dj.2.2.1 dj.2.2.2 ab.1).1 ab
  have h1 := lf_ge di.2.2.1 di.2.2.2
  have h2 := lf_ge dj.2.2.1 dj.2.2.2
  unfold lo hi; omega
theorem mem_spn {h i j : Nat} (s : Sb h i j) (p : Nat) : (∃ x ∈ spn h i j, x.1 ≤ p ∧ p ≤ x.2) ↔ In h i j p := by
  rw [in_iff]
  by_cases h0 : j = 0
  · simp [spn, h0]
  · obtain ⟨dj, ne, ab⟩ := s.2.resolve_left h0
    have a := abv_lohi s.1 dj ab
    have q2 := hi_eq dj
    have w2 := wd_pos h j
    unfold spn; rw [if_neg h0]
    by_cases c1 : lo h i < lo h j <;> by_cases c2 : hi h j < hi h i <;> simp [c1, c2, h0] <;> omega
/-- Spans stand in order, apart from each other, each of leaves. -/
def Rise (m : Nat) : Nat → List (Nat × Nat) → Prop
  | _, [] => True
  | from_, x :: l => from_ ≤ x.1 ∧ x.1 ≤ x.2 ∧ x.2 < m ∧ Rise m (x.2 + 1) l
theorem Rise.mono {m : Nat} {l : List (Nat × Nat)} {a b : Nat} (h : Rise m a l) (hb : b ≤ a) : Rise m b l := by
  cases l with
  | nil => trivial
  | cons x l => exact ⟨Nat.le_trans hb h.1, h.2⟩
theorem spn_rise {h i j : Nat} (s : Sb h i j) : Rise (2 ^ h) 0 (spn h i j) := by
  have q1 := hi_eq s.1
  have w1 := wd_pos h i
  have l1 := hi_lt s.1
  by_cases h0 : j = 0
  · simp [spn, h0, Rise]; omega
  · obtain ⟨dj, ne, ab⟩ := s.2.resolve_left h0
    have a := abv_lohi s.1 dj ab
    have q2 := hi_eq dj
    have w2 := wd_pos h j
    unfold spn; rw [if_neg h0]
    by_cases c1 : lo h i < lo h j <;> by_cases c2 : hi h j < hi h i <;> simp [c1, c2, Rise] <;> omega
def tot : List (Nat × Nat) → Nat
  | [] => 0
  | x :: l => (x.2 - x.1 + 1) + tot l
theorem tot_le {m : Nat} : ∀ {l : List (Nat × Nat)} {a : Nat}, Rise m a l → a ≤ m → a + tot l ≤ m
  | [], a, _, h => by simpa [tot] using h
  | x :: l, a, r, h => by
    obtain ⟨r1, r2, r3, r4⟩ := r
    have := tot_le r4 (by omega)
    unfold tot; omega
theorem spn_tot {h i j : Nat} (s : Sb h i j) : tot (spn h i j) + (if j = 0 then 0 else wd h j) = wd h i := by
  have q1 := hi_eq s.1
  have w1 := wd_pos h i
  by_cases h0 : j = 0
  · simp [spn, h0, tot]; omega
  · obtain ⟨dj, ne, ab⟩ := s.2.resolve_left h0
    have a := abv_lohi s.1 dj ab
    have q2 := hi_eq dj
    have w2 := wd_pos h j
    unfold spn; rw [if_neg h0, if_neg h0]
    by_cases c1 : lo h i < lo h j <;> by_cases c2 : hi h j < hi h i <;> simp [c1, c2, tot] <;> omega
theorem wd_lt {h i j : Nat} (s : Sb h i j) (h0 : j ≠ 0) : wd h j < wd h i := by
  obtain ⟨dj, ne, ab⟩ := s.2.resolve_left h0
  have : i.log2 < j.log2 := Nat.lt_of_le_of_ne ab.1 (fun e => ne (ab.eq_of_log2 e))
  unfold wd
  exact pow_lt (by have := dj.2.2.2; omega)
/-! leaves, and whether there is one -/
theorem nLeaf_eq (h : Int) {p : Nat} (hp : p < 18446744073709551616) : node_Leaf.f h (p : Int) = some (if Hi h then (if p < 2 ^ h.toNat then ((2 ^ h.toNat + p : Nat) : Int) else 0, if p < 2 ^ h.toNat then 0 else 4) else (0, 1)) := by
  unfold node_Leaf.f
  rw [high_eq]; simp only [Option.bind_some]
  by_cases h1 : Hi h
  · have hh := h1
    rw [hi_iff] at hh
    rw [decide_eq_true h1, if_pos rfl, if_pos (by omega), if_pos h1]
    have e : ((h.toNat : Nat) : Int) = h := by omega
    generalize hH : h.toNat = H at *
    subst e
    rw [shr_eq p (by omega)]
    have hz : 0 < 2 ^ H := pow_pos2 H
    by_cases c : p < 2 ^ H
    · have e1 : shl .u64 1 (H : Int) = ((2 ^ H : Nat) : Int) := by
        have hpH : 2 ^ H ≤ 4294967296 := pow_le_h (by omega)
        have := shl_eq (n := 1) (k := H) (by omega) (by omega)
        rw [Nat.one_mul] at this; exact this
      rw [Nat.div_eq_of_lt c, if_neg (by omega), e1, if_pos c, if_pos c]
      have hpH : 2 ^ H ≤ 4294967296 := pow_le_h (by omega)
      congr 2
      rw [Go.bits_or_u64_nat _ _ (by omega) (by omega)]
      have : 2 ^ H ||| p = 2 ^ H + p := by
        have := Nat.two_pow_add_eq_or_of_lt c 1
        rw [Nat.mul_one] at this; exact this.symm
      rw [this]
    · have : 1 ≤ p / 2 ^ H := (Nat.le_div_iff_mul_le hz).2 (by omega)
      rw [if_pos (by omega), if_neg c, if_neg c]
  · rw [decide_eq_false h1, if_neg (by simp), if_neg h1]
/-- A leaf lies below a node just if its number lies between. -/
theorem abv_lo_hi {h n p : Nat} (d : Nd h n) (hp : p < 2 ^ h) : Abv n (2 ^ h + p) ↔ lo h n ≤ p ∧ p ≤ hi h n := by
  have g1 := lf_ge d.2.2.1 d.2.2.2
  have g3 := lf_lt_rt h n
  have hs : 2 ^ (h + 1) = 2 ^ h * 2 := Nat.pow_succ 2 h
  rw [abv_leaf d.2.2.1 d.2.2.2 (by omega) (by omega)]
  unfold lo hi; omega
theorem sb_lt {h i j : Nat} (s : Sb h i j) : i < 18446744073709551616 ∧ j < 18446744073709551616 := by
  refine ⟨by have := s.1.lt33; omega, ?_⟩
  rcases s.2 with z | z
  · omega
  · have := z.1.lt33; omega
end Go.Proofs.Ytmaaibcnfhbajaa.Med
