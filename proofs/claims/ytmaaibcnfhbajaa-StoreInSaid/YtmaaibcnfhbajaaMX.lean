/- A leaf's pairs: what the functions of store come to, on numbers. -/
import Derived.Test.YtmaaibcnfhbajaaMY
import Derived.Laws.Bits64
import Derived.Test.YtmaaibcnfhbajaaMPx8
set_option linter.unusedVariables false
set_option linter.unusedSimpArgs false
namespace Go.Proofs.Ytmaaibcnfhbajaa.Med
open Go.RowKit Go.Proofs.YtmaaibcnfhbajaaW.PrintWords Go.Proofs.YtmaaibcnfhbajaaW.PrintMore Go.Proofs.Ytmaaibcnfhbajaa.MP

/-- The other one below the one above. -/
def sib (n : Nat) : Nat := n ^^^ 1
theorem sib_eq (n : Nat) : sib n = if n % 2 = 0 then n + 1 else n - 1 := by
  unfold sib
  have h1 : (n ^^^ 1) / 2 = n / 2 := by rw [Nat.xor_div_two]; simp
  have h2 : (n ^^^ 1) % 2 = (n + 1) % 2 := by
    have h3 : (n ^^^ 1) % 2 ^ 1 = n % 2 ^ 1 ^^^ 1 % 2 ^ 1 := Nat.xor_mod_two_pow
    rw [Nat.pow_one] at h3
    rw [h3]
    rcases Nat.mod_two_eq_zero_or_one n with z | z
    · rw [z]; have : (0 ^^^ 1 % 2 : Nat) = 1 := by decide
      omega
    · rw [z]; have : (1 ^^^ 1 % 2 : Nat) = 0 := by decide
      omega
  split <;> omega
theorem sib_half (n : Nat) : sib n / 2 = n / 2 := by rw [sib_eq]; split <;> omega
theorem sib_ne (n : Nat) : sib n ≠ n := by rw [sib_eq]; split <;> omega
theorem sib_pos {n : Nat} (h : 2 ≤ n) : 2 ≤ sib n := by rw [sib_eq]; split <;> omega
theorem sib_log2 {n : Nat} (h : 2 ≤ n) : (sib n).log2 = n.log2 := by
  have h1 := log2_half h
  have h2 := log2_half (sib_pos h)
  rw [sib_half] at h2; omega
theorem anc_half {n d : Nat} (h : 2 ≤ n) (hd : d < n.log2) : anc n d = anc (n / 2) d := by
  have h1 := log2_half h
  unfold anc
  rw [show n.log2 - d = 1 + ((n / 2).log2 - d) by omega, Nat.pow_add, Nat.pow_one, Nat.div_div_eq_div_mul]
theorem anc_sib {n d : Nat} (h : 2 ≤ n) (hd : d < n.log2) : anc (sib n) d = anc n d := by
  rw [anc_half h hd, anc_half (sib_pos h) (by rw [sib_log2 h]; exact hd), sib_half]
theorem anc_two {x e : Nat} (hx : x ≠ 0) (h1 : 1 ≤ e) (h2 : e ≤ x.log2) : 2 ≤ anc x e := by
  have h := anc_log2 hx h2
  have h0 := anc_ne (d := e) hx
  have := (log2_iff h0).1 h
  have := pow_mono h1
  omega
/-- The pair of a leaf's way, from depth t down to e's other one. -/
theorem pair_sb {h x t e : Nat} (hh : 1 ≤ h ∧ h ≤ 32) (hx : x ≠ 0) (hl : x.log2 = h) (ht : t < e) (he : e ≤ h) :
    Sb h (anc x t) (sib (anc x e)) ∧ Abv (anc x t) x ∧ ¬ Abv (sib (anc x e)) x ∧ sib (anc x e) ≠ 0 ∧ (anc x t).log2 = t ∧ (sib (anc x e)).log2 = e := by
  have l1 := anc_log2 hx (show t ≤ x.log2 by omega)
  have l2 := anc_log2 hx (show e ≤ x.log2 by omega)
  have n1 := anc_ne (d := t) hx
  have n2 := anc_two hx (show 1 ≤ e by omega) (by omega)
  have n3 := sib_pos n2
  have l3 := sib_log2 n2
  have s0 : sib (anc x e) ≠ 0 := by omega
  refine ⟨⟨⟨hh.1, hh.2, n1, by omega⟩, .inr ⟨⟨hh.1, hh.2, s0, by omega⟩, fun z => ?_, by omega, ?_⟩⟩, abv_anc hx (by omega), ?_, s0, l1, by omega⟩
  · rw [← z] at l3; omega
  · rw [l1, anc_sib n2 (by omega), anc_anc hx (by omega) (by omega)]
  · rintro ⟨_, z⟩
    rw [l3, l2] at z
    exact sib_ne _ z.symm
def okp (h : Nat) (s : Int) (i j : Nat) : Bool := decide (s ≠ 3) || decide (Usf h i j)
def inl (h : Nat) (s : Int) (x t : Nat) : Nat → Nat → List (Nat × Nat)
  | _, 0 => []
  | e, m + 1 => (if okp h s (anc x t) (sib (anc x e)) = true then [(anc x t, sib (anc x e))] else []) ++ inl h s x t (e + 1) m
def outl (h : Nat) (s : Int) (x : Nat) : Nat → Nat → List (Nat × Nat)
  | _, 0 => []
  | t, m + 1 => inl h s x t (t + 1) (h - t) ++ outl h s x (t + 1) m
def prs (h : Nat) (s : Int) (x : Nat) : List (Nat × Nat) := if s = 1 then (List.range (h + 1)).map fun d => (anc x d, 0) else (1, 0) :: outl h s x 0 h
theorem mem_inl {h : Nat} {s : Int} {x t : Nat} {p : Nat × Nat} : ∀ {m e : Nat}, p ∈ inl h s x t e m ↔ ∃ d, e ≤ d ∧ d < e + m ∧ p = (anc x t, sib (anc x d)) ∧ okp h s (anc x t) (sib (anc x d)) = true
  | 0, e => by simp [inl]; omega
  | m + 1, e => by
    rw [inl, List.mem_append, mem_inl (m := m)]
    constructor
    · rintro (z | ⟨d, h1, h2, h3⟩)
      · split at z
        · rename_i c
          simp only [List.mem_singleton] at z
          exact ⟨e, Nat.le_refl _, by omega, z, c⟩
        · simp at z
      · exact ⟨d, by omega, by omega, h3⟩
    · rintro ⟨d, h1, h2, h3, h4⟩
      by_cases c : d = e
      · subst c; left; rw [if_pos h4]; simp [h3]
      · right; exact ⟨d, by omega, by omega, h3, h4⟩
theorem mem_outl {h : Nat} {s : Int} {x : Nat} {p : Nat × Nat} : ∀ {m t : Nat}, t + m = h → (p ∈ outl h s x t m ↔ ∃ q d, t ≤ q ∧ q < d ∧ d ≤ h ∧ p = (anc x q, sib (anc x d)) ∧ okp h s (anc x q) (sib (anc x d)) = true)
  | 0, t, ht => by simp [outl]; omega
  | m + 1, t, ht => by
    rw [outl, List.mem_append, mem_inl, mem_outl (m := m) (by omega)]
    constructor
    · rintro (⟨d, h1, h2, h3, h4⟩ | ⟨q, d, h1, h2, h3, h4⟩)
      · exact ⟨t, d, Nat.le_refl _, by omega, by omega, h3, h4⟩
      · exact ⟨q, d, by omega, h2, h3, h4⟩
    · rintro ⟨q, d, h1, h2, h3, h4⟩
      by_cases c : q = t
      · subst c; left; exact ⟨d, by omega, by omega, h4⟩
      · right; exact ⟨q, d, by omega, h2, h3, h4⟩
theorem inl_len {h : Nat} {s : Int} {x t : Nat} : ∀ {m e : Nat}, (inl h s x t e m).length ≤ m
  | 0, e => by simp [inl]
  | m + 1, e => by
    rw [inl, List.length_append]
    have := inl_len (h := h) (s := s) (x := x) (t := t) (m := m) (e := e + 1)
    split <;> simp <;> omega
theorem outl_len {h : Nat} {s : Int} {x : Nat} : ∀ {m t : Nat}, (outl h s x t m).length ≤ m * h
  | 0, t => by simp [outl]
  | m + 1, t => by
    rw [outl, List.length_append, Nat.add_mul, Nat.one_mul]
    have := outl_len (h := h) (s := s) (x := x) (m := m) (t := t + 1)
    have := inl_len (h := h) (s := s) (x := x) (t := t) (m := h - t) (e := t + 1)
    omega
theorem prs_len {h : Nat} (hh : h ≤ 32) (s : Int) (x : Nat) : (prs h s x).length ≤ 1025 := by
  unfold prs
  split
  · simp; omega
  · have := outl_len (h := h) (s := s) (x := x) (m := h) (t := 0)
    have : h * h ≤ 32 * 32 := Nat.mul_le_mul hh hh
    simp only [List.length_cons]; omega
theorem sbs_app (l m : List (Nat × Nat)) : sbs l ++ sbs m = sbs (l ++ m) := by simp [sbs]
theorem shr_anc {x h d : Nat} (hl : x.log2 = h) (hh : h ≤ 32) (hd : d ≤ h) : shr .u64 (x : Int) (wrap64 ((h : Int) - (d : Int))) = (anc x d : Int) := by
  rw [w64 (by omega) (by omega), show (h : Int) - (d : Int) = ((h - d : Nat) : Int) by omega, shr_eq _ (by omega)]
  unfold anc; rw [hl]
theorem xor_sib {n : Nat} (hn : n < 8589934592) : Go.bits .xor .u64 (n : Int) 1 = (sib n : Int) := by
  have := Go.bits_xor_u64_nat n 1 (by omega) (by omega)
  exact this
theorem pairs_l0 {h x : Nat} (hl : x.log2 = h) (hh : h ≤ 32) : ∀ (m d k : Nat) (L : List (Nat × Nat)), d + m = h + 1 → m < k → L.length + m ≤ 40 →
    store_Pairs.l0 k (h : Int) (x : Int) (sbs L) ((h + 1 : Nat) : Int) (d : Int) = some (sbs (L ++ ((List.range m).map fun q => (anc x (d + q), 0))), 0) := by
  intro m
  induction m with
  | zero =>
    intro d k L hd hk hL
    obtain ⟨k, rfl⟩ : ∃ m, k = m + 1 := ⟨k - 1, by omega⟩
    simp only [store_Pairs.l0]
    rw [if_neg (by omega)]; simp
  | succ m ih =>
    intro d k L hd hk hL
    obtain ⟨k, rfl⟩ : ∃ m, k = m + 1 := ⟨k - 1, by omega⟩
    simp only [store_Pairs.l0]
    rw [if_pos (by omega), if_pos (by rw [w64 (by omega) (by omega)]; omega), if_pos (by rw [sbs_len]; omega), shr_anc hl hh (by omega), w64 (x := (d : Int) + 1) (by omega) (by omega), show (d : Int) + 1 = ((d + 1 : Nat) : Int) by omega,
      show [(⟨(anc x d : Int), 0⟩ : S24)] = sbs [(anc x d, 0)] from rfl, sbs_app, ih (d + 1) k _ (by omega) (by omega) (by simp; omega)]
    congr 2
    rw [List.append_assoc, List.range_succ_eq_map]
    simp only [List.map_cons, List.map_map, List.singleton_append, Nat.add_zero]
    congr 4
    funext q
    simp only [Function.comp]
    rw [show d + 1 + q = d + (q + 1) by omega]
theorem pairs_l1 {h x : Nat} {s : Int} (hl : x.log2 = h) (hx : x ≠ 0) (h1 : 1 ≤ h) (hh : h ≤ 32) (hs : s ≠ 1) : ∀ (n t k : Nat) (L : List (Nat × Nat)), t + n = h → n * 40 + 20 ≤ k → L.length + n * 40 ≤ 2000 →
    store_Pairs.l1 k (h : Int) s (x : Int) (sbs L) (h : Int) (t : Int) = some (sbs (L ++ outl h s x t n), 0) ∧
    (t < h → ∀ (m e : Nat) (k : Nat) (L : List (Nat × Nat)), t < e → e + m = h + 1 → (n - 1) * 40 + 21 + m ≤ k → L.length + (n - 1) * 40 + m ≤ 2000 →
      store_Pairs.l2 k (h : Int) s (x : Int) (sbs L) (t : Int) (e : Int) (h : Int) (t : Int) = some (sbs (L ++ (inl h s x t e m ++ outl h s x (t + 1) (n - 1))), 0)) := by
  intro n
  have hxlt : x < 8589934592 := Nat.lt_of_lt_of_le (log2_hi x) (pow_le_32 (by omega))
  induction n with
  | zero =>
    intro t k L ht hk hL
    refine ⟨?_, fun c => absurd c (by omega)⟩
    obtain ⟨k, rfl⟩ : ∃ m, k = m + 1 := ⟨k - 1, by omega⟩
    simp only [store_Pairs.l1]
    rw [if_neg (by omega)]; simp [outl]
  | succ n ih =>
    have inner : ∀ (t : Nat), t + (n + 1) = h → ∀ (m e : Nat) (k : Nat) (L : List (Nat × Nat)), t < e → e + m = h + 1 → n * 40 + 21 + m ≤ k → L.length + n * 40 + m ≤ 2000 →
      store_Pairs.l2 k (h : Int) s (x : Int) (sbs L) (t : Int) (e : Int) (h : Int) (t : Int) = some (sbs (L ++ (inl h s x t e m ++ outl h s x (t + 1) n)), 0) := by
      intro t ht m
      induction m with
      | zero =>
        intro e k L he hm hk hL
        obtain ⟨k, rfl⟩ : ∃ m, k = m + 1 := ⟨k - 1, by omega⟩
        simp only [store_Pairs.l2]
        rw [if_neg (by omega), w64 (by omega) (by omega), show (t : Int) + 1 = ((t + 1 : Nat) : Int) by omega, (ih (t + 1) k L (by omega) (by omega) (by omega)).1]
        simp [inl]
      | succ m ihm =>
        intro e k L he hm hk hL
        obtain ⟨k, rfl⟩ : ∃ m, k = m + 1 := ⟨k - 1, by omega⟩
        obtain ⟨sb, _, _, _, _, _⟩ := pair_sb ⟨h1, hh⟩ hx hl he (show e ≤ h by omega)
        have a33 : anc x e < 8589934592 := Nat.lt_of_le_of_lt (anc_le x e) hxlt
        have b := sb_lt sb
        simp only [store_Pairs.l2]
        rw [if_pos (by omega), if_pos (by rw [w64 (by omega) (by omega)]; omega), if_pos (by rw [w64 (by omega) (by omega)]; omega), shr_anc hl hh (by omega), shr_anc hl hh (by omega), xor_sib a33, w64 (x := (e : Int) + 1) (by omega) (by omega), show (e : Int) + 1 = ((e + 1 : Nat) : Int) by omega,
          show [(⟨(anc x t : Int), (sib (anc x e) : Int)⟩ : S24)] = sbs [(anc x t, sib (anc x e))] from rfl, sbs_app]
        have r1 := ihm (e + 1) k (L ++ [(anc x t, sib (anc x e))]) (by omega) (by omega) (by omega) (by simp; omega)
        have r2 := ihm (e + 1) k L (by omega) (by omega) (by omega) (by omega)
        rw [sbs_len, inl]
        by_cases c3 : s = 3
        · have hu := Useful_eq (h : Int) b.1 b.2 (k := k) (by omega)
          rw [Int.toNat_natCast, if_pos sb] at hu
          rw [if_pos c3, hu]; simp only [bnd]
          rw [if_pos trivial]
          by_cases c4 : Usf h (anc x t) (sib (anc x e))
          · have o : okp h s (anc x t) (sib (anc x e)) = true := by simp [okp, c4]
            rw [decide_eq_true c4, if_pos rfl, if_pos (by omega), r1, if_pos o]
            simp [List.append_assoc]
          · have o : ¬ okp h s (anc x t) (sib (anc x e)) = true := by simp [okp, c3, c4]
            rw [decide_eq_false c4, if_neg (by simp), r2, if_neg o]
            simp
        · have o : okp h s (anc x t) (sib (anc x e)) = true := by simp [okp, c3]
          rw [if_neg c3, if_pos (by omega), r1, if_pos o]
          simp [List.append_assoc]
    intro t k L ht hk hL
    refine ⟨?_, fun c m e k L a1 a2 a3 a4 => inner t ht m e k L a1 a2 (by omega) (by omega)⟩
    obtain ⟨k, rfl⟩ : ∃ m, k = m + 1 := ⟨k - 1, by omega⟩
    simp only [store_Pairs.l1]
    rw [if_pos (by omega), w64 (by omega) (by omega), show (t : Int) + 1 = ((t + 1 : Nat) : Int) by omega, inner t ht (h - t) (t + 1) k L (by omega) (by omega) (by omega) (by omega), outl]
theorem Pairs_eq (h s : Int) {p : Nat} (hp : p < 18446744073709551616) {k : Nat} (hk : 1400 ≤ k) :
    store_Pairs.f k h s (p : Int) = some (if Sch s ∧ Lfi h p then (sbs (prs h.toNat s (2 ^ h.toNat + p)), 0) else ([], 1)) := by
  obtain ⟨k, rfl⟩ : ∃ m, k = m + 1 := ⟨k - 1, by omega⟩
  unfold store_Pairs.f
  rw [Many14_eq h s (by omega), nLeaf_eq h hp]; simp only [bnd]
  by_cases c1 : Sch s ∧ Hi h
  · rw [if_pos c1]; dsimp only
    rw [if_pos rfl, if_pos c1.2]
    by_cases c2 : p < 2 ^ h.toNat
    · have c3 : Sch s ∧ Lfi h p := ⟨c1.1, c1.2, c2⟩
      have hh := c1.2
      rw [hi_iff] at hh
      obtain ⟨H, rfl⟩ := Int.eq_ofNat_of_zero_le (show 0 ≤ h by omega)
      simp only [Int.toNat_natCast] at *
      have pm := pmn_le (h := H) (by omega) (by omega) s
      have hlog : (2 ^ H + p).log2 = H := leaf_log2 (by omega) (by rw [Nat.pow_succ]; omega)
      have hne : 2 ^ H + p ≠ 0 := by have := pow_pos2 H; omega
      rw [if_pos c2, if_pos c2, if_pos c3]
      simp only [store_Pairs.j0]
      rw [if_neg (by simp), if_pos (by omega), if_pos (by omega)]; simp only [bnd]
      by_cases s1 : s = 1
      · have := pairs_l0 hlog (by omega) (H + 1) 0 k [] (by omega) (by omega) (by simp; omega)
        rw [if_pos s1, w64 (by omega) (by omega), show (H : Int) + 1 = ((H + 1 : Nat) : Int) by omega, show (List.replicate 0 z24) = sbs [] from rfl, show (0 : Int) = ((0 : Nat) : Int) from rfl, this]
        unfold prs; rw [if_pos s1]; simp
      · have := (pairs_l1 (s := s) hlog hne (by omega) (by omega) s1 H 0 k [(1, 0)] (by omega) (by omega) (by simp; omega)).1
        rw [if_neg s1, if_pos (by simp), show (List.replicate 0 z24) ++ [(⟨1, 0⟩ : S24)] = sbs [(1, 0)] from rfl]
        rw [show ((0 : Nat) : Int) = 0 from rfl] at this
        rw [this]
        unfold prs; rw [if_neg s1]; rfl
    · have c3 : ¬ (Sch s ∧ Lfi h p) := fun z => c2 z.2.2
      rw [if_neg c2, if_neg c2, if_neg c3]; simp [store_Pairs.j0]
  · have c3 : ¬ (Sch s ∧ Lfi h p) := fun z => c1 ⟨z.1, z.2.1⟩
    rw [if_neg c1, if_neg c3]; simp [store_Pairs.j0]
/-- All pairs of a leaf: the leaf is in each, and each may be of the scheme. -/
theorem prs_mem {H x : Nat} {s : Int} (hs : Sch s) (hh : 1 ≤ H ∧ H ≤ 32) (hx : x ≠ 0) (hl : x.log2 = H) {q : Nat × Nat} (hq : q ∈ prs H s x) :
    Sb H q.1 q.2 ∧ Abv q.1 x ∧ (q.2 = 0 ∨ ¬ Abv q.2 x) ∧ May H s q.1 q.2 := by
  rw [sch_iff] at hs
  unfold prs at hq
  by_cases s1 : s = 1
  · rw [if_pos s1] at hq
    simp only [List.mem_map, List.mem_range] at hq
    obtain ⟨d, hd, rfl⟩ := hq
    have l1 := anc_log2 hx (show d ≤ x.log2 by omega)
    have l2 : (anc x d).log2 ≤ H := by omega
    exact ⟨⟨⟨hh.1, hh.2, anc_ne hx, l2⟩, .inl rfl⟩, abv_anc hx (by omega), .inl rfl, .inl ⟨s1, rfl⟩⟩
  · rw [if_neg s1] at hq
    rcases List.mem_cons.1 hq with rfl | hq
    · have n1 : Nd H 1 := nd_root.2 hh
      refine ⟨⟨n1, .inl rfl⟩, abv_root hx, .inl rfl, ?_⟩
      by_cases s2 : s = 2
      · exact .inr (.inl ⟨s2, .inr rfl⟩)
      · exact .inr (.inr ⟨s1, s2, (usf_0 _ _).2 rfl⟩)
    · obtain ⟨t, d, h1, h2, h3, rfl, o⟩ := (mem_outl (by omega)).1 hq
      obtain ⟨a, b, c, e, _, _⟩ := pair_sb hh hx hl h2 h3
      refine ⟨a, b, .inr c, ?_⟩
      by_cases s2 : s = 2
      · exact .inr (.inl ⟨s2, .inl e⟩)
      · refine .inr (.inr ⟨s1, s2, ?_⟩)
        have s3 : s = 3 := by omega
        simpa [okp, s3] using o
theorem in_abv {h i j p : Nat} (s : Sb h i j) (hp : p < 2 ^ h) : In h i j p ↔ Abv i (2 ^ h + p) ∧ (j = 0 ∨ ¬ Abv j (2 ^ h + p)) := by
  rw [in_iff, abv_lo_hi s.1 hp]
  by_cases h0 : j = 0
  · simp [h0]
  · rw [abv_lo_hi (s.2.resolve_left h0).1 hp]
/-- Those without a J that may be of a scheme, and in which the leaf is, are among them. -/
theorem prs_whole {H x : Nat} {s : Int} (hs : Sch s) (hx : x ≠ 0) (hl : x.log2 = H) {i : Nat} (ab : Abv i x) (my : May H s i 0) : (i, 0) ∈ prs H s x := by
  rw [sch_iff] at hs
  unfold prs
  by_cases s1 : s = 1
  · rw [if_pos s1]
    simp only [List.mem_map, List.mem_range]
    exact ⟨i.log2, by have := ab.1; omega, by rw [ab.2]⟩
  · rw [if_neg s1]
    have : i = 1 := by
      rcases my with ⟨a, _⟩ | ⟨_, a⟩ | ⟨_, _, a⟩
      · exact absurd a s1
      · rcases a with a | a
        · exact absurd rfl a
        · exact a
      · exact (usf_0 _ _).1 a
    rw [this]; exact List.mem_cons_self
end Go.Proofs.Ytmaaibcnfhbajaa.Med
