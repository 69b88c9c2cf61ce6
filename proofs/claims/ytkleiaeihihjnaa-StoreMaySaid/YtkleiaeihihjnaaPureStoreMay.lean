/- StoreMay, plainly. -/
import Derived.Test.YtkleiaeihihjnaaZStoreMay
import Derived.Test.YtkleiaeihihjnaaMPx6
import Derived.Test.YtkleiaeihihjnaaMPx8
set_option linter.unusedVariables false
set_option linter.unusedSimpArgs false
set_option linter.unusedSectionVars false
namespace Go.Proofs.Ytkleiaeihihjnaa.Pure
open Go.RowKit Go.Proofs.YtkleiaeihihjnaaW.PrintWords Go.Proofs.YtkleiaeihihjnaaW.PrintMore Go.Proofs.Ytkleiaeihihjnaa.MP Go.Proofs.Ytkleiaeihihjnaa.Med
theorem tok_nil : tok ([] : List S45) := ⟨by simp, fun i => i.elim0⟩
theorem tok_atom : tok [(⟨1, 0, 0⟩ : S45)] := by
  refine ⟨by simp, ?_⟩
  rintro ⟨i, hi⟩ _
  have : i = 0 := by simp at hi; omega
  subst this
  exact ⟨show tmay (⟨1, 0, 0⟩ : S45) ((0 : Nat) : Int) = true by decide, by simp⟩
theorem Inv_atom : Inv [(⟨1, 0, 0⟩ : S45)] := ⟨fun t ht => by rw [List.mem_singleton.1 ht]; decide, by simp⟩
theorem den_atom : den [(⟨1, 0, 0⟩ : S45)] [] 0 := ⟨by decide, rfl⟩
/-- Of octets: each part is open, there are no terms. -/
theorem fold_oct : ∀ (cs : List Int) (b : S24), (∀ c ∈ cs, 0 ≤ c ∧ c ≤ 2) → ∃ b', cs.foldl sStep ([], vb b, 0) = ([], vb b', 0)
  | [], b, _ => ⟨b, rfl⟩
  | i :: cs, b, h => by
    have hi := h i List.mem_cons_self
    have e : sStep ([], vb b, 0) i = ([], vb (prt b i), 0) := by
      unfold sStep sPart
      rw [if_pos rfl, if_pos ⟨tok_nil, .inr ⟨rfl, rfl⟩, hi.1, hi.2⟩, if_neg (by simp [vb])]
      rfl
    obtain ⟨b', e'⟩ := fold_oct cs (prt b i) (fun c hc => h c (List.mem_cons_of_mem _ hc))
    exact ⟨b', by rw [List.foldl_cons, e, e']⟩
theorem sOne_oct (h : Nat) (s : Int) (b : S24) {p : Nat × Nat} (sb : Sb h p.1 p.2) (ss : Sch s) (my : May h s p.1 p.2) : ∃ b', sOne [] h s (vb b) p = (vb b', [], 0) := by
  have ho : vopn [] (vb b) := .inr ⟨rfl, rfl⟩
  unfold sOne
  by_cases c : p.2 = 0
  · rw [if_pos c]
    obtain ⟨b', e⟩ := fold_oct (codes p.1 p.2 ++ (if s = 1 then [] else [2])) b (fun x hx => by
      rcases List.mem_append.1 hx with hx | hx
      · exact codes_two _ _ x hx
      · split at hx
        · simp at hx
        · rw [List.mem_singleton.1 hx]; omega)
    refine ⟨b', ?_⟩
    unfold sKey
    rw [if_pos ⟨⟨tok_nil, ho⟩, ⟨ss, sb⟩, my⟩, e]; rfl
  · rw [if_neg c]
    obtain ⟨b', e⟩ := fold_oct (codes p.1 p.2) b (codes_two _ _)
    refine ⟨b', ?_⟩
    unfold sLab
    rw [if_pos ⟨⟨tok_nil, ho⟩, sb⟩, e]; rfl
/-- The entries of octets: each is a pair's, open. -/
def EntsB (P : List (Nat × Nat)) (L : List S50) : Prop := L.length = P.length ∧ ∀ j (h : j < L.length) (k : j < P.length), ∃ b, L[j] = ⟨⟨(P[j].1 : Int), (P[j].2 : Int)⟩, vb b⟩
theorem sAll_oct (h : Nat) (s : Int) (ss : Sch s) (b : S24) : ∀ (P : List (Nat × Nat)), (∀ p ∈ P, Sb h p.1 p.2 ∧ May h s p.1 p.2) → ∀ (Q : List (Nat × Nat)) (L : List S50), EntsB Q L →
    ∃ (L' : List S50), sAll h s (vb b) P L [] = (L', [], 0) ∧ EntsB (Q ++ P) L'
  | [], _, Q, L, E => ⟨L, rfl, by rw [List.append_nil]; exact E⟩
  | p :: P, hP, Q, L, E => by
    obtain ⟨sb, my⟩ := hP p List.mem_cons_self
    obtain ⟨b1, e1⟩ := sOne_oct h s b sb ss my
    have E1 : EntsB (Q ++ [p]) (L ++ [⟨⟨(p.1 : Int), (p.2 : Int)⟩, vb b1⟩]) := by
      refine ⟨by rw [List.length_append, List.length_append, E.1]; rfl, fun j hj hk => ?_⟩
      by_cases c : j < L.length
      · have c' : j < Q.length := by rw [← E.1]; exact c
        obtain ⟨b', e⟩ := E.2 j c c'
        exact ⟨b', by rw [List.getElem_append_left c, List.getElem_append_left c']; exact e⟩
      · have ej : j = L.length := by rw [List.length_append] at hj; simp at hj; omega
        refine ⟨b1, ?_⟩
        rw [List.getElem_append_right (by omega), List.getElem_append_right (by have := E.1; omega)]
        simp [ej, E.1]
    obtain ⟨L', e2, E2⟩ := sAll_oct h s ss b P (fun q hq => hP q (List.mem_cons_of_mem _ hq)) (Q ++ [p]) _ E1
    refine ⟨L', ?_, by rw [List.append_assoc] at E2; exact E2⟩
    rw [sAll, e1, if_pos rfl]; exact e2
theorem may_l1 (up : Bool) (L W Y : List S50) (i x : Int) (r : Bool) (c : Nat) (hi : 0 ≤ i) (hi' : i < (L.length : Int)) (hY : Y.length ≤ 100000) (hne : ∀ y ∈ Y, y.f1.f4 ≠ (rd_T50 L i).f1.f4)
    (last : ∀ k, c ≤ k → medlarlaw14_StoreMay.l0 k up L W (L.length : Int) (wrap64 (x + 1)) = some r) :
    ∀ (q j k : Nat), j + q = Y.length → q + 1 + c ≤ k → medlarlaw14_StoreMay.l1 k up L W i (L.length : Int) x Y (Y.length : Int) (j : Int) = some r := by
  intro q
  induction q with
  | zero =>
    intro j k hj hk
    obtain ⟨k, rfl⟩ : ∃ m, k = m + 1 := ⟨k - 1, by omega⟩
    rw [medlarlaw14_StoreMay.l1, if_neg (by omega)]
    exact last k (by omega)
  | succ q ih =>
    intro j k hj hk
    obtain ⟨k, rfl⟩ : ∃ m, k = m + 1 := ⟨k - 1, by omega⟩
    have j1 : j < Y.length := by omega
    have ne := hne _ (List.getElem_mem j1)
    rw [medlarlaw14_StoreMay.l1, if_pos (by omega), if_pos (by omega), if_pos (by omega), if_pos hi, if_pos hi', rdE j1, if_neg (by simp [ne]), w64 (by omega) (by omega), show (j : Int) + 1 = ((j + 1 : Nat) : Int) by omega]
    exact ih (j + 1) k (by omega) (by omega)
theorem may_l0 (L W : List S50) (hn : L.length ≤ 2000) (hl : W.length = L.length) (hs : ∀ j (h : j < L.length) (h' : j < W.length), L[j].f0 = W[j].f0) (hne : ∀ i j (hi : i < L.length) (hj : j < L.length), i ≠ j → L[i].f1.f4 ≠ L[j].f1.f4) :
    ∀ (q j k : Nat), j + q = L.length → q * 2010 + 5 ≤ k → medlarlaw14_StoreMay.l0 k true L W (L.length : Int) (j : Int) = some true := by
  intro q
  induction q with
  | zero =>
    intro j k hj hk
    obtain ⟨k, rfl⟩ : ∃ m, k = m + 1 := ⟨k - 1, by omega⟩
    rw [medlarlaw14_StoreMay.l0, if_neg (by omega)]
  | succ q ih =>
    intro j k hj hk
    obtain ⟨k, rfl⟩ : ∃ m, k = m + 1 := ⟨k - 1, by omega⟩
    have j1 : j < L.length := by omega
    have j2 : j < W.length := by omega
    rw [medlarlaw14_StoreMay.l0, if_pos (by omega), if_pos (by omega), if_pos (by omega), if_pos (by omega), rdE j1, rdE j2, hs j j1 j2, if_neg (by simp), if_pos (by omega)]; simp only [bnd]
    rw [Int.toNat_natCast]
    have z := may_l1 true L W (L.take j) (j : Int) (j : Int) true (q * 2010 + 5) (by omega) (by omega) (by rw [List.length_take]; omega) (fun y hy => by
      obtain ⟨t, ht, rfl⟩ := List.getElem_of_mem hy
      have ht' : t < j := by rw [List.length_take] at ht; omega
      rw [List.getElem_take, rdE j1]
      exact hne t j (by omega) j1 (by omega)) (fun k' hk' => by
      rw [w64 (by omega) (by omega), show (j : Int) + 1 = ((j + 1 : Nat) : Int) by omega]
      exact ih (j + 1) k' (by omega) hk') (L.take j).length 0 k (by omega) (by rw [List.length_take]; omega)
    exact z
theorem StoreMay (a b h s i : Int) (wa : (Lit.int .u64 a).wf = true) (wb : (Lit.int .u64 b).wf = true) (wh : (Lit.int .i64 h).wf = true) (ws : (Lit.int .i64 s).wf = true) (wi : (Lit.int .u64 i).wf = true) :
    ∃ k, medlarlaw14_StoreMay.f k a b h s i = some true := by
  obtain ⟨p, rfl, hp⟩ := wf_u64 wi
  refine ⟨3000000, ?_⟩
  obtain ⟨K, hK⟩ : ∃ K : Nat, K = 3000000 := ⟨_, rfl⟩
  rw [← hK]
  unfold medlarlaw14_StoreMay.f
  rw [live14 (by omega)]; simp only [bnd]
  by_cases c8 : h > 8
  · rw [if_pos c8]
  rw [if_neg c8]
  have m1 := Make_eq h s hp Inv_atom (vs 0) (k := K) (by omega)
  have m2 := Make_eq h s hp Inv.nil (vb ⟨a, b⟩) (k := K) (by omega)
  rw [show store_Make.f K [(⟨1, 0, 0⟩ : S45)] h s true false 0 0 0 0 0 0 0 (p : Int) = some (sMake [⟨1, 0, 0⟩] h s (vs 0) p) from m1]; simp only [bnd]
  rw [show store_Make.f K [] h s false false a b 0 0 0 0 0 (p : Int) = some (sMake [] h s (vb ⟨a, b⟩) p) from m2]; simp only [bnd]
  have o1 : vopn [(⟨1, 0, 0⟩ : S45)] (vs 0) := den_open den_atom (by simp)
  have o2 : vopn [] (vb ⟨a, b⟩) := .inr ⟨rfl, rfl⟩
  by_cases c : Sch s ∧ Lfi h p
  · have ch := c.2.1
    rw [hi_iff] at ch
    have hx : 2 ^ h.toNat + p ≠ 0 := by have := Nat.pow_pos (n := h.toNat) (show 0 < 2 by decide); omega
    have hl : (2 ^ h.toNat + p).log2 = h.toNat := by
      rw [Nat.log2_eq_iff hx]
      have := c.2.2
      rw [Nat.pow_succ]
      omega
    have hlt := prs_lt c
    have nd := prs_nd (s := s) hx hl
    have pm := prs_pmn c.1 (show h.toNat ≤ 32 by omega) hx hl
    have pl2 := pmn_le (h := h.toNat) (by omega) (by omega) s
    obtain ⟨P, hP⟩ : ∃ P, P = prs h.toNat s (2 ^ h.toNat + p) := ⟨_, rfl⟩
    rw [← hP] at hlt nd pm
    obtain ⟨L, m, e1, k1, I1, E1⟩ := sAll_den h.toNat s (by omega) c.1 P (fun q hq => (hlt q hq).2) [] [] [(⟨1, 0, 0⟩ : S45)] Inv_atom tok_atom (by simp only [List.length_cons, List.length_nil]; omega) den_atom ⟨rfl, fun j hj => by simp at hj⟩
    obtain ⟨W, e2, E2⟩ := sAll_oct h.toNat s c.1 ⟨a, b⟩ P (fun q hq => (hlt q hq).2) [] [] ⟨rfl, fun j hj => by simp at hj⟩
    rw [List.nil_append] at E1 E2
    have s1 : sMake [(⟨1, 0, 0⟩ : S45)] h s (vs 0) p = (L, m, 0) := by
      unfold sMake
      rw [if_pos ⟨c, tok_atom, o1⟩, ← hP]; exact e1
    have s2 : sMake [] h s (vb ⟨a, b⟩) p = (W, [], 0) := by
      unfold sMake
      rw [if_pos ⟨c, tok_nil, o2⟩, ← hP]; exact e2
    rw [s1, s2]
    dsimp only
    rw [if_pos rfl, Many14_eq h s (by omega), if_pos ⟨c.1, c.2.1⟩]; simp only [bnd]
    rw [if_pos trivial, if_pos trivial, ← pm, E1.1, E2.1, if_pos rfl, if_pos rfl, if_pos (by simp)]
    have q1 : okt m (rd_T50 L 0).f1.f0 L P := by
      refine okt_of E1.1 (fun j hj hk => ?_)
      obtain ⟨T, e, d⟩ := E1.2 j hj hk
      have e0 : (rd_T50 L 0).f1.f0 = true := by
        have h0 : 0 < L.length := by omega
        obtain ⟨T0, e0, _⟩ := E1.2 0 h0 (by rw [← E1.1]; exact h0)
        have := rdE h0
        rw [show ((0 : Nat) : Int) = 0 from rfl] at this
        rw [this, e0]; rfl
      rw [e, e0]
      exact ⟨rfl, den_open d (fun c' hc => pth_two s _ c' (List.mem_reverse.1 hc)), rfl⟩
    have q2 : okt [] (rd_T50 W 0).f1.f0 W P := by
      refine okt_of E2.1 (fun j hj hk => ?_)
      obtain ⟨b', e⟩ := E2.2 j hj hk
      have e0 : (rd_T50 W 0).f1.f0 = false := by
        have h0 : 0 < W.length := by omega
        obtain ⟨T0, e0⟩ := E2.2 0 h0 (by rw [← E2.1]; exact h0)
        have := rdE h0
        rw [show ((0 : Nat) : Int) = 0 from rfl] at this
        rw [this, e0]; rfl
      rw [e, e0]
      exact ⟨rfl, .inr ⟨rfl, rfl⟩, rfl⟩
    have lL := E1.1
    have lW := E2.1
    rw [hP] at q1 q2
    rw [stCheckT_eq I1 h s hp L (by omega) (by omega) (by omega), if_pos ⟨c, k1, q1⟩]; simp only [bnd]
    rw [if_pos trivial, stCheckT_eq Inv.nil h s hp W (by omega) (by omega) (by omega), if_pos ⟨c, tok_nil, q2⟩]; simp only [bnd]
    obtain ⟨K', rfl⟩ : ∃ n, K = n + 1 := ⟨K - 1, by omega⟩
    rw [medlarlaw14_StoreMay.j0, if_neg (by decide)]
    have z := may_l0 L W (by omega) (by omega) (fun j hj hj' => by
      obtain ⟨T, e, _⟩ := E1.2 j hj (by omega)
      obtain ⟨b', e'⟩ := E2.2 j hj' (by omega)
      rw [e, e']) (fun i' j' hi' hj' hne => E1.differ nd (fun q hq => (hlt q hq).2.1) hi' hj' hne) L.length 0 K' (by omega) (by omega)
    exact z
  · have s1 : sMake [(⟨1, 0, 0⟩ : S45)] h s (vs 0) p = ([], [], 1) := by
      unfold sMake
      rw [if_neg (fun z => c z.1)]
    have s2 : sMake [] h s (vb ⟨a, b⟩) p = ([], [], 1) := by
      unfold sMake
      rw [if_neg (fun z => c z.1)]
    rw [s1, s2]
    dsimp only
    rw [if_neg (by decide), if_pos rfl, if_pos (by trivial)]
    rfl
end Go.Proofs.Ytkleiaeihihjnaa.Pure
