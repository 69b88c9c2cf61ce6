/- TraceHalves: for every height, scheme, subset and leaf: the halves are two, may be of the scheme, and have the subset's leaves, each once; a subset that has none has one leaf alone; no condition. -/
import Derived.Test.YtnbiddloiiljjaaZTraceHalves
import Derived.Test.YtnbiddloiiljjaaMPx5
import Derived.Test.YtnbiddloiiljjaaMPx6
set_option linter.unusedVariables false
set_option linter.unusedSimpArgs false
set_option linter.unusedSectionVars false
namespace Go.Proofs.Ytnbiddloiiljjaa.Pure
open Go.RowKit Go.Proofs.Ytnbiddloiiljjaa.MP Go.Proofs.YtnbiddloiiljjaaW.PrintWords Go.Proofs.YtnbiddloiiljjaaW.PrintLast Go.Proofs.Ytnbiddloiiljjaa.Med
theorem tot_sb {h i j : Nat} (s : Sb h i j) : tot (spn h i j) ≤ 4294967296 := by
  have := tot_le (spn_rise s) (Nat.zero_le _)
  have := pow_le_h s.1.2.1
  omega
theorem halves_step (h s : Int) {q : Nat × Nat} (f : Fit h.toNat s q.1 q.2) {p : Nat} (hp : p < 18446744073709551616) (n c x17 : Nat) (hn : n ≤ 4294967296) (hc : c ≤ 1000) (x14 : Int) (x16 : Bool) {l : List (Nat × Nat)} {t : Nat} (ht : t < l.length) (hl : l.length ≤ 1000) (e : l[t] = q) {k : Nat} (hk : 20 ≤ k) :
    medlarlaw23_TraceHalves.l0 (k + 2) h s (p : Int) true x14 x16 (x17 : Int) (n : Int) (c : Int) (sbs l) (l.length : Int) (t : Int) =
    medlarlaw23_TraceHalves.l0 k h s (p : Int) true x14 x16 (x17 : Int) ((n + tot (spn h.toNat q.1 q.2) : Nat) : Int) ((c + (if Lfi h p ∧ In h.toNat q.1 q.2 p then 1 else 0) : Nat) : Int) (sbs l) (l.length : Int) ((t + 1 : Nat) : Int) := by
  have sb := f.2.1
  have b := sb_lt sb
  have hh : Hi h := by have := sb.1.1; have := sb.1.2.1; rw [hi_iff]; omega
  have tb := tot_sb sb
  have sch : Sch s ∧ Sb h.toNat q.1 q.2 := ⟨by rw [sch_iff]; have := f.1; omega, sb⟩
  rw [medlarlaw23_TraceHalves.l0, if_pos (by omega), if_pos (by omega), if_pos (by rw [sbs_len]; omega), rdT_sbs ht, e]
  dsimp only
  rw [May_eq h s b.1 b.2 (k := k + 1) (by omega), if_pos sch, sLeaves_eq h b.1 b.2 k, if_pos sb]; simp only [bnd]
  rw [Many_eq h hh (spn_rise sb) (k := k + 1) (by have := spn_len h.toNat q.1 q.2; omega) (by have := spn_len h.toNat q.1 q.2; omega)]; simp only [bnd]
  rw [if_pos (by trivial), if_pos (by simpa using f.2.2), if_pos (by trivial)]
  rw [medlarlaw23_TraceHalves.j2, if_neg (by simp), sHas_eq h b.1 b.2 hp (k := k) (by omega), wu64 (by omega) (by omega), w64 (x := (t : Int) + 1) (by omega) (by omega), w64 (x := (c : Int) + 1) (by omega) (by omega)]; simp only [bnd]
  rw [show (n : Int) + (tot (spn h.toNat q.1 q.2) : Int) = ((n + tot (spn h.toNat q.1 q.2) : Nat) : Int) by omega, show (t : Int) + 1 = ((t + 1 : Nat) : Int) by omega]
  by_cases z : Lfi h p
  · have zz : Sb h.toNat q.1 q.2 ∧ Lfi h p := ⟨sb, z⟩
    rw [if_pos zz]; dsimp only
    rw [if_pos (by trivial)]
    by_cases y : In h.toNat q.1 q.2 p
    · have yy : Lfi h p ∧ In h.toNat q.1 q.2 p := ⟨z, y⟩
      rw [if_pos yy, decide_eq_true y, if_pos rfl]; rfl
    · have yy : ¬ (Lfi h p ∧ In h.toNat q.1 q.2 p) := fun w => y w.2
      rw [if_neg yy, decide_eq_false y, if_neg (by simp)]; rfl
  · have zz : ¬ (Sb h.toNat q.1 q.2 ∧ Lfi h p) := fun w => z w.2
    have yy : ¬ (Lfi h p ∧ In h.toNat q.1 q.2 p) := fun w => z w.1
    rw [if_neg zz, if_neg yy]; dsimp only
    rw [if_neg (by omega)]; rfl
theorem TraceHalves : MP.medlarlaw23_TraceHalves.Pure := by
  intro h s a2_0 a2_1 a3 w0 w1 w2 w3 w4
  obtain ⟨i, rfl, hi'⟩ := wf_u64 w2
  obtain ⟨j, rfl, hj⟩ := wf_u64 w3
  obtain ⟨p, rfl, hp⟩ := wf_u64 w4
  refine ⟨200, ?_⟩
  unfold medlarlaw23_TraceHalves.f
  rw [live23 (by omega), Halves_eq h s hi' hj (by omega)]; simp only [bnd]
  by_cases f : Fit h.toNat s i j
  · have sb := f.2.1
    have hh : Hi h := by have := sb.1.1; have := sb.1.2.1; rw [hi_iff]; omega
    have tb := tot_sb sb
    have many : leaf_Many.f 200 h (sps (spn h.toNat i j)) = some ((tot (spn h.toNat i j) : Int), 0) := Many_eq h hh (spn_rise sb) (k := 200) (by have := spn_len h.toNat i j; omega) (by have := spn_len h.toNat i j; omega)
    rw [if_pos f]
    by_cases t : tot (spn h.toNat i j) = 1
    · rw [if_pos t, if_neg (by omega), sLeaves_eq h hi' hj 199, if_pos sb]; simp only [bnd]
      rw [many]; simp only [bnd]
      rw [if_pos (by trivial), if_pos (by trivial), medlarlaw23_TraceHalves.j0, t]
      rfl
    · obtain ⟨fa, fb, hl, _, _⟩ := hv f t
      rw [if_neg t, if_neg (by omega), sLeaves_eq h hi' hj 199, if_pos sb]; simp only [bnd]
      rw [many]; simp only [bnd]
      have x70 : (((0 : Int) == 4) != ((tot (spn h.toNat i j) : Int) == 1)) = false := by
        have : ((tot (spn h.toNat i j) : Int) == 1) = false := by rw [beq_eq_false_iff_ne]; omega
        rw [this]; rfl
      rw [if_pos (by trivial), if_pos (by trivial), x70, medlarlaw23_TraceHalves.j0, if_neg (by simp), if_pos (by trivial), sHas_eq h hi' hj hp (k := 199) (by omega)]; simp only [bnd]
      rw [if_pos (by rw [sbs_len]; rfl), sbs_len]
      have st := fun (n c x17 : Nat) hn hc (x14 : Int) (x16 : Bool) => halves_step h s fa hp n c x17 hn hc x14 x16 (l := [hva s i j, hvb s i j]) (t := 0) (by simp) (by simp) rfl (k := 197) (by omega)
      have st2 := fun (n c x17 : Nat) hn hc (x14 : Int) (x16 : Bool) => halves_step h s fb hp n c x17 hn hc x14 x16 (l := [hva s i j, hvb s i j]) (t := 1) (by simp) (by simp) rfl (k := 195) (by omega)
      have ta := tot_sb fa.2.1
      have tt := hl.2
      dsimp only at tt
      have fin : ∀ (c x17 : Nat) (x16 : Bool), c ≤ 2 → ((x17 = 0 → (x16 = decide (c = 1)) ∧ c ≤ 1)) → medlarlaw23_TraceHalves.l0 195 h s (p : Int) true (tot (spn h.toNat i j) : Int) x16 (x17 : Int) ((tot (spn h.toNat i j) : Nat) : Int) (c : Int) (sbs [hva s i j, hvb s i j]) (([hva s i j, hvb s i j] : List (Nat × Nat)).length : Int) ((2 : Nat) : Int) = some true := by
        intro c x17 x16 hc hx
        rw [medlarlaw23_TraceHalves.l0, if_neg (by simp), if_pos rfl, if_pos rfl]
        by_cases z : x17 = 0
        · obtain ⟨e1, e2⟩ := hx z
          rw [if_pos (by omega), if_pos (by omega), e1]
          congr 1
          by_cases c1 : c = 1
          · subst c1; rfl
          · have : ((c : Int) == 1) = false := by rw [beq_eq_false_iff_ne]; omega
            rw [this, decide_eq_false c1]; rfl
        · rw [if_neg (by omega)]
      have go : ∀ (x17 : Nat) (x16 : Bool), ((x17 = 0 → x16 = decide (In h.toNat i j p) ∧ Lfi h p) ∧ (x17 ≠ 0 → ¬ Lfi h p)) → medlarlaw23_TraceHalves.l0 199 h s (p : Int) true (tot (spn h.toNat i j) : Int) x16 (x17 : Int) 0 0 (sbs [hva s i j, hvb s i j]) (([hva s i j, hvb s i j] : List (Nat × Nat)).length : Int) 0 = some true := by
        rintro x17 x16 ⟨hx, hy⟩
        have s1 := st 0 0 x17 (by omega) (by omega) (tot (spn h.toNat i j) : Int) x16
        rw [show ((0 : Nat) : Int) = 0 from rfl] at s1
        rw [s1, Nat.zero_add, Nat.zero_add]
        have s2 := st2 (tot (spn h.toNat (hva s i j).1 (hva s i j).2)) (if Lfi h p ∧ In h.toNat (hva s i j).1 (hva s i j).2 p then 1 else 0) x17 (by omega) (by split <;> omega) (tot (spn h.toNat i j) : Int) x16
        rw [show ((0 + 1 : Nat) : Int) = ((1 : Nat) : Int) from rfl, s2, tt]
        refine fin _ x17 x16 (by split <;> split <;> omega) (fun z => ?_)
        obtain ⟨e, lf⟩ := hx z
        have hl1 := hl.1 p lf.2
        dsimp only at hl1
        rw [e]
        by_cases ya : In h.toNat (hva s i j).1 (hva s i j).2 p
        · have yb : ¬ In h.toNat (hvb s i j).1 (hvb s i j).2 p := fun y => hl1.2 ⟨ya, y⟩
          rw [if_pos ⟨lf, ya⟩, if_neg (fun y => yb y.2), decide_eq_true (hl1.1.2 (.inl ya))]; exact ⟨rfl, by omega⟩
        · by_cases yb : In h.toNat (hvb s i j).1 (hvb s i j).2 p
          · rw [if_neg (fun y => ya y.2), if_pos ⟨lf, yb⟩, decide_eq_true (hl1.1.2 (.inr yb))]; exact ⟨rfl, by omega⟩
          · rw [if_neg (fun y => ya y.2), if_neg (fun y => yb y.2), decide_eq_false (fun y => (hl1.1.1 y).elim ya yb)]; exact ⟨rfl, by omega⟩
      by_cases z : Lfi h p
      · rw [if_pos ⟨sb, z⟩]
        exact go 0 _ ⟨fun _ => ⟨rfl, z⟩, fun y => absurd rfl y⟩
      · rw [if_neg (fun y => z y.2)]
        exact go 1 _ ⟨fun y => by omega, fun _ => z⟩
  · rw [if_neg f, if_pos (by trivial), if_pos (by trivial)]; rfl
end Go.Proofs.Ytnbiddloiiljjaa.Pure
