/- TraceCover: for every height, scheme, and two lists of at most twenty numbers: by the cover of who may not read, of those who may and those who may not one of those who may is found; no condition. -/
import Derived.Test.YtnbiddloiiljjaaZTraceCover
import Derived.Test.YtnbiddloiiljjaaMPx6
set_option linter.unusedVariables false
set_option linter.unusedSimpArgs false
set_option linter.unusedSectionVars false
namespace Go.Proofs.Ytnbiddloiiljjaa.Pure
open Go.RowKit Go.Proofs.Ytnbiddloiiljjaa.MP Go.Proofs.YtnbiddloiiljjaaW.PrintWords Go.Proofs.YtnbiddloiiljjaaW.PrintLast Go.Proofs.Ytnbiddloiiljjaa.Med
theorem cover_l0 (l T : List Nat) (hl : l.length ≤ 20) (hT : T.length ≤ 20) (v : Bool) (p : Nat) (hv : v = (T.any fun t => decide (t ∉ l))) (hp : v = true → p ∈ T ∧ p ∉ l) (n : Int) :
    ∀ (q t k : Nat), t + q = T.length → q + 30 ≤ k →
    medlarlaw23_TraceCover.l0 k (ints l) (ints T) true 0 ((T.take t).any fun t => decide (t ∉ l)) (ints T) (T.length : Int) (t : Int) v (p : Int) n = some true := by
  intro q
  induction q with
  | zero =>
    intro t k ht hk
    obtain ⟨k, rfl⟩ : ∃ m, k = m + 1 := ⟨k - 1, by omega⟩
    rw [medlarlaw23_TraceCover.l0, if_neg (by omega), if_pos rfl, if_pos rfl, List.take_of_length_le (by omega), ← hv, if_pos (by simp)]
    by_cases c : v = true
    · obtain ⟨p1, p2⟩ := hp c
      rw [if_pos c, In_eq T p (by omega) (k := k) (by omega)]; simp only [bnd]
      rw [if_pos (by simpa using p1), In_eq l p (by omega) (k := k) (by omega)]; simp only [bnd]
      rw [decide_eq_false p2]; rfl
    · rw [if_neg c]
  | succ q ih =>
    intro t k ht hk
    obtain ⟨k, rfl⟩ : ∃ m, k = m + 1 := ⟨k - 1, by omega⟩
    have tT : t < T.length := by omega
    have nx := ih (t + 1) k (by omega) (by omega)
    rw [List.take_succ_eq_append_getElem tT, List.any_append] at nx
    rw [medlarlaw23_TraceCover.l0, if_pos (by omega), if_pos (by omega), if_pos (by rw [ints_len]; omega), w64 (by omega) (by omega), show (t : Int) + 1 = ((t + 1 : Nat) : Int) by omega]
    by_cases c : ((T.take t).any fun t => decide (t ∉ l)) = true
    · rw [if_pos c]
      rw [c, Bool.true_or] at nx; exact nx
    · rw [if_neg c, ints_rd tT, In_eq l _ (by omega) (k := k) (by omega)]; simp only [bnd]
      rw [show ((T.take t).any fun t => decide (t ∉ l)) = false by simpa using c, Bool.false_or] at nx
      simpa using nx
theorem j1_true (k : Nat) (h s : Int) (l T : List Int) (x10 : List S24) : medlarlaw23_TraceCover.j1 (k + 1) h s l T true x10 true = some true := by rw [medlarlaw23_TraceCover.j1, if_pos rfl]
theorem TraceCover : MP.medlarlaw23_TraceCover.Pure := by
  intro h s l2 l3 w0 w1 y2 z2 w2 y3 z3 w3
  obtain ⟨l, rfl, hb⟩ := ints_of l2 w2
  obtain ⟨T, rfl, hbT⟩ := ints_of l3 w3
  obtain ⟨C, hC⟩ : ∃ C : Nat, C = 200300 := ⟨_, rfl⟩
  refine ⟨C + 3, ?_⟩
  unfold medlarlaw23_TraceCover.f
  rw [live23 (by omega)]; simp only [bnd]
  have out : medlarlaw23_TraceCover.j0 (C + 3) h s (ints l) (ints T) true true = some true := by rw [medlarlaw23_TraceCover.j0, if_pos rfl]
  rw [ints_len, ints_len]
  by_cases c1 : l.length > 20
  · rw [if_pos (by omega), out]
  · rw [if_neg (by omega)]
    by_cases c2 : T.length > 20
    · rw [if_pos (by omega), out]
    · rw [if_neg (by omega)]
      by_cases c3 : s = 3
      · subst c3; exact out
      · have e3 : (s == 3) = false := by rw [beq_eq_false_iff_ne]; exact c3
        rw [e3, medlarlaw23_TraceCover.j0, if_neg (by simp), LCover_eq h s hb (by omega) (k := C + 2) (by omega) (by omega)]; simp only [bnd]
        by_cases d1 : Sch s ∧ Lst h l
        · rw [if_pos d1]; dsimp only
          rw [if_pos (by trivial), lCheck_eq h hbT (by omega) (k := C + 2) (by omega)]; simp only [bnd]
          by_cases d2 : Lst h T
          · rw [if_pos d2, if_pos (by trivial)]
            obtain ⟨sch, ll⟩ := d1
            have hh := ll.1
            rw [hi_iff] at hh
            obtain ⟨H, rfl⟩ : ∃ H : Nat, h = (H : Int) := ⟨h.toNat, by omega⟩
            have hH : 1 ≤ H ∧ H ≤ 32 := by omega
            have hl := ll.2.2.1
            have hu := ll.2.2.2
            rw [Int.toNat_natCast] at hl
            rw [Int.toNat_natCast]
            obtain ⟨cv, _⟩ := lys_cvr hH hl hu s
            have may := lys_may hH hl hu sch
            have len := lys_len hH hl hu s
            have len2 : (lys H s l).length ≤ 32768 := by
              refine Nat.le_trans len ?_
              rw [sch_iff] at sch
              unfold lbn
              rcases (show s = 1 ∨ s = 2 by omega) with rfl | rfl
              · rw [if_pos rfl]
                unfold bdn
                split
                · omega
                · exact Nat.le_trans (Nat.mul_le_mul (show l.length ≤ 20 by omega) (show H - l.length.log2 ≤ 32 by omega)) (by omega)
              · rw [if_neg (by omega), if_pos rfl]
                unfold dbn
                split <;> omega
            have fit : ∀ q ∈ lys H s l, Fit H s q.1 q.2 := fun q hq => ⟨by rw [sch_iff] at sch; omega, cv.sb q hq, may q hq⟩
            generalize lys H s l = c at *
            by_cases d3 : c.length = 0
            · have : (((sbs c).length : Int) == 0) = true := by rw [sbs_len, beq_iff_eq]; omega
              rw [this]; exact j1_true _ _ _ _ _ _
            · have : (((sbs c).length : Int) == 0) = false := by rw [sbs_len, beq_eq_false_iff_ne]; omega
              have bc : Bdd c := bdd_sb cv.sb
              have trc : Trc (H : Int) s T c := ⟨d2, by omega, by omega, by rw [Int.toNat_natCast]; exact fit⟩
              rw [this, medlarlaw23_TraceCover.j1, if_neg (by simp), Trace_eq (H : Int) s false hbT (by omega) [] bc (k := C + 1) (by omega) (by omega), if_pos trc]; simp only [bnd]
              rw [Int.toNat_natCast, ints_len]
              have hT2 := d2.2.2.1
              rw [Int.toNat_natCast] at hT2
              have a1 : asks false H T [] 1 [] = false := by unfold asks; rw [if_neg (by simp)]; simp
              have a0 : asks false H T [] 0 c = (T.any fun t => decide (t ∉ l)) := by
                unfold asks; rw [if_neg (by simp)]
                rw [Bool.eq_iff_iff]
                simp only [List.any_eq_true, decide_eq_true_eq]
                constructor
                · rintro ⟨t, ht, q, hq, z⟩
                  exact ⟨t, ht, fun y => cv.no t y q hq z⟩
                · rintro ⟨t, ht, z⟩
                  obtain ⟨q, hq, w⟩ := cv.one t (hT2 t ht) z
                  exact ⟨t, ht, q, hq, w⟩
              have l0 := fun v p hv hp n => cover_l0 l T (by omega) (by omega) v p hv hp n T.length 0 (C + 1) (by omega) (by omega)
              simp only [List.take_zero, List.any_nil] at l0
              by_cases d4 : asks false H T [] 0 c = true
              · have ev : vrd (asks false H T []) H s c = (true, ((vdc (asks false H T []) H s c).1 : Int), ((vdc (asks false H T []) H s c).2 : Int), 0) := by unfold vrd; rw [if_pos d4, a1, if_neg (by simp)]
                rw [ev]
                have p1 := vdc_find (s := s) [] hT2 (by omega) fit d4
                obtain ⟨⟨q, hq, z⟩, _, _⟩ := vdc_in (asks false H T []) (by omega) fit
                exact l0 true _ (by rw [← a0, d4]) (fun _ => ⟨p1, fun y => cv.no _ y q hq z⟩) _
              · have ev : vrd (asks false H T []) H s c = (false, 0, 1, 0) := by unfold vrd; rw [if_neg d4]
                rw [ev]
                exact l0 false 0 (by rw [← a0]; simpa using d4) (fun z => by simp at z) 1
          · rw [if_neg d2, if_neg (by omega)]; exact j1_true _ _ _ _ _ _
        · rw [if_neg d1]; dsimp only
          rw [if_neg (by omega)]; exact j1_true _ _ _ _ _ _
end Go.Proofs.Ytnbiddloiiljjaa.Pure
