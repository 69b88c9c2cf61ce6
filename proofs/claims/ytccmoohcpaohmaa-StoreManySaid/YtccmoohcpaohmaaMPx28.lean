-- written by a program of this session (wip/tools/mprint.sh) for this seat
import Derived.Test.YtccmoohcpaohmaaMPx0
import Derived.Test.YtccmoohcpaohmaaMPx24
import Derived.Test.YtccmoohcpaohmaaMPx27
import Derived.Maps.OwnSet
import Derived.Maps.OwnOps
import Derived.DeepKeys4
import Derived.Carry
import Derived.WideKeyEntry
import Derived.Deep.Cut
namespace Go.Proofs.Ytccmoohcpaohmaa.MP
open Go.RowKit Go.Proofs.YtccmoohcpaohmaaW.PrintWords Go.Proofs.YtccmoohcpaohmaaW.PrintLast Go.Proofs.YtccmoohcpaohmaaW.PrintMore
attribute [local go_sem] max2_int min2_int max_two min_two max_three min_three max_four min_four   -- for this text's walks alone
set_option linter.unusedVariables false
set_option linter.unusedSimpArgs false

/-! ### medlarlaw14_StoreMany: function 11 -/
/-- What the rounds of the law ask. -/
def many_l (k : Nat) (h j : Int) : List S24 → Option Unit
  | [] => some ()
  | s :: l => (layer_May.f k h j s.f0 s.f1).bind fun q => if q.1 = true ∧ q.2 = 0 then many_l k h j l else none
def medlarlaw14_StoreMany.f (k : Nat) (a0 a1 a2 : Int) : Option Bool := (medlarlaw14_live.f k).bind fun up => if up = true then ((store_Pairs.f k a0 a1 a2).bind fun a => if a.2 = 0 then
  ((store_Many.f k a0 a1).bind fun n => (layer_Pairs.f k a0).bind fun p => if (n.2 = 0 ∧ p.2 = 0 ∧ (a.1.length : Int) = n.1) ∧ ((a1 = 1 ∧ n.1 = wrap64 (a0 + 1)) ∨ (a1 = 2 ∧ n.1 = wrap64 (wrap64 (Int.tdiv (wrap64 (a0 * wrap64 (a0 + 1))) 2) + 1)) ∨ (a1 = 3 ∧ n.1 = wrap64 (p.1 + 1))) then
    (if (∀ s ∈ a.1, WfS s) ∧ a.1.length ≤ 1000000 ∧ a.1.Nodup then ((many_l k a0 a1 a.1).bind fun _ => some true) else none) else none)
  else if a.1 = [] then some true else none) else none
set_option maxHeartbeats 8000000 in
set_option maxRecDepth 100000 in
theorem medlarlaw14_StoreMany.calls (k : Nat) (a0 a1 a2 : Int) (r : Bool) (w : World) (h : medlarlaw14_StoreMany.f k a0 a1 a2 = some r) (hT : Aside0 (r = true)) :
    Calls Try.prog 11 #[.int .i64 a0, .int .i64 a1, .int .u64 a2] w fun e w' => e = .returned (.bool r) ∧ Below w.heap.size w w' := by
  have hu24 := Try.underlying24
  have hmm := @run_makeMap Try.prog
  have HB := Aside0.mk (Below.refl w.heap.size w)
  unfold medlarlaw14_StoreMany.f at h
  obtain ⟨up, hup, h⟩ := Option.bind_eq_some_iff.mp h
  have UP := Aside0.mk hup
  clear hup
  by_cases cu : up = true
  · rw [if_pos cu] at h
    subst cu
    have live : Aside0 (∀ W, Calls Try.prog 35 #[] W fun e w' => e = .returned (.bool true) ∧ Below W.heap.size W w') := ⟨fun W => medlarlaw14_live.calls k true W UP.out⟩
    obtain ⟨⟨la, ea⟩, hA, h⟩ := Option.bind_eq_some_iff.mp h
    replace h : (if ea = 0 then ((store_Many.f k a0 a1).bind fun n => (layer_Pairs.f k a0).bind fun p => if (n.2 = 0 ∧ p.2 = 0 ∧ (la.length : Int) = n.1) ∧ ((a1 = 1 ∧ n.1 = wrap64 (a0 + 1)) ∨ (a1 = 2 ∧ n.1 = wrap64 (wrap64 (Int.tdiv (wrap64 (a0 * wrap64 (a0 + 1))) 2) + 1)) ∨ (a1 = 3 ∧ n.1 = wrap64 (p.1 + 1))) then
      (if (∀ s ∈ la, WfS s) ∧ la.length ≤ 1000000 ∧ la.Nodup then ((many_l k a0 a1 la).bind fun _ => some true) else none) else none) else if la = [] then some true else none) = some r := h
    have PA := Aside0.mk hA
    clear hA
    by_cases ce : ea = 0
    · rw [if_pos ce] at h
      subst ce
      obtain ⟨⟨n1, n2⟩, hN, h1⟩ := Option.bind_eq_some_iff.mp h
      clear h
      obtain ⟨⟨p1, p2⟩, hP, h⟩ := Option.bind_eq_some_iff.mp h1
      clear h1
      by_cases c1 : (n2 = 0 ∧ p2 = 0 ∧ (la.length : Int) = n1) ∧ ((a1 = 1 ∧ n1 = wrap64 (a0 + 1)) ∨ (a1 = 2 ∧ n1 = wrap64 (wrap64 (Int.tdiv (wrap64 (a0 * wrap64 (a0 + 1))) 2) + 1)) ∨ (a1 = 3 ∧ n1 = wrap64 (p1 + 1)))
      · dsimp only at h
        rw [if_pos c1] at h
        obtain ⟨⟨rfl, rfl, hln⟩, c1⟩ := c1
        by_cases cw : (∀ s ∈ la, WfS s) ∧ la.length ≤ 1000000 ∧ la.Nodup
        · rw [if_pos cw] at h
          obtain ⟨u, htl, h⟩ := Option.bind_eq_some_iff.mp h
          obtain rfl := Option.some.inj h
          have PN := Aside0.mk hN
          have PP := Aside0.mk hP
          have TL := Aside0.mk htl
          have C1 := Aside0.mk c1
          have CW := Aside0.mk cw
          have hla9 := cw.2.1
          have HLN := Aside0.mk hln
          clear hN hP htl c1 cw h hln
          go_enter Try.func11, Try.ntmps11
          go_upto_region 7 with (first | (go_at_call 35; with_reducible refine (live.out _).mono ?_; rintro e w1 ⟨rfl, hb⟩; have HB1 := Aside0.mk (below_step HB.out hb); clear hb) | (go_at_call 36; with_reducible refine (store_Pairs.calls k a0 a1 a2 la 0 w1 PA.out).mono ?_; rintro e w2 ⟨va, rfl, ho, hb⟩; have HB2 := Aside0.mk (below_step HB1.out hb); obtain ⟨Aa, ca, rfl, hla, hca⟩ := Kd.R_reads ho; have CA := Aside0.mk hca; clear hb ho hca) | (go_at_call 38; with_reducible refine (store_Many.calls k a0 a1 n1 0 w2 PN.out).mono ?_; rintro e w3 ⟨rfl, hb⟩; have HB3 := Aside0.mk (below_step HB2.out hb); have CA3 := Aside0.mk (Kd.C_below CA.out hb); clear hb) | (go_at_call 40; with_reducible refine (layer_Pairs.calls k a0 p1 0 w3 PP.out).mono ?_; rintro e w4 ⟨rfl, hb⟩; have HB4 := Aside0.mk (below_step HB3.out hb); have CA4 := Aside0.mk (Kd.C_below CA3.out hb); clear hb))
          have hnn : ((la.length : Int) != n1) = false := by rw [HLN.out]; simp
          go_cut [91] (fun v wc => v = .bool false ∧ wc = w4)
          case first =>
            rcases C1.out with ⟨e1, hn⟩ | ⟨e1, hn⟩ | ⟨e1, hn⟩
            · have hn2 : (n1 != wrap64 (a0 + 1)) = false := by rw [hn]; simp
              have d1 : (a1 == 1) = true := by rw [e1]; rfl
              have d2 : (a1 == 2) = false := by rw [e1]; rfl
              have d3 : (a1 == 3) = false := by rw [e1]; rfl
              clear hn e1
              go_wp2
              go_meet
              case rel => exact ⟨rfl, rfl⟩
            · have hn2 : (n1 != wrap64 (wrap64 (Int.tdiv (wrap64 (a0 * wrap64 (a0 + 1))) 2) + 1)) = false := by rw [hn]; simp
              have d1 : (a1 == 1) = false := by rw [e1]; rfl
              have d2 : (a1 == 2) = true := by rw [e1]; rfl
              have d3 : (a1 == 3) = false := by rw [e1]; rfl
              clear hn e1
              go_wp2
              go_meet
              case rel => exact ⟨rfl, rfl⟩
            · have hn2 : (n1 != wrap64 (p1 + 1)) = false := by rw [hn]; simp
              have d1 : (a1 == 1) = false := by rw [e1]; rfl
              have d2 : (a1 == 2) = false := by rw [e1]; rfl
              have d3 : (a1 == 3) = true := by rw [e1]; rfl
              clear hn e1
              go_wp2
              go_meet
              case rel => exact ⟨rfl, rfl⟩
          case rest =>
            obtain ⟨rfl, rfl⟩ := hcut
            clear hnn
            have HM0 := Aside0.mk (MapIs.made wc)
            go_wp2
            go_loopw [95] (fun i wr => ∃ t : Nat, i = .int .i64 t ∧ Aside0 (t ≤ la.length) ∧ Aside0 (many_l k a0 a1 (la.drop t) = some ()) ∧ Aside0 (MapIs wr wc.heap.size t (fun s => if s ∈ la.take t then 1 else 0)) ∧ Aside0 (Below wc.heap.size wc wr)) (fun i _ => la.length - (intOf i).toNat)
            case atStart => exact ⟨0, rfl, ⟨Nat.zero_le _⟩, ⟨TL.out⟩, ⟨by simpa using HM0.out⟩, ⟨(Below.refl _ _).alloc (Nat.le_refl _) _⟩⟩
            case round =>
              clear TL HM0
              obtain ⟨t, rfl, HT1, HA, HM, HBr⟩ := hrel
              by_cases hlt : t < la.length
              · obtain ⟨ad, e1, hx0, hx1⟩ := at_T24 (Kd.C_below CA4.out HBr.out) (t : Int) (by omega) (by omega)
                cases e1
                rw [Int.toNat_natCast] at hx0 hx1
                have hg : rd_T24 la (t : Int) = la[t] := by
                  first | (unfold rd_T24; simp [hlt]; done) | (simp [rd_T24, rdOf, hlt]; done)
                rw [hg] at hx0 hx1
                have hs : WfS la[t] := CW.out.1 _ (List.getElem_mem hlt)
                have hA := HA.out
                rw [List.drop_eq_getElem_cons hlt, many_l] at hA
                have hm0 : (if la[t] ∈ la.take t then (1 : Int) else 0) = 0 := by
                  rw [if_neg]
                  intro z
                  obtain ⟨j, hj, e⟩ := List.getElem_of_mem z
                  rw [List.getElem_take] at e
                  rw [List.length_take] at hj
                  exact (List.pairwise_iff_getElem.1 CW.out.2.2) j t (by omega) hlt (by omega) e
                have hm1 : (if la[t] ∈ la.take (t + 1) then (1 : Int) else 0) = 1 := by
                  rw [List.take_succ_eq_append_getElem hlt]
                  simp only [List.mem_append, List.mem_singleton, or_true, if_true]
                have hm' : ∀ x : S24, x ≠ la[t] → (if x ∈ la.take (t + 1) then (1 : Int) else 0) = if x ∈ la.take t then 1 else 0 := by
                  intro x hx
                  rw [List.take_succ_eq_append_getElem hlt]
                  simp only [List.mem_append, List.mem_singleton, hx, or_false]
                have MM := Aside0.mk (And.intro hm0 (And.intro hm1 hm'))
                clear hg hm0 hm1 hm' HA
                generalize la[t] = s at *
                obtain ⟨⟨q1, q2⟩, hq, hA⟩ := Option.bind_eq_some_iff.mp hA
                have HQ := Aside0.mk hq
                clear hq
                by_cases cq : q1 = true ∧ q2 = 0
                · have hA2 : many_l k a0 a1 (la.drop (t + 1)) = some () := by
                    have := hA
                    dsimp only at this
                    rwa [if_pos cq] at this
                  have HA2 := Aside0.mk hA2
                  obtain ⟨rfl, rfl⟩ := cq
                  clear hA hA2
                  have hkd : decide ((t : Int) < (la.length : Int)) = true := decide_eq_true (by omega)
                  have hbx := blk_new wr (.cells #[.int .u64 s.f0, .int .u64 s.f1] 24)
                  have HBX := Aside0.mk hbx
                  have HTL : t < maxLen := by have := CW.out.2.1; unfold maxLen; omega
                  clear hbx
                  go_upto_region 14 with (first | (go_at_call 41; with_reducible refine (layer_May.calls k a0 a1 s.f0 s.f1 true 0 _ HQ.out).mono ?_; rintro e w5 ⟨rfl, hb⟩; have HM5 := Aside0.mk (MapIs.move (w' := w5) HM.out (fun o h => (hb.block _ (by have := blk_lt (blk_alloc h (.cells #[.int .u64 s.f0, .int .u64 s.f1] 24)); exact this)).trans (blk_alloc h _))); have HB5 := Aside0.mk (Below.trans (HBr.out.alloc HBr.out.size (.cells #[.int .u64 s.f0, .int .u64 s.f1] 24)) (hb.mono (HBr.out.alloc HBr.out.size (.cells #[.int .u64 s.f0, .int .u64 s.f1] 24)).size)); have yb := blk_below HBX.out hb; have YB := Aside0.mk yb; have yb0 : w5.cell? ⟨wr.heap.size, 0, none⟩ = some (.int .u64 s.f0) := (blk_cell yb 0).trans rfl; have yb1 : w5.cell? ⟨wr.heap.size, 1, none⟩ = some (.int .u64 s.f1) := (blk_cell yb 1).trans rfl; clear hb yb))
                  have HM6 := HM5.out.move (w' := w5.drew) (fun o h => h)
                  obtain ⟨st, w6, w7, m1, m2, m3, t1, t2, hput⟩ := MapIs.entry HM6 HTL hs MM.out.1 (by decide) (v := 1) (by decide)
                  have hlk0 := HM6.run hs MM.out.1
                  have HM7 := hput _ MM.out.2.1 MM.out.2.2
                  have hlk7 := HM7.run hs MM.out.2.1
                  have HB7 : Below wc.heap.size wc w7 := (below_drew1 HB5.out).grown t2.grown HB5.out.size (fun j hj => by cases hj; exact Nat.le_refl _)
                  have yb7 : w7.heap[wr.heap.size]? = some (Obj.cells #[.int .u64 s.f0, .int .u64 s.f1] 24) := by
                    obtain ⟨_, _, _, _, _, e⟩ := t2
                    rw [e]
                    have lt := HM.out.lt
                    show ((w5.drew.heap).setIfInBounds _ _)[wr.heap.size]? = _
                    rw [Array.getElem?_setIfInBounds_ne (by omega)]
                    exact YB.out
                  have y70 : w7.cell? ⟨wr.heap.size, 0, none⟩ = some (.int .u64 s.f0) := (blk_cell yb7 0).trans rfl
                  have y71 : w7.cell? ⟨wr.heap.size, 1, none⟩ = some (.int .u64 s.f1) := (blk_cell yb7 1).trans rfl
                  have A7 := Aside0.mk HM7
                  have AB7 := Aside0.mk HB7
                  clear HM6 HM7 HB7 hput t1 t2 yb7 YB HM5 HB5
                  go_region
                  have c10 : decide ((1 : Int) > 1) = false := by decide
                  go_wp2
                  go_roundw
                  case rel => exact ⟨t + 1, by go_num, ⟨by omega⟩, HA2, A7, AB7⟩
                  case measure => simp [intOf]; omega
                · have := hA
                  dsimp only at this
                  rw [if_neg cq] at this
                  cases this
              · have htl : t = la.length := by have := HT1.out; omega
                subst htl
                have hkd : decide ((la.length : Int) < (la.length : Int)) = false := decide_eq_false (by omega)
                go_wp2
                go_ret
                exact ⟨rfl, Below.trans HB4.out (HBr.out.mono HB4.out.size)⟩
        · rw [if_neg cw] at h; cases h
      · dsimp only at h
        rw [if_neg c1] at h; cases h
    · rw [if_neg ce] at h
      by_cases cl : la = []
      · rw [if_pos cl] at h
        subst cl
        obtain rfl := Option.some.inj h
        have ceb : (ea != 0) = true := by simpa using ce
        clear h
        go_enter Try.func11, Try.ntmps11
        go_upto_region 3 with (first | (go_at_call 35; with_reducible refine (live.out _).mono ?_; rintro e w1 ⟨rfl, hb⟩; have HB1 := Aside0.mk (below_step HB.out hb); clear hb) | (go_at_call 36; with_reducible refine (store_Pairs.calls k a0 a1 a2 [] ea w1 PA.out).mono ?_; rintro e w2 ⟨va, rfl, ho, hb⟩; have HB2 := Aside0.mk (below_step HB1.out hb); obtain ⟨Aa, ca, rfl, hla, hca⟩ := Kd.R_reads ho; have CA := Aside0.mk hca; clear hb ho hca))
        go_wp2
        go_ret
        exact ⟨rfl, HB2.out⟩
      · rw [if_neg cl] at h; cases h
  · rw [if_neg cu] at h; cases h

end Go.Proofs.Ytccmoohcpaohmaa.MP
