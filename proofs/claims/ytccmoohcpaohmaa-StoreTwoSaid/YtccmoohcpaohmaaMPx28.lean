-- written by a program of this session (wip/tools/mprint.sh) for this seat
import Derived.Test.YtccmoohcpaohmaaMPx0
import Derived.Test.YtccmoohcpaohmaaMPx17
import Derived.Test.YtccmoohcpaohmaaMPx24
import Derived.Maps.OwnSet
import Derived.Maps.OwnOps
import Derived.DeepKeys4
import Derived.Carry
import Derived.WideKeyEntry
import Derived.Deep.Cut
namespace Go.Proofs.Ytccmoohcpaohmaa.MP
open Go.RowKit Go.Proofs.YtccmoohcpaohmaaW.PrintWords Go.Proofs.YtccmoohcpaohmaaW.PrintLast Go.Proofs.YtccmoohcpaohmaaW.PrintMore
attribute [local go_sem] max2_int min2_int max_two min_two max_three min_three max_four min_four   -- for this text's walks alone
set_option linter.unusedVariables false
set_option linter.unusedSimpArgs false

/-! ### medlarlaw14_StoreTwo: function 12 -/
instance decS24 : DecidableEq S24 := fun a b => if h : a.f0 = b.f0 ∧ a.f1 = b.f1 then isTrue (by cases a; cases b; simp_all) else isFalse (fun e => h (by rw [e]; exact ⟨rfl, rfl⟩))
/-- What the second round of the law asks. -/
def two_l (k : Nat) (h j : Int) (B : List S24) : List S24 → Option Unit
  | [] => some ()
  | s :: l => (sub_Has.f k h s.f0 s.f1 j).bind fun q => if q.2 = 0 ∧ (s ∈ B → q.1 = true) ∧ (s.f1 = 0 → q.1 = decide (s ∈ B)) then two_l k h j B l else none
def medlarlaw14_StoreTwo.f (k : Nat) (a0 a1 a2 a3 : Int) : Option Bool := (medlarlaw14_live.f k).bind fun up => if up = true then (if a0 > 16 ∧ a0 ≤ 32 then some true else
  ((store_Pairs.f k a0 a1 a2).bind fun a => (store_Pairs.f k a0 a1 a3).bind fun b => if a.2 = 0 ∧ b.2 = 0 then (if (∀ s ∈ a.1, WfS s) ∧ (∀ s ∈ b.1, WfS s) ∧ a.1.length ≤ 1000000 ∧ b.1.length ≤ 1000000 then ((two_l k a0 a3 b.1 a.1).bind fun _ => if a.1.length = b.1.length then some true else none) else none) else some true)) else none
theorem two_mem {α : Type} [DecidableEq α] (l : List α) (t : Nat) (h : t < l.length) (m : α → Int) (s : α) (hm : ∀ s, m s = if s ∈ l.take t then 1 else 0) : (if s = l[t] then (1 : Int) else m s) = if s ∈ l.take (t + 1) then 1 else 0 := by
  rw [List.take_succ_eq_append_getElem h, hm]
  simp only [List.mem_append, List.mem_singleton]
  by_cases a : s = l[t]
  · simp [a]
  · simp [a]
set_option maxHeartbeats 8000000 in
set_option maxRecDepth 100000 in
theorem medlarlaw14_StoreTwo.calls (k : Nat) (a0 a1 a2 a3 : Int) (r : Bool) (w : World) (h : medlarlaw14_StoreTwo.f k a0 a1 a2 a3 = some r) (hT : Aside0 (r = true)) :
    Calls Try.prog 12 #[.int .i64 a0, .int .i64 a1, .int .u64 a2, .int .u64 a3] w fun e w' => e = .returned (.bool r) ∧ Below w.heap.size w w' := by
  have hu24 := Try.underlying24
  have hmm := @run_makeMap Try.prog
  have HB := Aside0.mk (Below.refl w.heap.size w)
  unfold medlarlaw14_StoreTwo.f at h
  obtain ⟨up, hup, h⟩ := Option.bind_eq_some_iff.mp h
  have UP := Aside0.mk hup
  clear hup
  by_cases cu : up = true
  · rw [if_pos cu] at h
    subst cu
    have live : Aside0 (∀ W, Calls Try.prog 35 #[] W fun e w' => e = .returned (.bool true) ∧ Below W.heap.size W w') := ⟨fun W => medlarlaw14_live.calls k true W UP.out⟩
    by_cases c1 : a0 > 16 ∧ a0 ≤ 32
    · rw [if_pos c1] at h
      obtain rfl := Option.some.inj h
      have d1 : decide (a0 > 16) = true := decide_eq_true c1.1
      have d2 : decide (a0 ≤ 32) = true := decide_eq_true c1.2
      clear c1 h
      go_enter Try.func12, Try.ntmps12
      go_wp2_with (first | (go_at_call 35; with_reducible refine (live.out _).mono ?_; rintro e w1 ⟨rfl, hb⟩; have HB1 := Aside0.mk (below_step HB.out hb); clear hb))
      go_ret
      exact ⟨rfl, HB1.out⟩
    · rw [if_neg c1] at h
      obtain ⟨⟨la, ea⟩, hA, h⟩ := Option.bind_eq_some_iff.mp h
      obtain ⟨⟨lb, eb⟩, hB, h⟩ := Option.bind_eq_some_iff.mp h
      replace h : (if ea = 0 ∧ eb = 0 then (if (∀ s ∈ la, WfS s) ∧ (∀ s ∈ lb, WfS s) ∧ la.length ≤ 1000000 ∧ lb.length ≤ 1000000 then ((two_l k a0 a3 lb la).bind fun _ => if la.length = lb.length then some true else none) else none) else some true) = some r := h
      have PA := Aside0.mk hA
      have PB := Aside0.mk hB
      have H := Aside0.mk h
      have C1 := Aside0.mk c1
      clear hA hB h c1
      go_enter Try.func12, Try.ntmps12
      go_upto_region 2 with (first | (go_at_call 35; with_reducible refine (live.out _).mono ?_; rintro e w1 ⟨rfl, hb⟩; have HB1 := Aside0.mk (below_step HB.out hb); clear hb))
      go_cut [27] (fun v27 wc => v27 = .bool false ∧ wc = w1)
      case first =>
        by_cases d1 : a0 > 16
        · have d1b : decide (a0 > 16) = true := decide_eq_true d1
          have d2 : decide (a0 ≤ 32) = false := decide_eq_false (fun z => C1.out ⟨d1, z⟩)
          go_wp2
          go_meet
          case rel => exact ⟨rfl, rfl⟩
        · have d1b : decide (a0 > 16) = false := decide_eq_false d1
          go_wp2
          go_meet
          case rel => exact ⟨rfl, rfl⟩
      case rest =>
        obtain ⟨rfl, rfl⟩ := hcut
        go_upto_region 6 with (first | (go_at_call 36; with_reducible refine (store_Pairs.calls k a0 a1 a2 la ea wc PA.out).mono ?_; rintro e w2 ⟨va, rfl, ho, hb⟩; have HB2 := Aside0.mk (below_step HB1.out hb); obtain ⟨Aa, ca, rfl, hla, hca⟩ := Kd.R_reads ho; have CA := Aside0.mk hca; clear hb ho hca) | (go_at_call 36; with_reducible refine (store_Pairs.calls k a0 a1 a3 lb eb w2 PB.out).mono ?_; rintro e w3 ⟨vb, rfl, ho, hb⟩; have HB3 := Aside0.mk (below_step HB2.out hb); obtain ⟨Ab, cb, rfl, hlb, hcb⟩ := Kd.R_reads ho; have CB := Aside0.mk hcb; have CA3 := Aside0.mk (Kd.C_below CA.out hb); clear hb ho hcb))
        by_cases ce : ea = 0 ∧ eb = 0
        · obtain ⟨rfl, rfl⟩ := ce
          have H2 := H.out
          rw [if_pos ⟨rfl, rfl⟩] at H2
          by_cases cw : (∀ s ∈ la, WfS s) ∧ (∀ s ∈ lb, WfS s) ∧ la.length ≤ 1000000 ∧ lb.length ≤ 1000000
          · rw [if_pos cw] at H2
            obtain ⟨u, htl, H2⟩ := Option.bind_eq_some_iff.mp H2
            by_cases cl : la.length = lb.length
            · rw [if_pos cl] at H2
              obtain rfl := Option.some.inj H2
              have TL := Aside0.mk htl
              have CW := Aside0.mk cw
              have hlb9 := cw.2.2.2
              have hla9 := cw.2.2.1
              have CL := Aside0.mk cl
              have HM0 := Aside0.mk (MapIs.made w3)
              clear H H2 htl cw cl
              go_wp2
              go_loopw [53] (fun i wr => ∃ t : Nat, i = .int .i64 t ∧ Aside0 (t ≤ lb.length) ∧ Aside0 (MapIs wr w3.heap.size t (fun s => if s ∈ lb.take t then 1 else 0)) ∧ Aside0 (Below w3.heap.size w3 wr)) (fun i _ => lb.length - (intOf i).toNat)
              case atStart => exact ⟨0, rfl, ⟨Nat.zero_le _⟩, ⟨by simpa using HM0.out⟩, ⟨(Below.refl _ _).alloc (Nat.le_refl _) _⟩⟩
              case round =>
                clear HM0
                obtain ⟨t, rfl, HT1, HM, HBr⟩ := hrel
                by_cases hlt : t < lb.length
                · obtain ⟨ad, e1, hx0, hx1⟩ := at_T24 (Kd.C_below CB.out HBr.out) (t : Int) (by omega) (by omega)
                  cases e1
                  rw [Int.toNat_natCast] at hx0 hx1
                  have hg : rd_T24 lb (t : Int) = lb[t] := by
                    first | (unfold rd_T24; simp [hlt]; done) | (simp [rd_T24, rdOf, hlt]; done)
                  rw [hg] at hx0 hx1
                  have hs : WfS lb[t] := CW.out.2.1 _ (List.getElem_mem hlt)
                  have hm' : ∀ x : S24, x ≠ lb[t] → (if x ∈ lb.take (t + 1) then (1 : Int) else 0) = if x ∈ lb.take t then 1 else 0 := by
                    intro x hx
                    rw [List.take_succ_eq_append_getElem hlt]
                    simp only [List.mem_append, List.mem_singleton, hx, or_false]
                  have hm1 : (if lb[t] ∈ lb.take (t + 1) then (1 : Int) else 0) = 1 := by
                    rw [List.take_succ_eq_append_getElem hlt]
                    simp only [List.mem_append, List.mem_singleton, or_true, if_true]
                  have MM := Aside0.mk (And.intro hm1 hm')
                  clear hg hm' hm1
                  generalize lb[t] = s at *
                  have hkd : decide ((t : Int) < (lb.length : Int)) = true := decide_eq_true (by omega)
                  have HM1 := HM.out.move (w' := wr.alloc (.cells #[.int .u64 s.f0, .int .u64 s.f1] 24)) (fun o h => blk_alloc h _)
                  have HTL : t < maxLen := by have := CW.out.2.2.2; unfold maxLen; omega
                  go_wp2_with (first | (at_mapUpdate; refine wpList_upd rfl _ _ _ rfl rfl HM1 HTL s hs 1 (by decide) rfl rfl ?_; intro w5 hput hgrow))
                  go_roundw
                  case rel => exact ⟨t + 1, by go_num, ⟨by omega⟩, ⟨hput _ MM.out.1 MM.out.2⟩, ⟨(HBr.out.alloc HBr.out.size _).grown hgrow (HBr.out.alloc HBr.out.size _).size (fun j hj => by cases hj; exact Nat.le_refl _)⟩⟩
                  case measure => simp [intOf]; omega
                · have htl : t = lb.length := by have := HT1.out; omega
                  subst htl
                  have hkd : decide ((lb.length : Int) < (lb.length : Int)) = false := decide_eq_false (by omega)
                  have HM2 := HM.out
                  rw [List.take_length] at HM2
                  have HMF := Aside0.mk HM2
                  clear HM HM2 HT1
                  go_wp2
                  go_loopw [62] (fun i wr => ∃ t : Nat, i = .int .i64 t ∧ Aside0 (t ≤ la.length) ∧ Aside0 (two_l k a0 a3 lb (la.drop t) = some ()) ∧ Aside0 (MapIs wr w3.heap.size lb.length (fun s => if s ∈ lb then 1 else 0)) ∧ Aside0 (Below w3.heap.size w3 wr)) (fun i _ => la.length - (intOf i).toNat)
                  case atStart => exact ⟨0, rfl, ⟨Nat.zero_le _⟩, ⟨TL.out⟩, HMF, HBr⟩
                  case round =>
                    clear TL HMF HBr
                    obtain ⟨t, rfl, HT1, HA, HM, HBr⟩ := hrel
                    by_cases hlt : t < la.length
                    · obtain ⟨ad, e1, hx0, hx1⟩ := at_T24 (Kd.C_below CA3.out HBr.out) (t : Int) (by omega) (by omega)
                      cases e1
                      rw [Int.toNat_natCast] at hx0 hx1
                      have hg : rd_T24 la (t : Int) = la[t] := by
                        first | (unfold rd_T24; simp [hlt]; done) | (simp [rd_T24, rdOf, hlt]; done)
                      rw [hg] at hx0 hx1
                      have hs : WfS la[t] := CW.out.1 _ (List.getElem_mem hlt)
                      have hA := HA.out
                      rw [List.drop_eq_getElem_cons hlt, two_l] at hA
                      clear hg HA
                      generalize la[t] = s at *
                      obtain ⟨⟨q1, q2⟩, hq, hA⟩ := Option.bind_eq_some_iff.mp hA
                      have HQ := Aside0.mk hq
                      clear hq
                      by_cases cq : q2 = 0 ∧ (s ∈ lb → q1 = true) ∧ (s.f1 = 0 → q1 = decide (s ∈ lb))
                      · have hA2 : two_l k a0 a3 lb (la.drop (t + 1)) = some () := by
                          have := hA
                          dsimp only at this
                          rwa [if_pos cq] at this
                        have HA2 := Aside0.mk hA2
                        obtain ⟨rfl, cq1, cq2⟩ := cq
                        clear hA hA2
                        have hkd : decide ((t : Int) < (la.length : Int)) = true := decide_eq_true (by omega)
                        have hbx := blk_new wr (.cells #[.int .u64 s.f0, .int .u64 s.f1] 24)
                        have HBX := Aside0.mk hbx
                        clear hbx
                        by_cases cm : s ∈ lb
                        · have q1t : q1 = true := cq1 cm
                          subst q1t
                          have mv : (if s ∈ lb then (1 : Int) else 0) = 1 := if_pos cm
                          have MV := Aside0.mk mv
                          clear cq1 cq2 cm mv
                          by_cases c0 : s.f1 = 0
                          · have c0b : (s.f1 == 0) = true := beq_iff_eq.mpr c0
                            clear c0
                            go_wp2_with (first | (go_at_call 27; with_reducible refine (sub_Has.calls k a0 s.f0 s.f1 a3 _ 0 _ HQ.out).mono ?_; rintro e w5 ⟨rfl, hb⟩; have HM5 := Aside0.mk (MapIs.move (w' := w5) HM.out (fun o h => (hb.block _ (by have := blk_lt (blk_alloc h (.cells #[.int .u64 s.f0, .int .u64 s.f1] 24)); exact this)).trans (blk_alloc h _))); have HB5 := Aside0.mk (Below.trans (HBr.out.alloc HBr.out.size (.cells #[.int .u64 s.f0, .int .u64 s.f1] 24)) (hb.mono (HBr.out.alloc HBr.out.size (.cells #[.int .u64 s.f0, .int .u64 s.f1] 24)).size)); have yb := blk_below HBX.out hb; have yb0 : w5.cell? ⟨wr.heap.size, 0, none⟩ = some (.int .u64 s.f0) := (blk_cell yb 0).trans rfl; have yb1 : w5.cell? ⟨wr.heap.size, 1, none⟩ = some (.int .u64 s.f1) := (blk_cell yb 1).trans rfl; have hlk := MapIs.run HM5.out hs MV.out; clear hb yb))
                            go_roundw
                            case rel => exact ⟨t + 1, by go_num, ⟨by omega⟩, HA2, HM5, HB5⟩
                            case measure => simp [intOf]; omega
                          · have c0b : (s.f1 == 0) = false := beq_eq_false_iff_ne.mpr c0
                            clear c0
                            go_wp2_with (first | (go_at_call 27; with_reducible refine (sub_Has.calls k a0 s.f0 s.f1 a3 _ 0 _ HQ.out).mono ?_; rintro e w5 ⟨rfl, hb⟩; have HM5 := Aside0.mk (MapIs.move (w' := w5) HM.out (fun o h => (hb.block _ (by have := blk_lt (blk_alloc h (.cells #[.int .u64 s.f0, .int .u64 s.f1] 24)); exact this)).trans (blk_alloc h _))); have HB5 := Aside0.mk (Below.trans (HBr.out.alloc HBr.out.size (.cells #[.int .u64 s.f0, .int .u64 s.f1] 24)) (hb.mono (HBr.out.alloc HBr.out.size (.cells #[.int .u64 s.f0, .int .u64 s.f1] 24)).size)); have yb := blk_below HBX.out hb; have yb0 : w5.cell? ⟨wr.heap.size, 0, none⟩ = some (.int .u64 s.f0) := (blk_cell yb 0).trans rfl; have yb1 : w5.cell? ⟨wr.heap.size, 1, none⟩ = some (.int .u64 s.f1) := (blk_cell yb 1).trans rfl; have hlk := MapIs.run HM5.out hs MV.out; clear hb yb))
                            go_roundw
                            case rel => exact ⟨t + 1, by go_num, ⟨by omega⟩, HA2, HM5, HB5⟩
                            case measure => simp [intOf]; omega
                        · have mv : (if s ∈ lb then (1 : Int) else 0) = 0 := if_neg cm
                          have MV := Aside0.mk mv
                          by_cases c0 : s.f1 = 0
                          · have q1f : q1 = false := by rw [cq2 c0]; exact decide_eq_false cm
                            subst q1f
                            have c0b : (s.f1 == 0) = true := beq_iff_eq.mpr c0
                            clear c0 cq1 cq2 cm mv
                            go_wp2_with (first | (go_at_call 27; with_reducible refine (sub_Has.calls k a0 s.f0 s.f1 a3 _ 0 _ HQ.out).mono ?_; rintro e w5 ⟨rfl, hb⟩; have HM5 := Aside0.mk (MapIs.move (w' := w5) HM.out (fun o h => (hb.block _ (by have := blk_lt (blk_alloc h (.cells #[.int .u64 s.f0, .int .u64 s.f1] 24)); exact this)).trans (blk_alloc h _))); have HB5 := Aside0.mk (Below.trans (HBr.out.alloc HBr.out.size (.cells #[.int .u64 s.f0, .int .u64 s.f1] 24)) (hb.mono (HBr.out.alloc HBr.out.size (.cells #[.int .u64 s.f0, .int .u64 s.f1] 24)).size)); have yb := blk_below HBX.out hb; have yb0 : w5.cell? ⟨wr.heap.size, 0, none⟩ = some (.int .u64 s.f0) := (blk_cell yb 0).trans rfl; have yb1 : w5.cell? ⟨wr.heap.size, 1, none⟩ = some (.int .u64 s.f1) := (blk_cell yb 1).trans rfl; have hlk := MapIs.run HM5.out hs MV.out; clear hb yb))
                            go_roundw
                            case rel => exact ⟨t + 1, by go_num, ⟨by omega⟩, HA2, HM5, HB5⟩
                            case measure => simp [intOf]; omega
                          · have c0b : (s.f1 == 0) = false := beq_eq_false_iff_ne.mpr c0
                            clear c0 cq1 cq2 cm mv
                            go_wp2_with (first | (go_at_call 27; with_reducible refine (sub_Has.calls k a0 s.f0 s.f1 a3 _ 0 _ HQ.out).mono ?_; rintro e w5 ⟨rfl, hb⟩; have HM5 := Aside0.mk (MapIs.move (w' := w5) HM.out (fun o h => (hb.block _ (by have := blk_lt (blk_alloc h (.cells #[.int .u64 s.f0, .int .u64 s.f1] 24)); exact this)).trans (blk_alloc h _))); have HB5 := Aside0.mk (Below.trans (HBr.out.alloc HBr.out.size (.cells #[.int .u64 s.f0, .int .u64 s.f1] 24)) (hb.mono (HBr.out.alloc HBr.out.size (.cells #[.int .u64 s.f0, .int .u64 s.f1] 24)).size)); have yb := blk_below HBX.out hb; have yb0 : w5.cell? ⟨wr.heap.size, 0, none⟩ = some (.int .u64 s.f0) := (blk_cell yb 0).trans rfl; have yb1 : w5.cell? ⟨wr.heap.size, 1, none⟩ = some (.int .u64 s.f1) := (blk_cell yb 1).trans rfl; have hlk := MapIs.run HM5.out hs MV.out; clear hb yb))
                            go_roundw
                            case rel => exact ⟨t + 1, by go_num, ⟨by omega⟩, HA2, HM5, HB5⟩
                            case measure => simp [intOf]; omega
                      · have := hA
                        dsimp only at this
                        rw [if_neg cq] at this
                        cases this
                    · have htl : t = la.length := by have := HT1.out; omega
                      subst htl
                      have hkd : decide ((la.length : Int) < (la.length : Int)) = false := decide_eq_false (by omega)
                      have hll : ((la.length : Int) == (lb.length : Int)) = true := by rw [CL.out]; simp
                      have hln : (la.length == lb.length) = true := by rw [CL.out]; simp
                      go_wp2
                      go_ret
                      exact ⟨rfl, Below.trans HB3.out (HBr.out.mono HB3.out.size)⟩
            · rw [if_neg cl] at H2; cases H2
          · rw [if_neg cw] at H2; cases H2
        · have H2 := H.out
          rw [if_neg ce] at H2
          obtain rfl := Option.some.inj H2
          clear H H2
          by_cases c5 : ea = 0
          · have c6 : eb ≠ 0 := fun z => ce ⟨c5, z⟩
            have c5b : (ea != 0) = false := bne_eq_false_iff_eq.mpr c5
            have c6b : (eb != 0) = true := bne_iff_ne.mpr c6
            clear ce c5 c6
            go_wp2
            go_ret
            exact ⟨rfl, HB3.out⟩
          · have c5b : (ea != 0) = true := bne_iff_ne.mpr c5
            clear ce c5
            go_wp2
            go_ret
            exact ⟨rfl, HB3.out⟩
  · rw [if_neg cu] at h; cases h

end Go.Proofs.Ytccmoohcpaohmaa.MP
