-- written by a program of this session (wip/tools/mprint.sh) for this seat
import Derived.Test.YtmffkfakcbopcaaGreatMPx0
import Derived.Test.YtmffkfakcbopcaaGreatMPx4
namespace Go.Proofs.YtmffkfakcbopcaaGreat.MP
open Go.RowKit Go.Proofs.YtmffkfakcbopcaaGreatW.PrintWords Go.Proofs.YtmffkfakcbopcaaGreatW.PrintLast Go.Proofs.YtmffkfakcbopcaaGreatW.PrintMore
open Option (bind_eq_some_iff some.injEq)
open _root_.Go.Proofs.Tryz
open List (setIfInBounds_toArray set_cons_zero set_cons_succ map_toArray map_cons map_nil length_drop length_take)
attribute [local go_sem] max2_int min2_int max_two min_two max_three min_three max_four min_four
set_option linter.unusedVariables false
set_option linter.unusedSimpArgs false
def bA5 (k n : Nat) : Array Bool := (Array.range n).map fun i => decide (i < k)
mutual
def medlarref11_Order.l0 : Nat → List (S25) → List (S25) → Int → Int → Option ((List (S25)))
  | 0, _, _, _, _ => none
  | k + 1, x3, x8, x9, x10 => if x10 < x9 then (if 0 ≤ x10 then (if x10 < (x8.length : Int) then (medlarref11_Order.l1 k x3 0 x8 x9 x10 ((rd_T25 x8 x10).f0) ((rd_T25 x8 x10).f1)) else (none)) else (none)) else (some x3)
def medlarref11_Order.l1 : Nat → List (S25) → Int → List (S25) → Int → Int → Int → Int → Option ((List (S25)))
  | 0, _, _, _, _, _, _, _ => none
  | k + 1, x3, x6, x8, x9, x10, x378000, x378001 => if x6 < (x3.length : Int) then (if 0 ≤ x6 then ((medlarref08_Less.f x378000 x378001 ((rd_T25 x3 x6).f0) ((rd_T25 x3 x6).f1)).bind fun t379 => (if t379 = true then (if x6 ≤ (x3.length : Int) then ((some (x3.take (x6 : Int).toNat : List (S25))).bind fun y380 => (if ([] : List (S25)).length + y380.length < 8796093022208 then ((some (([] : List (S25)) ++ y380 : List (S25))).bind fun y384 => (if y384.length < 8796093022208 then ((some (y384 ++ [(⟨x378000, x378001⟩ : S25)] : List (S25))).bind fun y387 => ((some (x3.drop (x6 : Int).toNat : List (S25))).bind fun y390 => (if y387.length + y390.length < 8796093022208 then (medlarref11_Order.l0 k (y387 ++ y390) x8 x9 (wrap64 (x10 + 1))) else (none)))) else (none))) else (none))) else (none)) else (medlarref11_Order.l1 k x3 (wrap64 (x6 + 1)) x8 x9 x10 x378000 x378001))) else (none)) else (if 0 ≤ x6 then (if x6 ≤ (x3.length : Int) then ((some (x3.take (x6 : Int).toNat : List (S25))).bind fun y397 => (if ([] : List (S25)).length + y397.length < 8796093022208 then ((some (([] : List (S25)) ++ y397 : List (S25))).bind fun y401 => (if y401.length < 8796093022208 then ((some (y401 ++ [(⟨x378000, x378001⟩ : S25)] : List (S25))).bind fun y404 => ((some (x3.drop (x6 : Int).toNat : List (S25))).bind fun y407 => (if y404.length + y407.length < 8796093022208 then (medlarref11_Order.l0 k (y404 ++ y407) x8 x9 (wrap64 (x10 + 1))) else (none)))) else (none))) else (none))) else (none)) else (none))
end
def medlarref11_Order.f (k : Nat) (l0 : List (S25)) : Option ((List (S25))) := medlarref11_Order.l0 k ([] : List (S25)) l0 (l0.length : Int) 0
def medlarref11_Order.T6 : Bool × List (List Nat × List Nat) := (true, [([], []), ([], []), ([1], [1]), ([0, 2], [0, 2]), ([3], [3]), ([4], [4]), ([4], [4]), ([4], [4]), ([6, 7, 4], [4, 6, 7]), ([8, 4], [4, 8]), ([5, 9, 4, 4], [4, 5, 9]), ([10, 4], [4, 10]), ([4, 11], [4, 11])])
def medlarref11_Order.B6 : List Nat := [0, 0, 2, 7, 15, 31, 31, 31, 223, 479, 1023, 2047, 4095]
theorem medlarref11_Order.tab6 : rtab .any (opsOf Tryz.f23 6) = medlarref11_Order.T6 := by kernel_rfl
theorem medlarref11_Order.bits6 : waitsOk medlarref11_Order.T6.2 medlarref11_Order.B6 = true := by kernel_rfl
set_option maxHeartbeats 8000000 in
set_option maxRecDepth 100000 in
theorem medlarref11_Order.calls (k : Nat) (A0 : Option Addr) (c0 : Nat) (l0 : List (S25)) (r : List (S25)) (w : World) (hr0 : Kd.C k25 w A0 l0.length l0) (hc0 : l0.length ≤ c0) (h : medlarref11_Order.f k l0 = some r) :
   Calls Tryz.prog 23 #[.slice A0 l0.length c0] w fun e w' => ∃ v0_ : Value, e = .returned (v0_) ∧ Kd.R k25 25 w' w.heap.size (fun _ => True) v0_ r ∧ Below w.heap.size w w' := by
  have hu25 := underlying25
  have HR0 := ak_ hr0
  have HC0 := ak_ hc0
  clear hr0 hc0
  have HB := ak_ (Below.refl w.heap.size w)
  have H : (medlarref11_Order.l0 k ([] : List (S25)) l0 (l0.length : Int) 0) = some r := h
  clear h
  have H' := ak_ H
  clear H
  go_enter func23, ntmps23
  go_wp2
  go_loopg [3, 10] k (fun kq v3 v10 w' => ∃ (x3_1 : List (S25)) (x10_1 : Int), v10 = .int .i64 x10_1 ∧ Aside0 (medlarref11_Order.l0 kq x3_1 l0 (l0.length : Int) x10_1 = some r) ∧ Aside0 (kq ≤ k) ∧ Aside0 (Kd.R k25 25 w' w.heap.size (fun _ => True) v3 x3_1) ∧ Aside0 (Below w.heap.size w w'))
  case atStart => exact ⟨(([] : List (S25))), (0), (by first | rfl | (simp; done) | (simp [*]; done)), H', ⟨Nat.le_refl _⟩, ⟨by first | exact Kd.R_nil _ _ _ _ _ | exact Kd.N_nil _ _ _ _ _ | exact Kd.V_nil _ _ _ _ _ | exact Kd.Q_nil _ _ _ _ _ | exact Kd.S_nil _ _ _ _ _⟩, ⟨bl_ HB⟩⟩
  case round =>
   clear H'
   obtain ⟨x3_1, x10_1, rfl, HA, HK1, HO_3, HB⟩ := hrel
   cases gk with
   | zero => exact absurd HA.out (by simp [medlarref11_Order.l0])
   | succ k1 =>
    have H := HA.out
    clear HA
    simp only [medlarref11_Order.l0] at H
    by_cases c2 : x10_1 < (l0.length : Int)
    ·rw [if_pos c2] at H
     have c2b0 := decide_eq_true c2
     clear c2
     by_cases c3 : 0 ≤ x10_1
     ·rw [if_pos c3] at H
      have c3b0 := decide_eq_true c3
      clear c3
      by_cases c4 : x10_1 < (l0.length : Int)
      ·rw [if_pos c4] at H
       have c4b0 := decide_eq_true c4
       clear c4
       have H' := ak_ H
       clear H
       have p376 : 0 ≤ (x10_1 : Int) := od_ (by first | (with_reducible assumption) | assumption)
       have q376 : x10_1 < (l0.length : Int) := od_ (by first | (with_reducible assumption) | assumption)
       obtain ⟨ad376, e376, hx376_0, hx376_1⟩ := at_T25 HR0.out x10_1 p376 q376
       cases e376
       replace hx376_0 := (HB.out.cell (World.block_lt_of_cell? w _ hx376_0)).trans hx376_0
       replace hx376_1 := (HB.out.cell (World.block_lt_of_cell? w _ hx376_1)).trans hx376_1
       replace p376 := eq_true p376
       replace q376 := eq_true q376
       go_wp2_with (first | ((with_reducible refine gate_dst (N := 5) rfl ?_); refine box_event ?hg (N := 5) ?hd (cs := #[.int .u64 0, .int .u64 0]) (t := 25) ?hr ?_; (case hd => rfl); (case hg => rfl); (case hr => first | (go_simp; done) | (go_simp; rfl)); intro gb377 hg w5 hbox hb; have n0_ := ak_ (Kd.R_below (Kd.R_elderB (rl_ HO_3) gb377 (Nat.le_of_eq hg.symm)) hb); have n1_ := ak_ (bt_ (bl_ HB) hb); have n2_ := ak_ (hbox); have n3_ := ak_ ((gs_ hg HB)); have n4_ := ak_ ((gs_ hg HB)); clear HO_3; clear HB; have HO_3 := n0_; have HB := n1_; have BK377 := n2_; have GW377 := n3_; have GE377 := n4_; clear n0_ n1_ n2_ n3_ n4_; clear hb hbox hg; have hcz6_0 : w5.cell? ⟨gb377, 0, none⟩ = some (.int .u64 0) := (kc_ BK377.out 0).trans rfl; have hcz6_1 : w5.cell? ⟨gb377, 1, none⟩ = some (.int .u64 0) := (kc_ BK377.out 1).trans rfl; have hfz6_0 := kf_ BK377.out 0; have hfz6_1 := kf_ BK377.out 1))
       go_loopg [6] k1 (fun kq v6 w' => ∃ (x6_2 : Int), v6 = .int .i64 x6_2 ∧ Aside0 (medlarref11_Order.l1 kq x3_1 x6_2 l0 (l0.length : Int) x10_1 ((rd_T25 l0 x10_1).f0) ((rd_T25 l0 x10_1).f1) = some r) ∧ Aside0 (kq ≤ k1) ∧ Aside0 (Kd.R k25 25 w' w.heap.size (fun k_ => k_ ≠ gb377) u3 x3_1) ∧ Aside0 (w'.heap[gb377]? = some (.cells #[.int .u64 ((rd_T25 l0 x10_1).f0), .int .u64 ((rd_T25 l0 x10_1).f1)] 25 (0, 0))) ∧ Aside0 (Below w.heap.size w w'))
       case atStart => exact ⟨(0), (by first | rfl | (simp; done) | (simp [*]; done)), H', ⟨Nat.le_refl _⟩, ⟨by (with_reducible repeat (first | apply Kd.R_alloc | apply Kd.R_drewN | apply Kd.R_drew)); exact Kd.R_mono (Kd.R_far (p := ⟨gb377, 1, none⟩) (Kd.R_far (p := ⟨gb377, 0, none⟩) (Kd.R_mono HO_3.out (fun k_ hk => (⟨hk, hk.2⟩ : _ ∧ k_ ≠ gb377))) (fun _ hk => hk.2) (.int .u64 ((rd_T25 l0 x10_1).f0))) (fun _ hk => hk.2) (.int .u64 ((rd_T25 l0 x10_1).f1))) (fun _ hk => hk.1.2)⟩, ⟨by (with_reducible repeat (first | refine kn_ ?_ _ | refine kd_ ?_ | refine ka_ ?_ _)); refine blk_put (cs := #[.int .u64 ((rd_T25 l0 x10_1).f0), .int .u64 0]) ?_ 1 _ rfl; (with_reducible repeat (first | refine kn_ ?_ _ | refine kd_ ?_ | refine ka_ ?_ _)); refine blk_put (cs := #[.int .u64 0, .int .u64 0]) ?_ 0 _ rfl; (with_reducible repeat (first | refine kn_ ?_ _ | refine kd_ ?_ | refine ka_ ?_ _)); exact BK377.out⟩, ⟨by repeat (first | (with_reducible first | exact HB.out | apply ba_ | apply bn_ | apply bd_ | refine below_set ?_ GE377.out) | exact HB.out)⟩⟩
       case round =>
        clear H'
        try clear c2
        try clear c2b0
        try clear p2
        try clear c3
        try clear c3b0
        try clear p3
        try clear q3
        try clear hx3
        try clear c4
        try clear c4b0
        try clear hcz6_0
        try clear hcz6_1
        try clear hfz6_0
        try clear hfz6_1
        try clear hx376_0
        try clear hx376_1
        try clear p376
        try clear q376
        obtain ⟨x6_2, rfl, HA, HK2, HO_3, BK377, HB⟩ := hrel
        cases gk with
        | zero => exact absurd HA.out (by simp [medlarref11_Order.l1])
        | succ k2 =>
         have H := HA.out
         clear HA
         simp only [medlarref11_Order.l1] at H
         by_cases c7 : x6_2 < (x3_1.length : Int)
         ·rw [if_pos c7] at H
          have c7b0 := decide_eq_true c7
          clear c7
          by_cases c8 : 0 ≤ x6_2
          ·rw [if_pos c8] at H
           have c8b0 := decide_eq_true c8
           clear c8
           replace H := bind_eq_some_iff.mp H
           obtain ⟨t379, A90, H⟩ := H
           replace H : (if t379 = true then (if x6_2 ≤ (x3_1.length : Int) then ((some (x3_1.take (x6_2 : Int).toNat : List (S25))).bind fun y380 => (if ([] : List (S25)).length + y380.length < 8796093022208 then ((some (([] : List (S25)) ++ y380 : List (S25))).bind fun y384 => (if y384.length < 8796093022208 then ((some (y384 ++ [(⟨((rd_T25 l0 x10_1).f0), ((rd_T25 l0 x10_1).f1)⟩ : S25)] : List (S25))).bind fun y387 => ((some (x3_1.drop (x6_2 : Int).toNat : List (S25))).bind fun y390 => (if y387.length + y390.length < 8796093022208 then (medlarref11_Order.l0 k2 (y387 ++ y390) l0 (l0.length : Int) (wrap64 (x10_1 + 1))) else (none)))) else (none))) else (none))) else (none)) else (medlarref11_Order.l1 k2 x3_1 (wrap64 (x6_2 + 1)) l0 (l0.length : Int) x10_1 ((rd_T25 l0 x10_1).f0) ((rd_T25 l0 x10_1).f1))) = some r := H
           have A9 := ak_ A90
           clear A90
           by_cases c10 : t379 = true
           ·subst c10
            have H1 : (if x6_2 ≤ (x3_1.length : Int) then ((some (x3_1.take (x6_2 : Int).toNat : List (S25))).bind fun y380 => (if ([] : List (S25)).length + y380.length < 8796093022208 then ((some (([] : List (S25)) ++ y380 : List (S25))).bind fun y384 => (if y384.length < 8796093022208 then ((some (y384 ++ [(⟨((rd_T25 l0 x10_1).f0), ((rd_T25 l0 x10_1).f1)⟩ : S25)] : List (S25))).bind fun y387 => ((some (x3_1.drop (x6_2 : Int).toNat : List (S25))).bind fun y390 => (if y387.length + y390.length < 8796093022208 then (medlarref11_Order.l0 k2 (y387 ++ y390) l0 (l0.length : Int) (wrap64 (x10_1 + 1))) else (none)))) else (none))) else (none))) else (none)) = some r := by rw [if_pos rfl] at H; exact H
            clear H
            have H := H1
            clear H1
            have c11b0 := eq_true (od_ (by first | (with_reducible assumption) | assumption) : 0 ≤ x6_2)
            by_cases c12 : x6_2 ≤ (x3_1.length : Int)
            ·rw [if_pos c12] at H
             have c12b0 := eq_true c12
             have c12b1 := decide_eq_true c12
             clear c12
             obtain ⟨y380, hy380⟩ : ∃ y_ : List (S25), y_ = (x3_1.take (x6_2 : Int).toNat) := ⟨_, rfl⟩
             replace H : (if ([] : List (S25)).length + y380.length < 8796093022208 then ((some (([] : List (S25)) ++ y380 : List (S25))).bind fun y384 => (if y384.length < 8796093022208 then ((some (y384 ++ [(⟨((rd_T25 l0 x10_1).f0), ((rd_T25 l0 x10_1).f1)⟩ : S25)] : List (S25))).bind fun y387 => ((some (x3_1.drop (x6_2 : Int).toNat : List (S25))).bind fun y390 => (if y387.length + y390.length < 8796093022208 then (medlarref11_Order.l0 k2 (y387 ++ y390) l0 (l0.length : Int) (wrap64 (x10_1 + 1))) else (none)))) else (none))) else (none)) = some r := by first | (rw [hy380]; with_reducible exact H) | (have H2_ := (Option.bind_some _ _).symm.trans H; rw [hy380]; with_reducible exact H2_) | (have H2_ := (Option.bind_some _ _).symm.trans H; with_reducible exact H2_) | with_reducible exact H | (rw [hy380]; exact H) | exact H
             have Ny380 := ak_ hy380
             clear hy380
             by_cases c13 : ([] : List (S25)).length + y380.length < 8796093022208
             ·rw [if_pos c13] at H
              have LMc13 := ak_ c13
              clear c13
              obtain ⟨y384, hy384⟩ : ∃ y_ : List (S25), y_ = (([] : List (S25)) ++ y380) := ⟨_, rfl⟩
              replace H : (if y384.length < 8796093022208 then ((some (y384 ++ [(⟨((rd_T25 l0 x10_1).f0), ((rd_T25 l0 x10_1).f1)⟩ : S25)] : List (S25))).bind fun y387 => ((some (x3_1.drop (x6_2 : Int).toNat : List (S25))).bind fun y390 => (if y387.length + y390.length < 8796093022208 then (medlarref11_Order.l0 k2 (y387 ++ y390) l0 (l0.length : Int) (wrap64 (x10_1 + 1))) else (none)))) else (none)) = some r := by first | (rw [hy384]; with_reducible exact H) | (have H2_ := (Option.bind_some _ _).symm.trans H; rw [hy384]; with_reducible exact H2_) | (have H2_ := (Option.bind_some _ _).symm.trans H; with_reducible exact H2_) | with_reducible exact H | (rw [hy384]; exact H) | exact H
              have Ny384 := ak_ hy384
              clear hy384
              by_cases c14 : y384.length < 8796093022208
              ·rw [if_pos c14] at H
               have LMc14 := ak_ c14
               clear c14
               obtain ⟨y387, hy387⟩ : ∃ y_ : List (S25), y_ = (y384 ++ [(⟨((rd_T25 l0 x10_1).f0), ((rd_T25 l0 x10_1).f1)⟩ : S25)]) := ⟨_, rfl⟩
               replace H : ((some (x3_1.drop (x6_2 : Int).toNat : List (S25))).bind fun y390 => (if y387.length + y390.length < 8796093022208 then (medlarref11_Order.l0 k2 (y387 ++ y390) l0 (l0.length : Int) (wrap64 (x10_1 + 1))) else (none))) = some r := by first | (rw [hy387]; with_reducible exact H) | (have H2_ := (Option.bind_some _ _).symm.trans H; rw [hy387]; with_reducible exact H2_) | (have H2_ := (Option.bind_some _ _).symm.trans H; with_reducible exact H2_) | with_reducible exact H | (rw [hy387]; exact H) | exact H
               have Ny387 := ak_ hy387
               clear hy387
               have c15b0 := eq_true (od_ (by first | (with_reducible assumption) | assumption) : 0 ≤ x6_2)
               have c16b0 := eq_true (od_ (by first | (with_reducible assumption) | assumption) : x6_2 ≤ (x3_1.length : Int))
               obtain ⟨y390, hy390⟩ : ∃ y_ : List (S25), y_ = (x3_1.drop (x6_2 : Int).toNat) := ⟨_, rfl⟩
               replace H : (if y387.length + y390.length < 8796093022208 then (medlarref11_Order.l0 k2 (y387 ++ y390) l0 (l0.length : Int) (wrap64 (x10_1 + 1))) else (none)) = some r := by first | (rw [hy390]; with_reducible exact H) | (have H2_ := (Option.bind_some _ _).symm.trans H; rw [hy390]; with_reducible exact H2_) | (have H2_ := (Option.bind_some _ _).symm.trans H; with_reducible exact H2_) | with_reducible exact H | (rw [hy390]; exact H) | exact H
               have Ny390 := ak_ hy390
               clear hy390
               by_cases c17 : y387.length + y390.length < 8796093022208
               ·rw [if_pos c17] at H
                have LMc17 := ak_ c17
                clear c17
                obtain ⟨y394, hy394⟩ : ∃ y_ : List (S25), y_ = (y387 ++ y390) := ⟨_, rfl⟩
                replace H : (medlarref11_Order.l0 k2 y394 l0 (l0.length : Int) (wrap64 (x10_1 + 1))) = some r := by first | (rw [hy394]; with_reducible exact H) | (have H2_ := (Option.bind_some _ _).symm.trans H; rw [hy394]; with_reducible exact H2_) | (have H2_ := (Option.bind_some _ _).symm.trans H; with_reducible exact H2_) | with_reducible exact H | (rw [hy394]; exact H) | exact H
                have Ny394 := ak_ hy394
                clear hy394
                have H' := ak_ H
                clear H
                try go_wp2
                have n0_ := ak_ (Kd.R_drew HO_3.out)
                have n1_ := ak_ (kd_ BK377.out)
                have n2_ := ak_ (bd_ HB.out)
                clear HO_3
                clear BK377
                clear HB
                have HO_3 := n0_
                have BK377 := n1_
                have HB := n2_
                clear n0_ n1_ n2_
                obtain ⟨Ao19, co19, eo19⟩ := Kd.R_slice HO_3.out
                (first | subst eo19 | (injection eo19 with f1_ f2_ f3_; have f4_ := f1_.symm; have f5_ := f3_.symm; clear f1_ f2_ f3_; subst f4_; subst f5_))
                have p378 : 0 ≤ (x6_2 : Int) := od_ (by first | (with_reducible assumption) | assumption)
                have q378 : x6_2 < (x3_1.length : Int) := od_ (by first | (with_reducible assumption) | assumption)
                obtain ⟨ad378, e378, hx378_0, hx378_1⟩ := at_T25 (Kd.R_reads' HO_3.out).2.2 x6_2 p378 q378
                cases e378
                replace p378 := eq_true p378
                replace q378 := eq_true q378
                refine start_ (n := 13) (S := fun w' => w'.cell? ⟨gb377, 0, none⟩ = some (.int .u64 ((rd_T25 l0 x10_1).f0)) ∧ w'.cell? ⟨gb377, 1, none⟩ = some (.int .u64 ((rd_T25 l0 x10_1).f1)) ∧ w'.cell? (ad378.add ((x6_2).toNat * 2)) = some (.int .u64 ((rd_T25 x3_1 x6_2).f0)) ∧ w'.cell? ⟨(ad378.add ((x6_2).toNat * 2)).block, (ad378.add ((x6_2).toNat * 2)).off + 1, none⟩ = some (.int .u64 ((rd_T25 x3_1 x6_2).f1))) (ds := []) #[false, false, false, false, false, false, false, false, false, false, false, false, false] (by kernel_rfl) rfl rfl ⟨(kc_ BK377.out 0).trans rfl, (kc_ BK377.out 1).trans rfl, hx378_0, hx378_1⟩ (fun hHeld => ?_); refine with_tabW medlarref11_Order.tab6 medlarref11_Order.bits6 (fun HT_ HW_ => ?_)
                generalize wr.drew = w18 at HO_3 BK377 HB hx378_0 hx378_1 hHeld ⊢
                refine pure_ (i := 0) (N := some 14) (v := ?_) (a' := ?_) (bA5 1 13) rfl rfl (any_of HT_.out (by kernel_rfl)) (fun _ _ _ h => h) (Or.inl ⟨by rfl, ?_⟩) ?_ ?_; rotate_left; (intro w'; go_simp; with_reducible rfl); rotate_left; (simp only [Act.put, setIfInBounds_toArray, set_cons_zero, set_cons_succ, i64_w, i32_w]; rfl)
                refine pure_ (i := 1) (N := some 15) (v := ?_) (a' := ?_) (bA5 2 13) rfl rfl (any_of HT_.out (by kernel_rfl)) (fun _ _ _ h => h) (Or.inl ⟨by rfl, ?_⟩) ?_ ?_; rotate_left; (intro w'; go_simp; with_reducible rfl); rotate_left; (simp only [Act.put, setIfInBounds_toArray, set_cons_zero, set_cons_succ, i64_w, i32_w]; rfl)
                refine pure_ (i := 2) (N := some 16) (v := ?_) (a' := ?_) (bA5 3 13) rfl rfl (any_of HT_.out (by kernel_rfl)) (fun _ _ _ h => h) (Or.inl ⟨by rfl, ?_⟩) ?_ ?_; rotate_left; (intro w'; go_simp; with_reducible rfl); rotate_left; (simp only [Act.put, setIfInBounds_toArray, set_cons_zero, set_cons_succ, i64_w, i32_w]; rfl)
                refine pure_ (i := 3) (N := some 17) (v := ?_) (a' := ?_) (bA5 4 13) rfl rfl (any_of HT_.out (by kernel_rfl)) (fun _ _ _ h => h) (Or.inl ⟨by rfl, ?_⟩) ?_ ?_; rotate_left; (intro w'; go_simp; with_reducible rfl); rotate_left; (simp only [Act.put, setIfInBounds_toArray, set_cons_zero, set_cons_succ, i64_w, i32_w]; rfl)
                refine pure_ (i := 4) (N := some 18) (v := ?_) (a' := ?_) (bA5 5 13) rfl rfl (any_of HT_.out (by kernel_rfl)) (fun _ _ _ h => h) (Or.inl ⟨by rfl, ?_⟩) ?_ ?_; rotate_left; (intro w'; go_simp; with_reducible rfl); rotate_left; (simp only [Act.put, setIfInBounds_toArray, set_cons_zero, set_cons_succ, i64_w, i32_w]; rfl)
                refine pure_ (i := 6) (N := some 20) (v := ?_) (a' := ?_) #[true, true, true, true, true, false, true, false, false, false, false, false, false] rfl rfl (any_of HT_.out (by kernel_rfl)) (fun _ _ _ h => h) (Or.inl ⟨by rfl, ?_⟩) ?_ ?_; rotate_left; (intro w'; go_simp; with_reducible rfl); rotate_left; (simp only [Act.put, setIfInBounds_toArray, set_cons_zero, set_cons_succ, i64_w, i32_w]; rfl)
                refine pure_ (i := 7) (N := some 21) (v := ?_) (a' := ?_) #[true, true, true, true, true, false, true, true, false, false, false, false, false] rfl rfl (any_of HT_.out (by kernel_rfl)) (fun _ _ _ h => h) (Or.inl ⟨by rfl, ?_⟩) ?_ ?_; rotate_left; (intro w'; go_simp; with_reducible rfl); rotate_left; (simp only [Act.put, setIfInBounds_toArray, set_cons_zero, set_cons_succ, i64_w, i32_w]; rfl)
                refine pure_ (i := 8) (N := some 22) (v := ?_) (a' := ?_) #[true, true, true, true, true, false, true, true, true, false, false, false, false] rfl rfl (any_of HT_.out (by kernel_rfl)) (fun _ _ _ h => h) (Or.inl ⟨by rfl, ?_⟩) ?_ ?_; rotate_left; (intro w'; go_simp; with_reducible rfl); rotate_left; (simp only [Act.put, setIfInBounds_toArray, set_cons_zero, set_cons_succ, i64_w, i32_w]; rfl)
                refine take_ (i := 5) (N := some 19) (v := ?_) (a' := ?_) (bA5 9 13) rfl rfl (take_ofW HT_.out HW_.out (by kernel_rfl)) (fun _ _ _ h => h) (Or.inl ⟨by rfl, ?_⟩) hHeld ?_ ?_
                rotate_left
                ·rintro w' ⟨s0, s1, s2, s3⟩
                 go_simp
                 with_reducible rfl
                rotate_left
                ·simp only [Act.put, setIfInBounds_toArray, set_cons_zero, set_cons_succ, i64_w, i32_w]
                 rfl
                refine take_ (i := 9) (N := some 23) (v := ?_) (a' := ?_) (bA5 10 13) rfl rfl (take_ofW HT_.out HW_.out (by kernel_rfl)) (fun _ _ _ h => h) (Or.inl ⟨by rfl, ?_⟩) hHeld ?_ ?_
                rotate_left
                ·rintro w' ⟨s0, s1, s2, s3⟩
                 go_simp
                 with_reducible rfl
                rotate_left
                ·simp only [Act.put, setIfInBounds_toArray, set_cons_zero, set_cons_succ, i64_w, i32_w]
                 rfl
                refine one_ (i := 10) (N := some 24) (bA5 11 13) rfl rfl (one_of HT_.out (by kernel_rfl)) (by decide) (fun K hK => ?_)
                refine goes_ func57 (by kernel_rfl) rfl #[.agg #[.int .u64 ((rd_T25 l0 x10_1).f0), .int .u64 ((rd_T25 l0 x10_1).f1)], .agg #[.int .u64 ((rd_T25 x3_1 x6_2).f0), .int .u64 ((rd_T25 x3_1 x6_2).f1)]] (by rfl) rfl rfl (by (try simp only [map_toArray, map_cons, map_nil]); first | done | rfl | (simp only [length_drop, length_take]; rfl)) ?_
                with_reducible refine (medlarref08_Less.calls ((rd_T25 l0 x10_1).f0) ((rd_T25 l0 x10_1).f1) ((rd_T25 x3_1 x6_2).f0) ((rd_T25 x3_1 x6_2).f1) true _ A9.out).mono ?_
                rintro e w20 ⟨rfl, hb⟩
                have HS2_ := (hb.cell (World.block_lt_of_cell? _ _ (hHeld.2.2.1))).trans (hHeld.2.2.1)
                have HS3_ := (hb.cell (World.block_lt_of_cell? _ _ (hHeld.2.2.2))).trans (hHeld.2.2.2)
                refine ⟨_, rfl, ?_⟩
                have n0_ := ak_ (Kd.R_below (rl_ HO_3) hb)
                have n1_ := ak_ (kb_ (g := gb377) (o := .cells #[.int .u64 ((rd_T25 l0 x10_1).f0), .int .u64 ((rd_T25 l0 x10_1).f1)] 25 (0, 0)) (kl_ BK377) hb)
                have n2_ := ak_ (bt_ (by repeat (first | (with_reducible first | exact HB.out | apply ba_ | apply bn_ | apply bd_ | refine below_set ?_ GE377.out) | exact HB.out)) hb)
                clear HO_3
                clear BK377
                clear HB
                have HO_3 := n0_
                have BK377 := n1_
                have HB := n2_
                clear n0_ n1_ n2_
                (try clear hb)
                (try clear hb2)
                (try clear hk)
                (try clear hi)
                refine hK.out _ _ ⟨(kc_ BK377.out 0).trans rfl, (kc_ BK377.out 1).trans rfl, HS2_, HS3_⟩ (fun hHeld => ?_)
                clear hK K
                refine norm_ (a' := ?_) ?_ ?_
                rotate_left
                ·show Act.put _ (some 24) _ = _
                 simp only [Act.put, setIfInBounds_toArray, set_cons_zero, set_cons_succ, i64_w, i32_w]
                 rfl
                refine pure_ (i := 11) (N := some 25) (v := ?_) (a' := ?_) (bA5 12 13) rfl rfl (any_of HT_.out (by kernel_rfl)) (fun _ _ _ h => h) (Or.inl ⟨by rfl, ?_⟩) ?_ ?_; rotate_left; (intro w'; go_simp; with_reducible rfl); rotate_left; (simp only [Act.put, setIfInBounds_toArray, set_cons_zero, set_cons_succ, i64_w, i32_w]; rfl)
                refine pure_ (i := 12) (N := some 26) (v := ?_) (a' := ?_) (bA5 13 13) rfl rfl (any_of HT_.out (by kernel_rfl)) (fun _ _ _ h => h) (Or.inl ⟨by rfl, ?_⟩) ?_ ?_; rotate_left; (intro w'; go_simp; with_reducible rfl); rotate_left; (simp only [Act.put, setIfInBounds_toArray, set_cons_zero, set_cons_succ, i64_w, i32_w]; rfl)
                refine done_ (done_of HT_.out (by kernel_rfl)) ?_
                have q21 : (x6_2 : Int) ≤ ((x3_1.length : Int) : Int) := od_ (by first | (with_reducible assumption) | assumption)
                obtain ⟨i021, hi021, _, hsz21, _⟩ := info_parts info25
                have hroom21 : x3_1.length ≤ co19 := (Kd.R_reads' HO_3.out).2.1
                have hC21 : Kd.C k25 _ (some ad378) x3_1.length x3_1 := (Kd.R_reads' HO_3.out).2.2
                have hcut21 := cut_to (P := Tryz.prog) 27 25 .i64 underlying27 hi021 (some ad378) x3_1.length co19 x6_2 (od_ (by first | (with_reducible assumption) | assumption)) q21 hroom21
                have hr21 := Kd.C_take (m := (x6_2 : Int).toNat) hC21 (by omega)
                have hy21 : y380.length = (x6_2 : Int).toNat := (by rw [Ny380.out, List.length_take]; omega)
                rw [← Ny380.out] at hr21
                rw [← hy21] at hcut21
                have HR383 := ak_ hr21
                have HC383 := ak_ (show y380.length ≤ co19 from by omega)
                clear hr21 hC21 hroom21 hi021 hsz21
                have KY21 := ak_ hy21
                clear hy21
                have KL21 := ak_ (show (x6_2 : Int).toNat ≤ x3_1.length from by omega)
                replace q21 := eq_true q21
                try go_wp2_with (first | ((with_reducible refine gate_builtin (b := .append) (xs := #[.const (.slice none 0 0), .tmp 31]) rfl ?_); at_builtin; refine Kd.R_append_rows k25 (w0 := w) w.heap.size rfl (.const (.slice none 0 0)) (.tmp 31) 27 25 (.agg #[(.int .u64 0), (.int .u64 0)]) 16 rfl underlying27 info25 rfl (by decide) (by omega) (.slice none 0 0) ([] : List (S25)) y380 _ _ _ (fun k_ => some k_ ≠ (.slice (some ad378) x3_1.length co19 : Value).ownBlock ∧ k_ ≠ gb377) (fun _ => False) rfl rfl ?aO ?aR (fun _ _ h => h) (fun _ h => h.elim) ?aF ?aB ?aS ?aL ?_; (case aR => repeat (first | exact (by repeat (first | (with_reducible exact HR383.out) | (with_reducible refine Kd.C_alloc ?_ _) | (with_reducible refine Kd.C_drewN ?_ _) | (with_reducible refine Kd.C_drew ?_) | exact HR383.out)) | (with_reducible refine Kd.C_alloc ?_ _) | (with_reducible refine Kd.C_drewN ?_ _) | (with_reducible refine Kd.C_drew ?_))); (case aB => exact (by repeat (first | (with_reducible first | exact HB.out | apply ba_ | apply bn_ | apply bd_ | refine below_set ?_ GE377.out) | exact HB.out))); (case aF => exact (fun k_ hk => ⟨Kd.fresh' (Kd.R_lt (rl_ HO_3)) k_ hk, Kd.freshB (g := gb377) (o := .cells #[.int .u64 ((rd_T25 l0 x10_1).f0), .int .u64 ((rd_T25 l0 x10_1).f1)] 25 (0, 0)) (kl_ BK377) k_ hk⟩)); (case aO => exact ((Kd.R_nil _ _ _ _ (fun k_ => some k_ ≠ (.slice (some ad378) x3_1.length co19 : Value).ownBlock ∧ k_ ≠ gb377)))); (case aS => exact (bz_ (by repeat (first | (with_reducible first | exact HB.out | apply ba_ | apply bn_ | apply bd_ | refine below_set ?_ GE377.out) | exact HB.out)))); (case aL => have := LMc13.out; omega); intro v385 w22 ho hb hg hat; rw [← Ny384.out] at ho; have n0_ := ak_ (Kd.R_after (Kd.R_apart_nil (rl_ HO_3)) hg hat); have n1_ := ak_ (blk_grown (g := gb377) (o := .cells #[.int .u64 ((rd_T25 l0 x10_1).f0), .int .u64 ((rd_T25 l0 x10_1).f1)] 25 (0, 0)) (kl_ BK377) hg (by simp [Value.ownBlock])); have n2_ := ak_ (hb); have n3_ := ak_ ((show Kd.C k25 w22 (some ad378) y380.length y380 from by rw [Ny380.out]; exact Kd.C_take (m := (x6_2 : Int).toNat) ((Kd.R_reads' (Kd.R_after (Kd.R_apart_nil (rl_ HO_3)) hg hat)).2.2) KL21.out)); have n4_ := ak_ (ho); clear HO_3; clear BK377; clear HB; clear HR383; have HO_3 := n0_; have BK377 := n1_; have HB := n2_; have HR383 := n3_; have HO386 := n4_; clear n0_ n1_ n2_ n3_ n4_; clear ho hb hg hat; have hcz23_0 : w22.cell? ⟨gb377, 0, none⟩ = some (.int .u64 ((rd_T25 l0 x10_1).f0)) := (kc_ BK377.out 0).trans rfl; have hcz23_1 : w22.cell? ⟨gb377, 1, none⟩ = some (.int .u64 ((rd_T25 l0 x10_1).f1)) := (kc_ BK377.out 1).trans rfl; have hfz23_0 := kf_ BK377.out 0; have hfz23_1 := kf_ BK377.out 1) | ((with_reducible refine gate_builtin (b := .append) (xs := #[.tmp 33, .tmp 35]) rfl ?_); at_builtin; refine Kd.R_append k25 (w0 := w) w.heap.size rfl (.tmp 33) (.tmp 35) 27 25 (.agg #[(.int .u64 0), (.int .u64 0)]) 16 rfl underlying27 info25 rfl (by decide) (by omega) v385 y384 (⟨((rd_T25 l0 x10_1).f0), ((rd_T25 l0 x10_1).f1)⟩ : S25) [.int .u64 ((rd_T25 l0 x10_1).f0), .int .u64 ((rd_T25 l0 x10_1).f1)] (fun k_ => some k_ ≠ (.slice (some ad378) x3_1.length co19 : Value).ownBlock ∧ k_ ≠ gb377) (fun _ => False) rfl rfl ?aP (fun _ hk => hk.elim) ?aF ?aO ?aB ?aS ?aL ?_; (case aP => exact k25_mkM _ _ _ (⟨((rd_T25 l0 x10_1).f0), ((rd_T25 l0 x10_1).f1)⟩ : S25)); (case aB => exact (by repeat (first | (with_reducible first | exact HB.out | apply ba_ | apply bn_ | apply bd_ | refine below_set ?_ GE377.out) | exact HB.out))); (case aF => exact (fun k_ hk => ⟨Kd.fresh' (Kd.R_lt (rl_ HO_3)) k_ hk, Kd.freshB (g := gb377) (o := .cells #[.int .u64 ((rd_T25 l0 x10_1).f0), .int .u64 ((rd_T25 l0 x10_1).f1)] 25 (0, 0)) (kl_ BK377) k_ hk⟩)); (case aO => exact (rl_ HO386)); (case aS => exact (bz_ (by repeat (first | (with_reducible first | exact HB.out | apply ba_ | apply bn_ | apply bd_ | refine below_set ?_ GE377.out) | exact HB.out)))); (case aL => have := LMc14.out; omega); intro v388 w24 ho hb hg hat; rw [← Ny387.out] at ho; have n0_ := ak_ (Kd.R_after (ok := (fun k_ => k_ ≠ gb377)) (rl_ HO_3) hg hat); have n1_ := ak_ (blk_grown (g := gb377) (o := .cells #[.int .u64 ((rd_T25 l0 x10_1).f0), .int .u64 ((rd_T25 l0 x10_1).f1)] 25 (0, 0)) (kl_ BK377) hg (Kd.R_away HO386.out (fun _ hk => hk.2))); have n2_ := ak_ (hb); have n3_ := ak_ ((show Kd.C k25 w24 (some ad378) y380.length y380 from by rw [Ny380.out]; exact Kd.C_take (m := (x6_2 : Int).toNat) ((Kd.R_reads' (Kd.R_after (ok := (fun k_ => k_ ≠ gb377)) (rl_ HO_3) hg hat)).2.2) KL21.out)); have n4_ := ak_ (ho); clear HO_3; clear BK377; clear HB; clear HR383; clear HO386; have HO_3 := n0_; have BK377 := n1_; have HB := n2_; have HR383 := n3_; have HO389 := n4_; clear n0_ n1_ n2_ n3_ n4_; clear ho hb hg hat; have q25 : (x6_2 : Int) ≤ ((x3_1.length : Int) : Int) := od_ (by first | (with_reducible assumption) | assumption); obtain ⟨i025, hi025, _, hsz25, _⟩ := info_parts info25; have hroom25 : x3_1.length ≤ co19 := (Kd.R_reads' HO_3.out).2.1; have hC25 : Kd.C k25 _ (some ad378) x3_1.length x3_1 := (Kd.R_reads' HO_3.out).2.2; have q025 : (0 : Int) ≤ (x6_2 : Int) := od_ (by first | (with_reducible assumption) | assumption); have hcut25 := cut_from (P := Tryz.prog) 27 25 .i64 underlying27 hi025 2 hsz25 (some ad378) x3_1.length co19 x6_2 q025 q25; have hr25 := Kd.C_drop (m := (x6_2 : Int).toNat) (c := co19) hC25 (by omega) hroom25; obtain ⟨A25, hA25⟩ : ∃ A1, A1 = (if co19 = (x6_2 : Int).toNat then (some ad378) else ((some ad378) : Option Addr).map (·.add ((x6_2 : Int).toNat * 2))) := ⟨_, rfl⟩; obtain ⟨c25, hc25⟩ : ∃ c1, c1 = co19 - (x6_2 : Int).toNat := ⟨_, rfl⟩; have hy25 : y390.length = x3_1.length - (x6_2 : Int).toNat := (by rw [Ny390.out, List.length_drop] <;> omega); rw [show (x3_1).drop (x6_2 : Int).toNat = y390 from Ny390.out.symm] at hr25; replace hr25 : Kd.C k25 _ A25 y390.length y390 := (by rw [hA25]; exact hr25); rw [← hy25, ← hA25, ← hc25] at hcut25; have HR393 := ak_ hr25; have HC393 := ak_ (show y390.length ≤ c25 from by rw [hy25, hc25]; exact Nat.sub_le_sub_right hroom25 _); clear hr25 hC25 hroom25 hi025 hsz25 hc25; have KY25 := ak_ hy25; have KA25 := ak_ hA25; clear hy25 hA25; have KL25 := ak_ (show (x6_2 : Int).toNat ≤ x3_1.length from by omega); replace q25 := eq_true q25) | ((with_reducible refine gate_builtin (b := .append) (xs := #[.tmp 37, .tmp 40]) rfl ?_); at_builtin; refine Kd.R_append_rows k25 (w0 := w) w.heap.size rfl (.tmp 37) (.tmp 40) 27 25 (.agg #[(.int .u64 0), (.int .u64 0)]) 16 rfl underlying27 info25 rfl (by decide) (by omega) v388 y387 y390 _ _ _ (fun k_ => some k_ ≠ (.slice (some ad378) x3_1.length co19 : Value).ownBlock ∧ k_ ≠ gb377) (fun _ => False) rfl rfl ?aO ?aR (fun _ _ h => h) (fun _ h => h.elim) ?aF ?aB ?aS ?aL ?_; (case aR => repeat (first | exact (by repeat (first | (with_reducible exact HR393.out) | (with_reducible refine Kd.C_alloc ?_ _) | (with_reducible refine Kd.C_drewN ?_ _) | (with_reducible refine Kd.C_drew ?_) | exact HR393.out)) | (with_reducible refine Kd.C_alloc ?_ _) | (with_reducible refine Kd.C_drewN ?_ _) | (with_reducible refine Kd.C_drew ?_))); (case aB => exact (by repeat (first | (with_reducible first | exact HB.out | apply ba_ | apply bn_ | apply bd_ | refine below_set ?_ GE377.out) | exact HB.out))); (case aF => exact (fun k_ hk => ⟨Kd.fresh' (Kd.R_lt (rl_ HO_3)) k_ hk, Kd.freshB (g := gb377) (o := .cells #[.int .u64 ((rd_T25 l0 x10_1).f0), .int .u64 ((rd_T25 l0 x10_1).f1)] 25 (0, 0)) (kl_ BK377) k_ hk⟩)); (case aO => exact (rl_ HO389)); (case aS => exact (bz_ (by repeat (first | (with_reducible first | exact HB.out | apply ba_ | apply bn_ | apply bd_ | refine below_set ?_ GE377.out) | exact HB.out)))); (case aL => have := LMc17.out; omega); intro v395 w26 ho hb hg hat; rw [← Ny394.out] at ho; have n0_ := ak_ (Kd.R_after (ok := (fun k_ => k_ ≠ gb377)) (rl_ HO_3) hg hat); have n1_ := ak_ (blk_grown (g := gb377) (o := .cells #[.int .u64 ((rd_T25 l0 x10_1).f0), .int .u64 ((rd_T25 l0 x10_1).f1)] 25 (0, 0)) (kl_ BK377) hg (Kd.R_away HO389.out (fun _ hk => hk.2))); have n2_ := ak_ (hb); have n3_ := ak_ ((show Kd.C k25 w26 (some ad378) y380.length y380 from by rw [Ny380.out]; exact Kd.C_take (m := (x6_2 : Int).toNat) ((Kd.R_reads' (Kd.R_after (ok := (fun k_ => k_ ≠ gb377)) (rl_ HO_3) hg hat)).2.2) KL21.out)); have n4_ := ak_ ((show Kd.C k25 w26 A25 y390.length y390 from by rw [Ny390.out, KA25.out]; exact Kd.C_drop (m := (x6_2 : Int).toNat) (c := co19) ((Kd.R_reads' (Kd.R_after (ok := (fun k_ => k_ ≠ gb377)) (rl_ HO_3) hg hat)).2.2) KL25.out ((Kd.R_reads' (Kd.R_after (ok := (fun k_ => k_ ≠ gb377)) (rl_ HO_3) hg hat)).2.1))); have n5_ := ak_ (ho); clear HO_3; clear BK377; clear HB; clear HR383; clear HR393; clear HO389; have HO_3 := n0_; have BK377 := n1_; have HB := n2_; have HR383 := n3_; have HR393 := n4_; have HO396 := n5_; clear n0_ n1_ n2_ n3_ n4_ n5_; clear ho hb hg hat))
                go_roundg k2
                case measure => have := HK1.out; have := HK2.out; omega
                case rel => exact ⟨(y394), (wrap64 (x10_1 + 1)), (by first | rfl | (simp; done) | (simp [*]; done)), H', ⟨by have := HK1.out; have := HK2.out; omega⟩, ⟨by (with_reducible repeat (first | apply Kd.R_alloc | apply Kd.R_drewN | apply Kd.R_drew)); exact Kd.R_mono HO396.out (fun _ hk => trivial)⟩, ⟨by repeat (first | (with_reducible first | exact HB.out | apply ba_ | apply bn_ | apply bd_ | refine below_set ?_ GE377.out) | exact HB.out)⟩⟩
               ·rw [if_neg c17] at H
                exact absurd H (by simp)
              ·rw [if_neg c14] at H
               exact absurd H (by simp)
             ·rw [if_neg c13] at H
              exact absurd H (by simp)
            ·rw [if_neg c12] at H
             exact absurd H (by simp)
           ·replace c10 := Bool.eq_false_iff.mpr c10
            subst c10
            have H1 : (medlarref11_Order.l1 k2 x3_1 (wrap64 (x6_2 + 1)) l0 (l0.length : Int) x10_1 ((rd_T25 l0 x10_1).f0) ((rd_T25 l0 x10_1).f1)) = some r := by rw [if_neg (show ¬ (false = true) by decide)] at H; exact H
            clear H
            have H := H1
            clear H1
            have H' := ak_ H
            clear H
            try go_wp2
            have n0_ := ak_ (Kd.R_drew HO_3.out)
            have n1_ := ak_ (kd_ BK377.out)
            have n2_ := ak_ (bd_ HB.out)
            clear HO_3
            clear BK377
            clear HB
            have HO_3 := n0_
            have BK377 := n1_
            have HB := n2_
            clear n0_ n1_ n2_
            obtain ⟨Ao28, co28, eo28⟩ := Kd.R_slice HO_3.out
            (first | subst eo28 | (injection eo28 with f1_ f2_ f3_; have f4_ := f1_.symm; have f5_ := f3_.symm; clear f1_ f2_ f3_; subst f4_; subst f5_))
            have p378 : 0 ≤ (x6_2 : Int) := od_ (by first | (with_reducible assumption) | assumption)
            have q378 : x6_2 < (x3_1.length : Int) := od_ (by first | (with_reducible assumption) | assumption)
            obtain ⟨ad378, e378, hx378_0, hx378_1⟩ := at_T25 (Kd.R_reads' HO_3.out).2.2 x6_2 p378 q378
            cases e378
            replace p378 := eq_true p378
            replace q378 := eq_true q378
            refine start_ (n := 13) (S := fun w' => w'.cell? ⟨gb377, 0, none⟩ = some (.int .u64 ((rd_T25 l0 x10_1).f0)) ∧ w'.cell? ⟨gb377, 1, none⟩ = some (.int .u64 ((rd_T25 l0 x10_1).f1)) ∧ w'.cell? (ad378.add ((x6_2).toNat * 2)) = some (.int .u64 ((rd_T25 x3_1 x6_2).f0)) ∧ w'.cell? ⟨(ad378.add ((x6_2).toNat * 2)).block, (ad378.add ((x6_2).toNat * 2)).off + 1, none⟩ = some (.int .u64 ((rd_T25 x3_1 x6_2).f1))) (ds := []) #[false, false, false, false, false, false, false, false, false, false, false, false, false] (by kernel_rfl) rfl rfl ⟨(kc_ BK377.out 0).trans rfl, (kc_ BK377.out 1).trans rfl, hx378_0, hx378_1⟩ (fun hHeld => ?_); refine with_tabW medlarref11_Order.tab6 medlarref11_Order.bits6 (fun HT_ HW_ => ?_)
            generalize wr.drew = w27 at HO_3 BK377 HB hx378_0 hx378_1 hHeld ⊢
            refine pure_ (i := 0) (N := some 14) (v := ?_) (a' := ?_) (bA5 1 13) rfl rfl (any_of HT_.out (by kernel_rfl)) (fun _ _ _ h => h) (Or.inl ⟨by rfl, ?_⟩) ?_ ?_; rotate_left; (intro w'; go_simp; with_reducible rfl); rotate_left; (simp only [Act.put, setIfInBounds_toArray, set_cons_zero, set_cons_succ, i64_w, i32_w]; rfl)
            refine pure_ (i := 1) (N := some 15) (v := ?_) (a' := ?_) (bA5 2 13) rfl rfl (any_of HT_.out (by kernel_rfl)) (fun _ _ _ h => h) (Or.inl ⟨by rfl, ?_⟩) ?_ ?_; rotate_left; (intro w'; go_simp; with_reducible rfl); rotate_left; (simp only [Act.put, setIfInBounds_toArray, set_cons_zero, set_cons_succ, i64_w, i32_w]; rfl)
            refine pure_ (i := 2) (N := some 16) (v := ?_) (a' := ?_) (bA5 3 13) rfl rfl (any_of HT_.out (by kernel_rfl)) (fun _ _ _ h => h) (Or.inl ⟨by rfl, ?_⟩) ?_ ?_; rotate_left; (intro w'; go_simp; with_reducible rfl); rotate_left; (simp only [Act.put, setIfInBounds_toArray, set_cons_zero, set_cons_succ, i64_w, i32_w]; rfl)
            refine pure_ (i := 3) (N := some 17) (v := ?_) (a' := ?_) (bA5 4 13) rfl rfl (any_of HT_.out (by kernel_rfl)) (fun _ _ _ h => h) (Or.inl ⟨by rfl, ?_⟩) ?_ ?_; rotate_left; (intro w'; go_simp; with_reducible rfl); rotate_left; (simp only [Act.put, setIfInBounds_toArray, set_cons_zero, set_cons_succ, i64_w, i32_w]; rfl)
            refine pure_ (i := 4) (N := some 18) (v := ?_) (a' := ?_) (bA5 5 13) rfl rfl (any_of HT_.out (by kernel_rfl)) (fun _ _ _ h => h) (Or.inl ⟨by rfl, ?_⟩) ?_ ?_; rotate_left; (intro w'; go_simp; with_reducible rfl); rotate_left; (simp only [Act.put, setIfInBounds_toArray, set_cons_zero, set_cons_succ, i64_w, i32_w]; rfl)
            refine pure_ (i := 6) (N := some 20) (v := ?_) (a' := ?_) #[true, true, true, true, true, false, true, false, false, false, false, false, false] rfl rfl (any_of HT_.out (by kernel_rfl)) (fun _ _ _ h => h) (Or.inl ⟨by rfl, ?_⟩) ?_ ?_; rotate_left; (intro w'; go_simp; with_reducible rfl); rotate_left; (simp only [Act.put, setIfInBounds_toArray, set_cons_zero, set_cons_succ, i64_w, i32_w]; rfl)
            refine pure_ (i := 7) (N := some 21) (v := ?_) (a' := ?_) #[true, true, true, true, true, false, true, true, false, false, false, false, false] rfl rfl (any_of HT_.out (by kernel_rfl)) (fun _ _ _ h => h) (Or.inl ⟨by rfl, ?_⟩) ?_ ?_; rotate_left; (intro w'; go_simp; with_reducible rfl); rotate_left; (simp only [Act.put, setIfInBounds_toArray, set_cons_zero, set_cons_succ, i64_w, i32_w]; rfl)
            refine pure_ (i := 8) (N := some 22) (v := ?_) (a' := ?_) #[true, true, true, true, true, false, true, true, true, false, false, false, false] rfl rfl (any_of HT_.out (by kernel_rfl)) (fun _ _ _ h => h) (Or.inl ⟨by rfl, ?_⟩) ?_ ?_; rotate_left; (intro w'; go_simp; with_reducible rfl); rotate_left; (simp only [Act.put, setIfInBounds_toArray, set_cons_zero, set_cons_succ, i64_w, i32_w]; rfl)
            refine take_ (i := 5) (N := some 19) (v := ?_) (a' := ?_) (bA5 9 13) rfl rfl (take_ofW HT_.out HW_.out (by kernel_rfl)) (fun _ _ _ h => h) (Or.inl ⟨by rfl, ?_⟩) hHeld ?_ ?_
            rotate_left
            ·rintro w' ⟨s0, s1, s2, s3⟩
             go_simp
             with_reducible rfl
            rotate_left
            ·simp only [Act.put, setIfInBounds_toArray, set_cons_zero, set_cons_succ, i64_w, i32_w]
             rfl
            refine take_ (i := 9) (N := some 23) (v := ?_) (a' := ?_) (bA5 10 13) rfl rfl (take_ofW HT_.out HW_.out (by kernel_rfl)) (fun _ _ _ h => h) (Or.inl ⟨by rfl, ?_⟩) hHeld ?_ ?_
            rotate_left
            ·rintro w' ⟨s0, s1, s2, s3⟩
             go_simp
             with_reducible rfl
            rotate_left
            ·simp only [Act.put, setIfInBounds_toArray, set_cons_zero, set_cons_succ, i64_w, i32_w]
             rfl
            refine one_ (i := 10) (N := some 24) (bA5 11 13) rfl rfl (one_of HT_.out (by kernel_rfl)) (by decide) (fun K hK => ?_)
            refine goes_ func57 (by kernel_rfl) rfl #[.agg #[.int .u64 ((rd_T25 l0 x10_1).f0), .int .u64 ((rd_T25 l0 x10_1).f1)], .agg #[.int .u64 ((rd_T25 x3_1 x6_2).f0), .int .u64 ((rd_T25 x3_1 x6_2).f1)]] (by rfl) rfl rfl (by (try simp only [map_toArray, map_cons, map_nil]); first | done | rfl | (simp only [length_drop, length_take]; rfl)) ?_
            with_reducible refine (medlarref08_Less.calls ((rd_T25 l0 x10_1).f0) ((rd_T25 l0 x10_1).f1) ((rd_T25 x3_1 x6_2).f0) ((rd_T25 x3_1 x6_2).f1) false _ A9.out).mono ?_
            rintro e w29 ⟨rfl, hb⟩
            have HS2_ := (hb.cell (World.block_lt_of_cell? _ _ (hHeld.2.2.1))).trans (hHeld.2.2.1)
            have HS3_ := (hb.cell (World.block_lt_of_cell? _ _ (hHeld.2.2.2))).trans (hHeld.2.2.2)
            refine ⟨_, rfl, ?_⟩
            have n0_ := ak_ (Kd.R_below (rl_ HO_3) hb)
            have n1_ := ak_ (kb_ (g := gb377) (o := .cells #[.int .u64 ((rd_T25 l0 x10_1).f0), .int .u64 ((rd_T25 l0 x10_1).f1)] 25 (0, 0)) (kl_ BK377) hb)
            have n2_ := ak_ (bt_ (by repeat (first | (with_reducible first | exact HB.out | apply ba_ | apply bn_ | apply bd_ | refine below_set ?_ GE377.out) | exact HB.out)) hb)
            clear HO_3
            clear BK377
            clear HB
            have HO_3 := n0_
            have BK377 := n1_
            have HB := n2_
            clear n0_ n1_ n2_
            (try clear hb)
            (try clear hb2)
            (try clear hk)
            (try clear hi)
            refine hK.out _ _ ⟨(kc_ BK377.out 0).trans rfl, (kc_ BK377.out 1).trans rfl, HS2_, HS3_⟩ (fun hHeld => ?_)
            clear hK K
            refine norm_ (a' := ?_) ?_ ?_
            rotate_left
            ·show Act.put _ (some 24) _ = _
             simp only [Act.put, setIfInBounds_toArray, set_cons_zero, set_cons_succ, i64_w, i32_w]
             rfl
            refine pure_ (i := 11) (N := some 25) (v := ?_) (a' := ?_) (bA5 12 13) rfl rfl (any_of HT_.out (by kernel_rfl)) (fun _ _ _ h => h) (Or.inl ⟨by rfl, ?_⟩) ?_ ?_; rotate_left; (intro w'; go_simp; with_reducible rfl); rotate_left; (simp only [Act.put, setIfInBounds_toArray, set_cons_zero, set_cons_succ, i64_w, i32_w]; rfl)
            refine pure_ (i := 12) (N := some 26) (v := ?_) (a' := ?_) (bA5 13 13) rfl rfl (any_of HT_.out (by kernel_rfl)) (fun _ _ _ h => h) (Or.inl ⟨by rfl, ?_⟩) ?_ ?_; rotate_left; (intro w'; go_simp; with_reducible rfl); rotate_left; (simp only [Act.put, setIfInBounds_toArray, set_cons_zero, set_cons_succ, i64_w, i32_w]; rfl)
            refine done_ (done_of HT_.out (by kernel_rfl)) ?_
            try go_wp2
            go_roundg k2
            case measure => have := HK1.out; have := HK2.out; omega
            case rel => exact ⟨(wrap64 (x6_2 + 1)), (by first | rfl | (simp; done) | (simp [*]; done)), H', ⟨by have := HK1.out; have := HK2.out; omega⟩, ⟨rl_ HO_3⟩, ⟨kl_ BK377⟩, ⟨by repeat (first | (with_reducible first | exact HB.out | apply ba_ | apply bn_ | apply bd_ | refine below_set ?_ GE377.out) | exact HB.out)⟩⟩
          ·rw [if_neg c8] at H
           exact absurd H (by simp)
         ·rw [if_neg c7] at H
          have c7b0 := decide_eq_false c7
          clear c7
          by_cases c30 : 0 ≤ x6_2
          ·rw [if_pos c30] at H
           have c30b0 := eq_true c30
           have c30b1 := decide_eq_true c30
           clear c30
           by_cases c31 : x6_2 ≤ (x3_1.length : Int)
           ·rw [if_pos c31] at H
            have c31b0 := eq_true c31
            have c31b1 := decide_eq_true c31
            clear c31
            obtain ⟨y397, hy397⟩ : ∃ y_ : List (S25), y_ = (x3_1.take (x6_2 : Int).toNat) := ⟨_, rfl⟩
            replace H : (if ([] : List (S25)).length + y397.length < 8796093022208 then ((some (([] : List (S25)) ++ y397 : List (S25))).bind fun y401 => (if y401.length < 8796093022208 then ((some (y401 ++ [(⟨((rd_T25 l0 x10_1).f0), ((rd_T25 l0 x10_1).f1)⟩ : S25)] : List (S25))).bind fun y404 => ((some (x3_1.drop (x6_2 : Int).toNat : List (S25))).bind fun y407 => (if y404.length + y407.length < 8796093022208 then (medlarref11_Order.l0 k2 (y404 ++ y407) l0 (l0.length : Int) (wrap64 (x10_1 + 1))) else (none)))) else (none))) else (none)) = some r := by first | (rw [hy397]; with_reducible exact H) | (have H2_ := (Option.bind_some _ _).symm.trans H; rw [hy397]; with_reducible exact H2_) | (have H2_ := (Option.bind_some _ _).symm.trans H; with_reducible exact H2_) | with_reducible exact H | (rw [hy397]; exact H) | exact H
            have Ny397 := ak_ hy397
            clear hy397
            by_cases c32 : ([] : List (S25)).length + y397.length < 8796093022208
            ·rw [if_pos c32] at H
             have LMc32 := ak_ c32
             clear c32
             obtain ⟨y401, hy401⟩ : ∃ y_ : List (S25), y_ = (([] : List (S25)) ++ y397) := ⟨_, rfl⟩
             replace H : (if y401.length < 8796093022208 then ((some (y401 ++ [(⟨((rd_T25 l0 x10_1).f0), ((rd_T25 l0 x10_1).f1)⟩ : S25)] : List (S25))).bind fun y404 => ((some (x3_1.drop (x6_2 : Int).toNat : List (S25))).bind fun y407 => (if y404.length + y407.length < 8796093022208 then (medlarref11_Order.l0 k2 (y404 ++ y407) l0 (l0.length : Int) (wrap64 (x10_1 + 1))) else (none)))) else (none)) = some r := by first | (rw [hy401]; with_reducible exact H) | (have H2_ := (Option.bind_some _ _).symm.trans H; rw [hy401]; with_reducible exact H2_) | (have H2_ := (Option.bind_some _ _).symm.trans H; with_reducible exact H2_) | with_reducible exact H | (rw [hy401]; exact H) | exact H
             have Ny401 := ak_ hy401
             clear hy401
             by_cases c33 : y401.length < 8796093022208
             ·rw [if_pos c33] at H
              have LMc33 := ak_ c33
              clear c33
              obtain ⟨y404, hy404⟩ : ∃ y_ : List (S25), y_ = (y401 ++ [(⟨((rd_T25 l0 x10_1).f0), ((rd_T25 l0 x10_1).f1)⟩ : S25)]) := ⟨_, rfl⟩
              replace H : ((some (x3_1.drop (x6_2 : Int).toNat : List (S25))).bind fun y407 => (if y404.length + y407.length < 8796093022208 then (medlarref11_Order.l0 k2 (y404 ++ y407) l0 (l0.length : Int) (wrap64 (x10_1 + 1))) else (none))) = some r := by first | (rw [hy404]; with_reducible exact H) | (have H2_ := (Option.bind_some _ _).symm.trans H; rw [hy404]; with_reducible exact H2_) | (have H2_ := (Option.bind_some _ _).symm.trans H; with_reducible exact H2_) | with_reducible exact H | (rw [hy404]; exact H) | exact H
              have Ny404 := ak_ hy404
              clear hy404
              have c34b0 := eq_true (od_ (by first | (with_reducible assumption) | assumption) : 0 ≤ x6_2)
              have c35b0 := eq_true (od_ (by first | (with_reducible assumption) | assumption) : x6_2 ≤ (x3_1.length : Int))
              obtain ⟨y407, hy407⟩ : ∃ y_ : List (S25), y_ = (x3_1.drop (x6_2 : Int).toNat) := ⟨_, rfl⟩
              replace H : (if y404.length + y407.length < 8796093022208 then (medlarref11_Order.l0 k2 (y404 ++ y407) l0 (l0.length : Int) (wrap64 (x10_1 + 1))) else (none)) = some r := by first | (rw [hy407]; with_reducible exact H) | (have H2_ := (Option.bind_some _ _).symm.trans H; rw [hy407]; with_reducible exact H2_) | (have H2_ := (Option.bind_some _ _).symm.trans H; with_reducible exact H2_) | with_reducible exact H | (rw [hy407]; exact H) | exact H
              have Ny407 := ak_ hy407
              clear hy407
              by_cases c36 : y404.length + y407.length < 8796093022208
              ·rw [if_pos c36] at H
               have LMc36 := ak_ c36
               clear c36
               obtain ⟨y411, hy411⟩ : ∃ y_ : List (S25), y_ = (y404 ++ y407) := ⟨_, rfl⟩
               replace H : (medlarref11_Order.l0 k2 y411 l0 (l0.length : Int) (wrap64 (x10_1 + 1))) = some r := by first | (rw [hy411]; with_reducible exact H) | (have H2_ := (Option.bind_some _ _).symm.trans H; rw [hy411]; with_reducible exact H2_) | (have H2_ := (Option.bind_some _ _).symm.trans H; with_reducible exact H2_) | with_reducible exact H | (rw [hy411]; exact H) | exact H
               have Ny411 := ak_ hy411
               clear hy411
               have H' := ak_ H
               clear H
               try go_wp2
               have n0_ := ak_ (Kd.R_drew HO_3.out)
               have n1_ := ak_ (kd_ BK377.out)
               have n2_ := ak_ (bd_ HB.out)
               clear HO_3
               clear BK377
               clear HB
               have HO_3 := n0_
               have BK377 := n1_
               have HB := n2_
               clear n0_ n1_ n2_
               obtain ⟨Ao38, co38, eo38⟩ := Kd.R_slice HO_3.out
               (first | subst eo38 | (injection eo38 with f1_ f2_ f3_; have f4_ := f1_.symm; have f5_ := f3_.symm; clear f1_ f2_ f3_; subst f4_; subst f5_))
               refine start_ (n := 13) (S := fun w' => True) (ds := []) #[false, false, false, false, false, false, false, false, false, false, false, false, false] (by kernel_rfl) rfl rfl trivial (fun hHeld => ?_); refine with_tabW medlarref11_Order.tab6 medlarref11_Order.bits6 (fun HT_ HW_ => ?_)
               generalize wr.drew = w37 at HO_3 BK377 HB hHeld ⊢
               refine pure_ (i := 0) (N := some 14) (v := ?_) (a' := ?_) (bA5 1 13) rfl rfl (any_of HT_.out (by kernel_rfl)) (fun _ _ _ h => h) (Or.inl ⟨by rfl, ?_⟩) ?_ ?_; rotate_left; (intro w'; go_simp; with_reducible rfl); rotate_left; (simp only [Act.put, setIfInBounds_toArray, set_cons_zero, set_cons_succ, i64_w, i32_w]; rfl)
               refine pure_ (i := 1) (N := some 15) (v := ?_) (a' := ?_) (bA5 2 13) rfl rfl (any_of HT_.out (by kernel_rfl)) (fun _ _ _ h => h) (Or.inl ⟨by rfl, ?_⟩) ?_ ?_; rotate_left; (intro w'; go_simp; with_reducible rfl); rotate_left; (simp only [Act.put, setIfInBounds_toArray, set_cons_zero, set_cons_succ, i64_w, i32_w]; rfl)
               refine pure_ (i := 2) (N := some 16) (v := ?_) (a' := ?_) (bA5 3 13) rfl rfl (any_of HT_.out (by kernel_rfl)) (fun _ _ _ h => h) (Or.inl ⟨by rfl, ?_⟩) ?_ ?_; rotate_left; (intro w'; go_simp; with_reducible rfl); rotate_left; (simp only [Act.put, setIfInBounds_toArray, set_cons_zero, set_cons_succ, i64_w, i32_w]; rfl)
               refine pure_ (i := 3) (N := some 17) (v := ?_) (a' := ?_) (bA5 4 13) rfl rfl (any_of HT_.out (by kernel_rfl)) (fun _ _ _ h => h) (Or.inl ⟨by rfl, ?_⟩) ?_ ?_; rotate_left; (intro w'; go_simp; with_reducible rfl); rotate_left; (simp only [Act.put, setIfInBounds_toArray, set_cons_zero, set_cons_succ, i64_w, i32_w]; rfl)
               refine pure_ (i := 4) (N := some 18) (v := ?_) (a' := ?_) (bA5 5 13) rfl rfl (any_of HT_.out (by kernel_rfl)) (fun _ _ _ h => h) (Or.inl ⟨by rfl, ?_⟩) ?_ ?_; rotate_left; (intro w'; go_simp; with_reducible rfl); rotate_left; (simp only [Act.put, setIfInBounds_toArray, set_cons_zero, set_cons_succ, i64_w, i32_w]; rfl)
               refine pure_ (i := 5) (N := some 19) (v := undef) (a' := ?_) (bA5 6 13) rfl rfl (any_of HT_.out (by kernel_rfl)) (fun _ _ _ h => h) (Or.inr ⟨by rfl, rfl⟩) ?_ ?_
               rotate_left
               ·simp only [Act.put, setIfInBounds_toArray, set_cons_zero, set_cons_succ, i64_w, i32_w]
                rfl
               refine pure_ (i := 6) (N := some 20) (v := undef) (a' := ?_) (bA5 7 13) rfl rfl (any_of HT_.out (by kernel_rfl)) (fun _ _ _ h => h) (Or.inr ⟨by rfl, rfl⟩) ?_ ?_
               rotate_left
               ·simp only [Act.put, setIfInBounds_toArray, set_cons_zero, set_cons_succ, i64_w, i32_w]
                rfl
               refine pure_ (i := 7) (N := some 21) (v := undef) (a' := ?_) (bA5 8 13) rfl rfl (any_of HT_.out (by kernel_rfl)) (fun _ _ _ h => h) (Or.inr ⟨by rfl, rfl⟩) ?_ ?_
               rotate_left
               ·simp only [Act.put, setIfInBounds_toArray, set_cons_zero, set_cons_succ, i64_w, i32_w]
                rfl
               refine pure_ (i := 8) (N := some 22) (v := undef) (a' := ?_) (bA5 9 13) rfl rfl (any_of HT_.out (by kernel_rfl)) (fun _ _ _ h => h) (Or.inr ⟨by rfl, rfl⟩) ?_ ?_
               rotate_left
               ·simp only [Act.put, setIfInBounds_toArray, set_cons_zero, set_cons_succ, i64_w, i32_w]
                rfl
               refine pure_ (i := 9) (N := some 23) (v := undef) (a' := ?_) (bA5 10 13) rfl rfl (any_of HT_.out (by kernel_rfl)) (fun _ _ _ h => h) (Or.inr ⟨by rfl, rfl⟩) ?_ ?_
               rotate_left
               ·simp only [Act.put, setIfInBounds_toArray, set_cons_zero, set_cons_succ, i64_w, i32_w]
                rfl
               refine pure_ (i := 10) (N := some 24) (v := undef) (a' := ?_) (bA5 11 13) rfl rfl (any_of HT_.out (by kernel_rfl)) (fun _ _ _ h => h) (Or.inr ⟨by rfl, rfl⟩) ?_ ?_
               rotate_left
               ·simp only [Act.put, setIfInBounds_toArray, set_cons_zero, set_cons_succ, i64_w, i32_w]
                rfl
               refine pure_ (i := 11) (N := some 25) (v := undef) (a' := ?_) (bA5 12 13) rfl rfl (any_of HT_.out (by kernel_rfl)) (fun _ _ _ h => h) (Or.inr ⟨by rfl, rfl⟩) ?_ ?_
               rotate_left
               ·simp only [Act.put, setIfInBounds_toArray, set_cons_zero, set_cons_succ, i64_w, i32_w]
                rfl
               refine pure_ (i := 12) (N := some 26) (v := ?_) (a' := ?_) (bA5 13 13) rfl rfl (any_of HT_.out (by kernel_rfl)) (fun _ _ _ h => h) (Or.inl ⟨by rfl, ?_⟩) ?_ ?_; rotate_left; (intro w'; go_simp; with_reducible rfl); rotate_left; (simp only [Act.put, setIfInBounds_toArray, set_cons_zero, set_cons_succ, i64_w, i32_w]; rfl)
               refine done_ (done_of HT_.out (by kernel_rfl)) ?_
               have q39 : (x6_2 : Int) ≤ ((x3_1.length : Int) : Int) := od_ (by first | (with_reducible assumption) | assumption)
               obtain ⟨i039, hi039, _, hsz39, _⟩ := info_parts info25
               have hroom39 : x3_1.length ≤ co38 := (Kd.R_reads' HO_3.out).2.1
               have hC39 : Kd.C k25 _ Ao38 x3_1.length x3_1 := (Kd.R_reads' HO_3.out).2.2
               have hcut39 := cut_to (P := Tryz.prog) 27 25 .i64 underlying27 hi039 Ao38 x3_1.length co38 x6_2 (od_ (by first | (with_reducible assumption) | assumption)) q39 hroom39
               have hr39 := Kd.C_take (m := (x6_2 : Int).toNat) hC39 (by omega)
               have hy39 : y397.length = (x6_2 : Int).toNat := (by rw [Ny397.out, List.length_take]; omega)
               rw [← Ny397.out] at hr39
               rw [← hy39] at hcut39
               have HR400 := ak_ hr39
               have HC400 := ak_ (show y397.length ≤ co38 from by omega)
               clear hr39 hC39 hroom39 hi039 hsz39
               have KY39 := ak_ hy39
               clear hy39
               have KL39 := ak_ (show (x6_2 : Int).toNat ≤ x3_1.length from by omega)
               replace q39 := eq_true q39
               try go_wp2_with (first | ((with_reducible refine gate_builtin (b := .append) (xs := #[.const (.slice none 0 0), .tmp 31]) rfl ?_); at_builtin; refine Kd.R_append_rows k25 (w0 := w) w.heap.size rfl (.const (.slice none 0 0)) (.tmp 31) 27 25 (.agg #[(.int .u64 0), (.int .u64 0)]) 16 rfl underlying27 info25 rfl (by decide) (by omega) (.slice none 0 0) ([] : List (S25)) y397 _ _ _ (fun k_ => some k_ ≠ (.slice Ao38 x3_1.length co38 : Value).ownBlock ∧ k_ ≠ gb377) (fun _ => False) rfl rfl ?aO ?aR (fun _ _ h => h) (fun _ h => h.elim) ?aF ?aB ?aS ?aL ?_; (case aR => repeat (first | exact (by repeat (first | (with_reducible exact HR400.out) | (with_reducible refine Kd.C_alloc ?_ _) | (with_reducible refine Kd.C_drewN ?_ _) | (with_reducible refine Kd.C_drew ?_) | exact HR400.out)) | (with_reducible refine Kd.C_alloc ?_ _) | (with_reducible refine Kd.C_drewN ?_ _) | (with_reducible refine Kd.C_drew ?_))); (case aB => exact (by repeat (first | (with_reducible first | exact HB.out | apply ba_ | apply bn_ | apply bd_ | refine below_set ?_ GE377.out) | exact HB.out))); (case aF => exact (fun k_ hk => ⟨Kd.fresh' (Kd.R_lt (rl_ HO_3)) k_ hk, Kd.freshB (g := gb377) (o := .cells #[.int .u64 ((rd_T25 l0 x10_1).f0), .int .u64 ((rd_T25 l0 x10_1).f1)] 25 (0, 0)) (kl_ BK377) k_ hk⟩)); (case aO => exact ((Kd.R_nil _ _ _ _ (fun k_ => some k_ ≠ (.slice Ao38 x3_1.length co38 : Value).ownBlock ∧ k_ ≠ gb377)))); (case aS => exact (bz_ (by repeat (first | (with_reducible first | exact HB.out | apply ba_ | apply bn_ | apply bd_ | refine below_set ?_ GE377.out) | exact HB.out)))); (case aL => have := LMc32.out; omega); intro v402 w40 ho hb hg hat; rw [← Ny401.out] at ho; have n0_ := ak_ (Kd.R_after (Kd.R_apart_nil (rl_ HO_3)) hg hat); have n1_ := ak_ (blk_grown (g := gb377) (o := .cells #[.int .u64 ((rd_T25 l0 x10_1).f0), .int .u64 ((rd_T25 l0 x10_1).f1)] 25 (0, 0)) (kl_ BK377) hg (by simp [Value.ownBlock])); have n2_ := ak_ (hb); have n3_ := ak_ ((show Kd.C k25 w40 Ao38 y397.length y397 from by rw [Ny397.out]; exact Kd.C_take (m := (x6_2 : Int).toNat) ((Kd.R_reads' (Kd.R_after (Kd.R_apart_nil (rl_ HO_3)) hg hat)).2.2) KL39.out)); have n4_ := ak_ (ho); clear HO_3; clear BK377; clear HB; clear HR400; have HO_3 := n0_; have BK377 := n1_; have HB := n2_; have HR400 := n3_; have HO403 := n4_; clear n0_ n1_ n2_ n3_ n4_; clear ho hb hg hat; have hcz41_0 : w40.cell? ⟨gb377, 0, none⟩ = some (.int .u64 ((rd_T25 l0 x10_1).f0)) := (kc_ BK377.out 0).trans rfl; have hcz41_1 : w40.cell? ⟨gb377, 1, none⟩ = some (.int .u64 ((rd_T25 l0 x10_1).f1)) := (kc_ BK377.out 1).trans rfl; have hfz41_0 := kf_ BK377.out 0; have hfz41_1 := kf_ BK377.out 1) | ((with_reducible refine gate_builtin (b := .append) (xs := #[.tmp 33, .tmp 35]) rfl ?_); at_builtin; refine Kd.R_append k25 (w0 := w) w.heap.size rfl (.tmp 33) (.tmp 35) 27 25 (.agg #[(.int .u64 0), (.int .u64 0)]) 16 rfl underlying27 info25 rfl (by decide) (by omega) v402 y401 (⟨((rd_T25 l0 x10_1).f0), ((rd_T25 l0 x10_1).f1)⟩ : S25) [.int .u64 ((rd_T25 l0 x10_1).f0), .int .u64 ((rd_T25 l0 x10_1).f1)] (fun k_ => some k_ ≠ (.slice Ao38 x3_1.length co38 : Value).ownBlock ∧ k_ ≠ gb377) (fun _ => False) rfl rfl ?aP (fun _ hk => hk.elim) ?aF ?aO ?aB ?aS ?aL ?_; (case aP => exact k25_mkM _ _ _ (⟨((rd_T25 l0 x10_1).f0), ((rd_T25 l0 x10_1).f1)⟩ : S25)); (case aB => exact (by repeat (first | (with_reducible first | exact HB.out | apply ba_ | apply bn_ | apply bd_ | refine below_set ?_ GE377.out) | exact HB.out))); (case aF => exact (fun k_ hk => ⟨Kd.fresh' (Kd.R_lt (rl_ HO_3)) k_ hk, Kd.freshB (g := gb377) (o := .cells #[.int .u64 ((rd_T25 l0 x10_1).f0), .int .u64 ((rd_T25 l0 x10_1).f1)] 25 (0, 0)) (kl_ BK377) k_ hk⟩)); (case aO => exact (rl_ HO403)); (case aS => exact (bz_ (by repeat (first | (with_reducible first | exact HB.out | apply ba_ | apply bn_ | apply bd_ | refine below_set ?_ GE377.out) | exact HB.out)))); (case aL => have := LMc33.out; omega); intro v405 w42 ho hb hg hat; rw [← Ny404.out] at ho; have n0_ := ak_ (Kd.R_after (ok := (fun k_ => k_ ≠ gb377)) (rl_ HO_3) hg hat); have n1_ := ak_ (blk_grown (g := gb377) (o := .cells #[.int .u64 ((rd_T25 l0 x10_1).f0), .int .u64 ((rd_T25 l0 x10_1).f1)] 25 (0, 0)) (kl_ BK377) hg (Kd.R_away HO403.out (fun _ hk => hk.2))); have n2_ := ak_ (hb); have n3_ := ak_ ((show Kd.C k25 w42 Ao38 y397.length y397 from by rw [Ny397.out]; exact Kd.C_take (m := (x6_2 : Int).toNat) ((Kd.R_reads' (Kd.R_after (ok := (fun k_ => k_ ≠ gb377)) (rl_ HO_3) hg hat)).2.2) KL39.out)); have n4_ := ak_ (ho); clear HO_3; clear BK377; clear HB; clear HR400; clear HO403; have HO_3 := n0_; have BK377 := n1_; have HB := n2_; have HR400 := n3_; have HO406 := n4_; clear n0_ n1_ n2_ n3_ n4_; clear ho hb hg hat; have q43 : (x6_2 : Int) ≤ ((x3_1.length : Int) : Int) := od_ (by first | (with_reducible assumption) | assumption); obtain ⟨i043, hi043, _, hsz43, _⟩ := info_parts info25; have hroom43 : x3_1.length ≤ co38 := (Kd.R_reads' HO_3.out).2.1; have hC43 : Kd.C k25 _ Ao38 x3_1.length x3_1 := (Kd.R_reads' HO_3.out).2.2; have q043 : (0 : Int) ≤ (x6_2 : Int) := od_ (by first | (with_reducible assumption) | assumption); have hcut43 := cut_from (P := Tryz.prog) 27 25 .i64 underlying27 hi043 2 hsz43 Ao38 x3_1.length co38 x6_2 q043 q43; have hr43 := Kd.C_drop (m := (x6_2 : Int).toNat) (c := co38) hC43 (by omega) hroom43; obtain ⟨A43, hA43⟩ : ∃ A1, A1 = (if co38 = (x6_2 : Int).toNat then Ao38 else (Ao38 : Option Addr).map (·.add ((x6_2 : Int).toNat * 2))) := ⟨_, rfl⟩; obtain ⟨c43, hc43⟩ : ∃ c1, c1 = co38 - (x6_2 : Int).toNat := ⟨_, rfl⟩; have hy43 : y407.length = x3_1.length - (x6_2 : Int).toNat := (by rw [Ny407.out, List.length_drop] <;> omega); rw [show (x3_1).drop (x6_2 : Int).toNat = y407 from Ny407.out.symm] at hr43; replace hr43 : Kd.C k25 _ A43 y407.length y407 := (by rw [hA43]; exact hr43); rw [← hy43, ← hA43, ← hc43] at hcut43; have HR410 := ak_ hr43; have HC410 := ak_ (show y407.length ≤ c43 from by rw [hy43, hc43]; exact Nat.sub_le_sub_right hroom43 _); clear hr43 hC43 hroom43 hi043 hsz43 hc43; have KY43 := ak_ hy43; have KA43 := ak_ hA43; clear hy43 hA43; have KL43 := ak_ (show (x6_2 : Int).toNat ≤ x3_1.length from by omega); replace q43 := eq_true q43) | ((with_reducible refine gate_builtin (b := .append) (xs := #[.tmp 37, .tmp 40]) rfl ?_); at_builtin; refine Kd.R_append_rows k25 (w0 := w) w.heap.size rfl (.tmp 37) (.tmp 40) 27 25 (.agg #[(.int .u64 0), (.int .u64 0)]) 16 rfl underlying27 info25 rfl (by decide) (by omega) v405 y404 y407 _ _ _ (fun k_ => some k_ ≠ (.slice Ao38 x3_1.length co38 : Value).ownBlock ∧ k_ ≠ gb377) (fun _ => False) rfl rfl ?aO ?aR (fun _ _ h => h) (fun _ h => h.elim) ?aF ?aB ?aS ?aL ?_; (case aR => repeat (first | exact (by repeat (first | (with_reducible exact HR410.out) | (with_reducible refine Kd.C_alloc ?_ _) | (with_reducible refine Kd.C_drewN ?_ _) | (with_reducible refine Kd.C_drew ?_) | exact HR410.out)) | (with_reducible refine Kd.C_alloc ?_ _) | (with_reducible refine Kd.C_drewN ?_ _) | (with_reducible refine Kd.C_drew ?_))); (case aB => exact (by repeat (first | (with_reducible first | exact HB.out | apply ba_ | apply bn_ | apply bd_ | refine below_set ?_ GE377.out) | exact HB.out))); (case aF => exact (fun k_ hk => ⟨Kd.fresh' (Kd.R_lt (rl_ HO_3)) k_ hk, Kd.freshB (g := gb377) (o := .cells #[.int .u64 ((rd_T25 l0 x10_1).f0), .int .u64 ((rd_T25 l0 x10_1).f1)] 25 (0, 0)) (kl_ BK377) k_ hk⟩)); (case aO => exact (rl_ HO406)); (case aS => exact (bz_ (by repeat (first | (with_reducible first | exact HB.out | apply ba_ | apply bn_ | apply bd_ | refine below_set ?_ GE377.out) | exact HB.out)))); (case aL => have := LMc36.out; omega); intro v412 w44 ho hb hg hat; rw [← Ny411.out] at ho; have n0_ := ak_ (Kd.R_after (ok := (fun k_ => k_ ≠ gb377)) (rl_ HO_3) hg hat); have n1_ := ak_ (blk_grown (g := gb377) (o := .cells #[.int .u64 ((rd_T25 l0 x10_1).f0), .int .u64 ((rd_T25 l0 x10_1).f1)] 25 (0, 0)) (kl_ BK377) hg (Kd.R_away HO406.out (fun _ hk => hk.2))); have n2_ := ak_ (hb); have n3_ := ak_ ((show Kd.C k25 w44 Ao38 y397.length y397 from by rw [Ny397.out]; exact Kd.C_take (m := (x6_2 : Int).toNat) ((Kd.R_reads' (Kd.R_after (ok := (fun k_ => k_ ≠ gb377)) (rl_ HO_3) hg hat)).2.2) KL39.out)); have n4_ := ak_ ((show Kd.C k25 w44 A43 y407.length y407 from by rw [Ny407.out, KA43.out]; exact Kd.C_drop (m := (x6_2 : Int).toNat) (c := co38) ((Kd.R_reads' (Kd.R_after (ok := (fun k_ => k_ ≠ gb377)) (rl_ HO_3) hg hat)).2.2) KL43.out ((Kd.R_reads' (Kd.R_after (ok := (fun k_ => k_ ≠ gb377)) (rl_ HO_3) hg hat)).2.1))); have n5_ := ak_ (ho); clear HO_3; clear BK377; clear HB; clear HR400; clear HR410; clear HO406; have HO_3 := n0_; have BK377 := n1_; have HB := n2_; have HR400 := n3_; have HR410 := n4_; have HO413 := n5_; clear n0_ n1_ n2_ n3_ n4_ n5_; clear ho hb hg hat))
               go_roundg k2
               case measure => have := HK1.out; have := HK2.out; omega
               case rel => exact ⟨(y411), (wrap64 (x10_1 + 1)), (by first | rfl | (simp; done) | (simp [*]; done)), H', ⟨by have := HK1.out; have := HK2.out; omega⟩, ⟨by (with_reducible repeat (first | apply Kd.R_alloc | apply Kd.R_drewN | apply Kd.R_drew)); exact Kd.R_mono HO413.out (fun _ hk => trivial)⟩, ⟨by repeat (first | (with_reducible first | exact HB.out | apply ba_ | apply bn_ | apply bd_ | refine below_set ?_ GE377.out) | exact HB.out)⟩⟩
              ·rw [if_neg c36] at H
               exact absurd H (by simp)
             ·rw [if_neg c33] at H
              exact absurd H (by simp)
            ·rw [if_neg c32] at H
             exact absurd H (by simp)
           ·rw [if_neg c31] at H
            exact absurd H (by simp)
          ·rw [if_neg c30] at H
           exact absurd H (by simp)
      ·rw [if_neg c4] at H
       exact absurd H (by simp)
     ·rw [if_neg c3] at H
      exact absurd H (by simp)
    ·rw [if_neg c2] at H
     have c2b0 := decide_eq_false c2
     clear c2
     obtain rfl := Option.some.inj H
     go_wp2
     go_ret
     exact ⟨_, by first | rfl | (simp <;> rfl) | (simp [*] <;> rfl), by (with_reducible repeat (first | apply Kd.R_alloc | apply Kd.R_drewN | apply Kd.R_drew)); exact HO_3.out, bl_ HB⟩
def medlarref09_Forks.l0 : Nat → List Int → List Int → List Int → Int → Int → Option (List Int × Int)
  | 0, _, _, _, _, _ => none
  | k + 1, x6, x7, x17, x18, x19 => if x19 < x18 then (if 0 ≤ x19 then (if x19 < (x17.length : Int) then ((medlarref02_In.f k x6 (IntKind.u64.wrap (2 * (rd x17 x19)))).bind fun t419 => (if t419 = true then ((medlarref02_In.f k x6 (IntKind.u64.wrap ((IntKind.u64.wrap (2 * (rd x17 x19))) + 1))).bind fun t420 => (if t420 = true then (if x7.length < 17592186044416 then (medlarref09_Forks.l0 k x6 (x7 ++ [rd x17 x19]) x17 x18 (wrap64 (x19 + 1))) else (none)) else (medlarref09_Forks.l0 k x6 x7 x17 x18 (wrap64 (x19 + 1))))) else (medlarref09_Forks.l0 k x6 x7 x17 x18 (wrap64 (x19 + 1))))) else (none)) else (none)) else (some (x7, 0))
def medlarref09_Forks.f (k : Nat) (a0 : Int) (l1 : List Int) : Option (List Int × Int) := (medlarref09_may.f k a0 l1 1).bind fun t414 => (if t414 = true then ((medlarref09_Tree.f k a0 l1).bind fun t415 => (medlarref09_Forks.l0 k t415 ([] : List Int) t415 (t415.length : Int) 0)) else (some (([] : List Int), 1)))
set_option maxHeartbeats 8000000 in
set_option maxRecDepth 100000 in
theorem medlarref09_Forks.calls (k : Nat) (a0 : Int) (A1 : Option Addr) (c1 : Nat) (l1 : List Int) (r1 : List Int) (r2 : Int) (w : World) (hr1 : Kd.C (Kd.int .u64) w A1 l1.length l1) (hc1 : l1.length ≤ c1) (h : medlarref09_Forks.f k a0 l1 = some (r1, r2)) :
   Calls Tryz.prog 52 #[.int .i64 a0, .slice A1 l1.length c1] w fun e w' => ∃ v0_ : Value, e = .returned (.tuple #[v0_, .int .i64 r2]) ∧ Kd.R (Kd.int .u64) 23 w' w.heap.size (fun _ => True) v0_ r1 ∧ Below w.heap.size w w' := by
  have HR1 := ak_ hr1
  have HC1 := ak_ hc1
  clear hr1 hc1
  have HB := ak_ (Below.refl w.heap.size w)
  have H : ((medlarref09_may.f k a0 l1 1).bind fun t414 => (if t414 = true then ((medlarref09_Tree.f k a0 l1).bind fun t415 => (medlarref09_Forks.l0 k t415 ([] : List Int) t415 (t415.length : Int) 0)) else (some (([] : List Int), 1)))) = some (r1, r2) := h
  clear h
  replace H := bind_eq_some_iff.mp H
  obtain ⟨t414, A30, H⟩ := H
  replace H : (if t414 = true then ((medlarref09_Tree.f k a0 l1).bind fun t415 => (medlarref09_Forks.l0 k t415 ([] : List Int) t415 (t415.length : Int) 0)) else (some (([] : List Int), 1))) = some (r1, r2) := H
  have A3 := ak_ A30
  clear A30
  by_cases c4 : t414 = true
  ·subst c4
   have H1 : ((medlarref09_Tree.f k a0 l1).bind fun t415 => (medlarref09_Forks.l0 k t415 ([] : List Int) t415 (t415.length : Int) 0)) = some (r1, r2) := by rw [if_pos rfl] at H; exact H
   clear H
   have H := H1
   clear H1
   replace H := bind_eq_some_iff.mp H
   obtain ⟨t415, A50, H⟩ := H
   replace H : (medlarref09_Forks.l0 k t415 ([] : List Int) t415 (t415.length : Int) 0) = some (r1, r2) := H
   have A5 := ak_ A50
   clear A50
   have H' := ak_ H
   clear H
   go_enter func52, ntmps52
   go_wp2_with (first | ((with_reducible refine gate_callee (f := 78) rfl ?_); refine goesL_ (some 12) rfl rfl func78 (by kernel_rfl) rfl #[.int .i64 a0, .slice A1 l1.length c1, .int .u64 1] rfl (by (try simp only [map_toArray, map_cons, map_nil]); first | done | rfl) ?_; (with_reducible refine (medlarref09_may.calls k a0 _ _ l1 1 true _ ?side1 ?side2 A3.out).mono ?_); (case side1 => repeat (first | exact HR1.out | (with_reducible refine Kd.C_alloc ?_ _) | (with_reducible refine Kd.C_drewN ?_ _) | (with_reducible refine Kd.C_drew ?_))); (case side2 => exact HC1.out); rintro e w' ⟨rfl, ⟨nd, rfl⟩⟩; refine ⟨_, rfl, ?_⟩) | ((with_reducible refine gate_callee (f := 79) rfl ?_); refine goesL_ (some 16) rfl rfl func79 (by kernel_rfl) rfl #[.int .i64 a0, .slice A1 l1.length c1] rfl (by (try simp only [map_toArray, map_cons, map_nil]); first | done | rfl) ?_; (with_reducible refine (medlarref09_Tree.calls k a0 _ _ l1 t415 _ ?side1 ?side2 A5.out).mono ?_); (case side1 => repeat (first | exact HR1.out | (with_reducible refine Kd.C_alloc ?_ _) | (with_reducible refine Kd.C_drewN ?_ _) | (with_reducible refine Kd.C_drew ?_))); (case side2 => exact HC1.out); rintro e w6 ⟨v416, rfl, ho0, hb⟩; refine ⟨_, rfl, ?_⟩; have n0_ := ak_ (Kd.R_lower ho0 (bz_ (bl_ HB))); have n1_ := ak_ (bt_ (bl_ HB) hb); clear HB; have HO417 := n0_; have HB := n1_; clear n0_ n1_; (try clear hb); (try clear hk); (try clear ho0); obtain ⟨Ao7, co7, eo7⟩ := Kd.R_slice HO417.out; subst eo7))
   go_loopg [7, 19] k (fun kq v7 v19 w' => ∃ (x7_1 : List Int) (x19_1 : Int), v19 = .int .i64 x19_1 ∧ Aside0 (medlarref09_Forks.l0 kq t415 x7_1 t415 (t415.length : Int) x19_1 = some (r1, r2)) ∧ Aside0 (kq ≤ k) ∧ Aside0 (Kd.R (Kd.int .u64) 23 w' w.heap.size (fun k_ => some k_ ≠ (v7 : Value).ownBlock) (.slice Ao7 t415.length co7) t415) ∧ Aside0 (Kd.R (Kd.int .u64) 23 w' w.heap.size (fun k_ => some k_ ≠ ((.slice Ao7 t415.length co7) : Value).ownBlock ∧ some k_ ≠ ((.slice Ao7 t415.length co7) : Value).ownBlock) v7 x7_1) ∧ Aside0 (Kd.R (Kd.int .u64) 23 w' w.heap.size (fun k_ => some k_ ≠ (v7 : Value).ownBlock) (.slice Ao7 t415.length co7) t415) ∧ Aside0 (Below w.heap.size w w'))
   case atStart => exact ⟨(([] : List Int)), (0), (by first | rfl | (simp; done) | (simp [*]; done)), H', ⟨Nat.le_refl _⟩, ⟨by (with_reducible repeat (first | apply Kd.R_alloc | apply Kd.R_drewN | apply Kd.R_drew)); exact Kd.R_mono HO417.out (fun _ hk => (by simp [Value.ownBlock]))⟩, ⟨by first | exact Kd.R_nil _ _ _ _ _ | exact Kd.N_nil _ _ _ _ _ | exact Kd.V_nil _ _ _ _ _ | exact Kd.Q_nil _ _ _ _ _ | exact Kd.S_nil _ _ _ _ _⟩, ⟨by (with_reducible repeat (first | apply Kd.R_alloc | apply Kd.R_drewN | apply Kd.R_drew)); exact Kd.R_mono HO417.out (fun _ hk => (by simp [Value.ownBlock]))⟩, ⟨bl_ HB⟩⟩
   case round =>
    clear H'
    try clear c1
    try clear p2
    try clear c4
    try clear c5
    try clear c7
    obtain ⟨x7_1, x19_1, rfl, HA, HK1, HO_6, HO_7, HO_17, HB⟩ := hrel
    cases gk with
    | zero => exact absurd HA.out (by simp [medlarref09_Forks.l0])
    | succ k1 =>
     have H := HA.out
     clear HA
     simp only [medlarref09_Forks.l0] at H
     by_cases c8 : x19_1 < (t415.length : Int)
     ·rw [if_pos c8] at H
      have c8b0 := decide_eq_true c8
      clear c8
      by_cases c9 : 0 ≤ x19_1
      ·rw [if_pos c9] at H
       have c9b0 := decide_eq_true c9
       clear c9
       by_cases c10 : x19_1 < (t415.length : Int)
       ·rw [if_pos c10] at H
        have c10b0 := decide_eq_true c10
        clear c10
        replace H := bind_eq_some_iff.mp H
        obtain ⟨t419, A110, H⟩ := H
        replace H : (if t419 = true then ((medlarref02_In.f k1 t415 (IntKind.u64.wrap ((IntKind.u64.wrap (2 * (rd t415 x19_1))) + 1))).bind fun t420 => (if t420 = true then (if x7_1.length < 17592186044416 then (medlarref09_Forks.l0 k1 t415 (x7_1 ++ [rd t415 x19_1]) t415 (t415.length : Int) (wrap64 (x19_1 + 1))) else (none)) else (medlarref09_Forks.l0 k1 t415 x7_1 t415 (t415.length : Int) (wrap64 (x19_1 + 1))))) else (medlarref09_Forks.l0 k1 t415 x7_1 t415 (t415.length : Int) (wrap64 (x19_1 + 1)))) = some (r1, r2) := H
        have A11 := ak_ A110
        clear A110
        by_cases c12 : t419 = true
        ·subst c12
         have H1 : ((medlarref02_In.f k1 t415 (IntKind.u64.wrap ((IntKind.u64.wrap (2 * (rd t415 x19_1))) + 1))).bind fun t420 => (if t420 = true then (if x7_1.length < 17592186044416 then (medlarref09_Forks.l0 k1 t415 (x7_1 ++ [rd t415 x19_1]) t415 (t415.length : Int) (wrap64 (x19_1 + 1))) else (none)) else (medlarref09_Forks.l0 k1 t415 x7_1 t415 (t415.length : Int) (wrap64 (x19_1 + 1))))) = some (r1, r2) := by rw [if_pos rfl] at H; exact H
         clear H
         have H := H1
         clear H1
         replace H := bind_eq_some_iff.mp H
         obtain ⟨t420, A130, H⟩ := H
         replace H : (if t420 = true then (if x7_1.length < 17592186044416 then (medlarref09_Forks.l0 k1 t415 (x7_1 ++ [rd t415 x19_1]) t415 (t415.length : Int) (wrap64 (x19_1 + 1))) else (none)) else (medlarref09_Forks.l0 k1 t415 x7_1 t415 (t415.length : Int) (wrap64 (x19_1 + 1)))) = some (r1, r2) := H
         have A13 := ak_ A130
         clear A130
         by_cases c14 : t420 = true
         ·subst c14
          have H1 : (if x7_1.length < 17592186044416 then (medlarref09_Forks.l0 k1 t415 (x7_1 ++ [rd t415 x19_1]) t415 (t415.length : Int) (wrap64 (x19_1 + 1))) else (none)) = some (r1, r2) := by rw [if_pos rfl] at H; exact H
          clear H
          have H := H1
          clear H1
          by_cases c15 : x7_1.length < 17592186044416
          ·rw [if_pos c15] at H
           have LMc15 := ak_ c15
           clear c15
           obtain ⟨y421, hy421⟩ : ∃ y_ : List Int, y_ = (x7_1 ++ [rd t415 x19_1]) := ⟨_, rfl⟩
           replace H : (medlarref09_Forks.l0 k1 t415 y421 t415 (t415.length : Int) (wrap64 (x19_1 + 1))) = some (r1, r2) := by first | (rw [hy421]; with_reducible exact H) | (have H2_ := (Option.bind_some _ _).symm.trans H; rw [hy421]; with_reducible exact H2_) | (have H2_ := (Option.bind_some _ _).symm.trans H; with_reducible exact H2_) | with_reducible exact H | (rw [hy421]; exact H) | exact H
           have Ny421 := ak_ hy421
           clear hy421
           have H' := ak_ H
           clear H
           have p418 : 0 ≤ (x19_1 : Int) := od_ (by first | (with_reducible assumption) | assumption)
           have q418 : x19_1 < (t415.length : Int) := od_ (by first | (with_reducible assumption) | assumption)
           obtain ⟨ad418, e418, hx418_0⟩ := Kd.at_int (Kd.R_reads' HO_17.out).2.2 x19_1 p418 q418
           cases e418
           replace p418 := eq_true p418
           replace q418 := eq_true q418
           go_wp2_with (first | ((with_reducible refine gate_callee (f := 80) rfl ?_); refine goesL_ (some 26) rfl rfl func80 (by kernel_rfl) rfl #[.slice (some ad418) t415.length co7, .int .u64 (IntKind.u64.wrap (2 * (rd t415 x19_1)))] rfl (by (try simp only [map_toArray, map_cons, map_nil]); first | done | rfl) ?_; (with_reducible refine (medlarref02_In.calls k1 _ _ t415 (IntKind.u64.wrap (2 * (rd t415 x19_1))) true _ ?side1 ?side2 A11.out).mono ?_); (case side1 => repeat (first | exact (Kd.R_reads' HO_6.out).2.2 | (with_reducible refine Kd.C_alloc ?_ _) | (with_reducible refine Kd.C_drewN ?_ _) | (with_reducible refine Kd.C_drew ?_))); (case side2 => exact (Kd.R_reads' HO_6.out).2.1); rintro e w' ⟨rfl, ⟨nd, rfl⟩⟩; refine ⟨_, rfl, ?_⟩) | (go_at_call 80; (with_reducible refine (medlarref02_In.calls k1 _ _ t415 (IntKind.u64.wrap ((IntKind.u64.wrap (2 * (rd t415 x19_1))) + 1)) true _ ?side1 ?side2 A13.out).mono ?_); (case side1 => repeat (first | exact (Kd.R_reads' HO_6.out).2.2 | (with_reducible refine Kd.C_alloc ?_ _) | (with_reducible refine Kd.C_drewN ?_ _) | (with_reducible refine Kd.C_drew ?_))); (case side2 => exact (Kd.R_reads' HO_6.out).2.1); rintro e w' ⟨rfl, ⟨nd, rfl⟩⟩) | ((with_reducible refine gate_builtin (b := .append) (xs := #[.tmp 34, .tmp 36]) rfl ?_); at_builtin; refine Kd.R_append (Kd.int .u64) (w0 := w) w.heap.size rfl (.tmp 34) (.tmp 36) 22 23 (.int .u64 0) 8 rfl underlying22 info23 rfl (by decide) (by omega) u7 x7_1 (rd t415 x19_1) [.int .u64 (rd t415 x19_1)] (fun k_ => some k_ ≠ (.slice (some ad418) t415.length co7 : Value).ownBlock ∧ some k_ ≠ (.slice (some ad418) t415.length co7 : Value).ownBlock) (fun _ => False) rfl rfl ?aP (fun _ hk => hk.elim) ?aF ?aO ?aB ?aS ?aL ?_; (case aP => exact rfl); (case aB => exact (bl_ HB)); (case aF => exact (fun k_ hk => ⟨Kd.fresh' (Kd.R_lt (rl_ HO_6)) k_ hk, Kd.fresh' (Kd.R_lt (rl_ HO_17)) k_ hk⟩)); (case aO => exact (rl_ HO_7)); (case aS => exact (bz_ (bl_ HB))); (case aL => have := LMc15.out; omega); intro v422 w16 ho hb hg hat; rw [← Ny421.out] at ho; have n0_ := ak_ (Kd.R_after (ok := (fun _ => True)) (by (with_reducible repeat (first | apply Kd.R_alloc | apply Kd.R_drewN | apply Kd.R_drew)); exact Kd.R_mono HO_6.out (fun _ hk => ⟨trivial, hk⟩)) hg hat); have n1_ := ak_ (Kd.R_after (ok := (fun _ => True)) (by (with_reducible repeat (first | apply Kd.R_alloc | apply Kd.R_drewN | apply Kd.R_drew)); exact Kd.R_mono HO_17.out (fun _ hk => ⟨trivial, hk⟩)) hg hat); have n2_ := ak_ (hb); have n3_ := ak_ (ho); clear HO_6; clear HO_17; clear HB; clear HO_7; have HO_6 := n0_; have HO_17 := n1_; have HB := n2_; have HO423 := n3_; clear n0_ n1_ n2_ n3_; clear ho hb hg hat))
           go_roundg k1
           case measure => have := HK1.out; omega
           case rel => exact ⟨(y421), (wrap64 (x19_1 + 1)), (by first | rfl | (simp; done) | (simp [*]; done)), H', ⟨by have := HK1.out; omega⟩, ⟨by (with_reducible repeat (first | apply Kd.R_alloc | apply Kd.R_drewN | apply Kd.R_drew)); exact Kd.R_mono HO_6.out (fun _ hk => hk.2)⟩, ⟨rl_ HO423⟩, ⟨by (with_reducible repeat (first | apply Kd.R_alloc | apply Kd.R_drewN | apply Kd.R_drew)); exact Kd.R_mono HO_17.out (fun _ hk => hk.2)⟩, ⟨bl_ HB⟩⟩
          ·rw [if_neg c15] at H
           exact absurd H (by simp)
         ·replace c14 := Bool.eq_false_iff.mpr c14
          subst c14
          have H1 : (medlarref09_Forks.l0 k1 t415 x7_1 t415 (t415.length : Int) (wrap64 (x19_1 + 1))) = some (r1, r2) := by rw [if_neg (show ¬ (false = true) by decide)] at H; exact H
          clear H
          have H := H1
          clear H1
          have H' := ak_ H
          clear H
          have p418 : 0 ≤ (x19_1 : Int) := od_ (by first | (with_reducible assumption) | assumption)
          have q418 : x19_1 < (t415.length : Int) := od_ (by first | (with_reducible assumption) | assumption)
          obtain ⟨ad418, e418, hx418_0⟩ := Kd.at_int (Kd.R_reads' HO_17.out).2.2 x19_1 p418 q418
          cases e418
          replace p418 := eq_true p418
          replace q418 := eq_true q418
          go_wp2_with (first | ((with_reducible refine gate_callee (f := 80) rfl ?_); refine goesL_ (some 26) rfl rfl func80 (by kernel_rfl) rfl #[.slice (some ad418) t415.length co7, .int .u64 (IntKind.u64.wrap (2 * (rd t415 x19_1)))] rfl (by (try simp only [map_toArray, map_cons, map_nil]); first | done | rfl) ?_; (with_reducible refine (medlarref02_In.calls k1 _ _ t415 (IntKind.u64.wrap (2 * (rd t415 x19_1))) true _ ?side1 ?side2 A11.out).mono ?_); (case side1 => repeat (first | exact (Kd.R_reads' HO_6.out).2.2 | (with_reducible refine Kd.C_alloc ?_ _) | (with_reducible refine Kd.C_drewN ?_ _) | (with_reducible refine Kd.C_drew ?_))); (case side2 => exact (Kd.R_reads' HO_6.out).2.1); rintro e w' ⟨rfl, ⟨nd, rfl⟩⟩; refine ⟨_, rfl, ?_⟩) | (go_at_call 80; (with_reducible refine (medlarref02_In.calls k1 _ _ t415 (IntKind.u64.wrap ((IntKind.u64.wrap (2 * (rd t415 x19_1))) + 1)) false _ ?side1 ?side2 A13.out).mono ?_); (case side1 => repeat (first | exact (Kd.R_reads' HO_6.out).2.2 | (with_reducible refine Kd.C_alloc ?_ _) | (with_reducible refine Kd.C_drewN ?_ _) | (with_reducible refine Kd.C_drew ?_))); (case side2 => exact (Kd.R_reads' HO_6.out).2.1); rintro e w' ⟨rfl, ⟨nd, rfl⟩⟩))
          go_roundg k1
          case measure => have := HK1.out; omega
          case rel => exact ⟨(x7_1), (wrap64 (x19_1 + 1)), (by first | rfl | (simp; done) | (simp [*]; done)), H', ⟨by have := HK1.out; omega⟩, ⟨rl_ HO_6⟩, ⟨rl_ HO_7⟩, ⟨rl_ HO_17⟩, ⟨bl_ HB⟩⟩
        ·replace c12 := Bool.eq_false_iff.mpr c12
         subst c12
         have H1 : (medlarref09_Forks.l0 k1 t415 x7_1 t415 (t415.length : Int) (wrap64 (x19_1 + 1))) = some (r1, r2) := by rw [if_neg (show ¬ (false = true) by decide)] at H; exact H
         clear H
         have H := H1
         clear H1
         have H' := ak_ H
         clear H
         have p418 : 0 ≤ (x19_1 : Int) := od_ (by first | (with_reducible assumption) | assumption)
         have q418 : x19_1 < (t415.length : Int) := od_ (by first | (with_reducible assumption) | assumption)
         obtain ⟨ad418, e418, hx418_0⟩ := Kd.at_int (Kd.R_reads' HO_17.out).2.2 x19_1 p418 q418
         cases e418
         replace p418 := eq_true p418
         replace q418 := eq_true q418
         go_wp2_with (first | ((with_reducible refine gate_callee (f := 80) rfl ?_); refine goesL_ (some 26) rfl rfl func80 (by kernel_rfl) rfl #[.slice (some ad418) t415.length co7, .int .u64 (IntKind.u64.wrap (2 * (rd t415 x19_1)))] rfl (by (try simp only [map_toArray, map_cons, map_nil]); first | done | rfl) ?_; (with_reducible refine (medlarref02_In.calls k1 _ _ t415 (IntKind.u64.wrap (2 * (rd t415 x19_1))) false _ ?side1 ?side2 A11.out).mono ?_); (case side1 => repeat (first | exact (Kd.R_reads' HO_6.out).2.2 | (with_reducible refine Kd.C_alloc ?_ _) | (with_reducible refine Kd.C_drewN ?_ _) | (with_reducible refine Kd.C_drew ?_))); (case side2 => exact (Kd.R_reads' HO_6.out).2.1); rintro e w' ⟨rfl, ⟨nd, rfl⟩⟩; refine ⟨_, rfl, ?_⟩))
         go_roundg k1
         case measure => have := HK1.out; omega
         case rel => exact ⟨(x7_1), (wrap64 (x19_1 + 1)), (by first | rfl | (simp; done) | (simp [*]; done)), H', ⟨by have := HK1.out; omega⟩, ⟨rl_ HO_6⟩, ⟨rl_ HO_7⟩, ⟨rl_ HO_17⟩, ⟨bl_ HB⟩⟩
       ·rw [if_neg c10] at H
        exact absurd H (by simp)
      ·rw [if_neg c9] at H
       exact absurd H (by simp)
     ·rw [if_neg c8] at H
      have c8b0 := decide_eq_false c8
      clear c8
      simp only [some.injEq, Prod.mk.injEq] at H
      obtain ⟨rfl, rfl⟩ := H
      go_wp2
      go_ret2
      exact ⟨_, by first | rfl | (simp <;> rfl) | (simp [*] <;> rfl), by (with_reducible repeat (first | apply Kd.R_alloc | apply Kd.R_drewN | apply Kd.R_drew)); exact Kd.R_mono HO_7.out (fun _ hk => trivial), bl_ HB⟩
  ·replace c4 := Bool.eq_false_iff.mpr c4
   subst c4
   have H1 : (some (([] : List Int), 1)) = some (r1, r2) := by rw [if_neg (show ¬ (false = true) by decide)] at H; exact H
   clear H
   have H := H1
   clear H1
   simp only [some.injEq, Prod.mk.injEq] at H
   obtain ⟨rfl, rfl⟩ := H
   go_enter func52, ntmps52
   go_wp2_with (first | ((with_reducible refine gate_callee (f := 78) rfl ?_); refine goesL_ (some 12) rfl rfl func78 (by kernel_rfl) rfl #[.int .i64 a0, .slice A1 l1.length c1, .int .u64 1] rfl (by (try simp only [map_toArray, map_cons, map_nil]); first | done | rfl) ?_; (with_reducible refine (medlarref09_may.calls k a0 _ _ l1 1 false _ ?side1 ?side2 A3.out).mono ?_); (case side1 => repeat (first | exact HR1.out | (with_reducible refine Kd.C_alloc ?_ _) | (with_reducible refine Kd.C_drewN ?_ _) | (with_reducible refine Kd.C_drew ?_))); (case side2 => exact HC1.out); rintro e w' ⟨rfl, ⟨nd, rfl⟩⟩; refine ⟨_, rfl, ?_⟩))
   go_ret2
   exact ⟨_, by first | rfl | (simp <;> rfl) | (simp [*] <;> rfl), by first | exact Kd.R_nil _ _ _ _ _ | exact Kd.N_nil _ _ _ _ _ | exact Kd.V_nil _ _ _ _ _ | exact Kd.Q_nil _ _ _ _ _ | exact Kd.S_nil _ _ _ _ _, bl_ HB⟩
def medlarref01_Is.l0 : Nat → Int → List Int → Int → Int → Option (Bool)
  | 0, _, _, _, _ => none
  | k + 1, x0, x8, x9, x10 => if x10 < x9 then (if 0 ≤ x10 then (if x10 < (x8.length : Int) then (if (rd x8 x10) = x0 then (some true) else (medlarref01_Is.l0 k x0 x8 x9 (wrap64 (x10 + 1)))) else (none)) else (none)) else (some false)
def medlarref01_Is.f (k : Nat) (a0 : Int) (a1 : Int) : Option (Bool) := (medlarref01_Chain.f k a1).bind fun t424 => (medlarref01_Is.l0 k a0 t424 (t424.length : Int) 0)
set_option maxHeartbeats 8000000 in
set_option maxRecDepth 100000 in
theorem medlarref01_Is.calls (k : Nat) (a0 : Int) (a1 : Int) (r : Bool) (w : World) (h : medlarref01_Is.f k a0 a1 = some r) :
   Calls Tryz.prog 62 #[.int .u64 a0, .int .u64 a1] w fun e w' => e = .returned (.bool r) ∧ Below w.heap.size w w' := by
  have HB := ak_ (Below.refl w.heap.size w)
  have H : ((medlarref01_Chain.f k a1).bind fun t424 => (medlarref01_Is.l0 k a0 t424 (t424.length : Int) 0)) = some r := h
  clear h
  replace H := bind_eq_some_iff.mp H
  obtain ⟨t424, A30, H⟩ := H
  replace H : (medlarref01_Is.l0 k a0 t424 (t424.length : Int) 0) = some r := H
  have A3 := ak_ A30
  clear A30
  have H' := ak_ H
  clear H
  go_enter func62, ntmps62
  go_wp2_with (first | ((with_reducible refine gate_callee (f := 34) rfl ?_); refine goesL_ (some 8) rfl rfl func34 (by kernel_rfl) rfl #[.int .u64 a1] rfl (by (try simp only [map_toArray, map_cons, map_nil]); first | done | rfl) ?_; (with_reducible refine (medlarref01_Chain.calls k a1 t424 _ A3.out).mono ?_); rintro e w4 ⟨v425, rfl, ho0, hb⟩; refine ⟨_, rfl, ?_⟩; have n0_ := ak_ (Kd.R_lower ho0 (bz_ (bl_ HB))); have n1_ := ak_ (bt_ (bl_ HB) hb); clear HB; have HO426 := n0_; have HB := n1_; clear n0_ n1_; (try clear hb); (try clear hk); (try clear ho0); obtain ⟨Ao5, co5, eo5⟩ := Kd.R_slice HO426.out; subst eo5))
  go_loopg [10] k (fun kq v10 w' => ∃ (x10_1 : Int), v10 = .int .i64 x10_1 ∧ Aside0 (medlarref01_Is.l0 kq a0 t424 (t424.length : Int) x10_1 = some r) ∧ Aside0 (kq ≤ k) ∧ Aside0 (Kd.R (Kd.int .u64) 23 w' w.heap.size (fun _ => True) (.slice Ao5 t424.length co5) t424) ∧ Aside0 (Below w.heap.size w w'))
  case atStart => exact ⟨(0), (by first | rfl | (simp; done) | (simp [*]; done)), H', ⟨Nat.le_refl _⟩, ⟨rl_ HO426⟩, ⟨bl_ HB⟩⟩
  case round =>
   clear H'
   try clear p2
   try clear c3
   obtain ⟨x10_1, rfl, HA, HK1, HO_8, HB⟩ := hrel
   cases gk with
   | zero => exact absurd HA.out (by simp [medlarref01_Is.l0])
   | succ k1 =>
    have H := HA.out
    clear HA
    simp only [medlarref01_Is.l0] at H
    by_cases c6 : x10_1 < (t424.length : Int)
    ·rw [if_pos c6] at H
     have c6b0 := decide_eq_true c6
     clear c6
     by_cases c7 : 0 ≤ x10_1
     ·rw [if_pos c7] at H
      have c7b0 := decide_eq_true c7
      clear c7
      by_cases c8 : x10_1 < (t424.length : Int)
      ·rw [if_pos c8] at H
       have c8b0 := decide_eq_true c8
       clear c8
       by_cases c9 : (rd t424 x10_1) = a0
       ·rw [if_pos c9] at H
        have c9b0 : ((rd t424 x10_1) == a0) = true := beq_iff_eq.mpr c9
        have c9b1 : ((rd t424 x10_1) != a0) = false := bne_eq_false_iff_eq.mpr c9
        clear c9
        obtain rfl := Option.some.inj H
        have p427 : 0 ≤ (x10_1 : Int) := od_ (by first | (with_reducible assumption) | assumption)
        have q427 : x10_1 < (t424.length : Int) := od_ (by first | (with_reducible assumption) | assumption)
        obtain ⟨ad427, e427, hx427_0⟩ := Kd.at_int (Kd.R_reads' HO_8.out).2.2 x10_1 p427 q427
        cases e427
        replace p427 := eq_true p427
        replace q427 := eq_true q427
        go_wp2
        go_ret
        exact ⟨by first | rfl | (simp <;> rfl) | (simp [*] <;> rfl), bl_ HB⟩
       ·rw [if_neg c9] at H
        have c9b0 : ((rd t424 x10_1) == a0) = false := beq_eq_false_iff_ne.mpr c9
        have c9b1 : ((rd t424 x10_1) != a0) = true := bne_iff_ne.mpr c9
        have H' := ak_ H
        clear H
        have p427 : 0 ≤ (x10_1 : Int) := od_ (by first | (with_reducible assumption) | assumption)
        have q427 : x10_1 < (t424.length : Int) := od_ (by first | (with_reducible assumption) | assumption)
        obtain ⟨ad427, e427, hx427_0⟩ := Kd.at_int (Kd.R_reads' HO_8.out).2.2 x10_1 p427 q427
        cases e427
        replace p427 := eq_true p427
        replace q427 := eq_true q427
        go_wp2
        go_roundg k1
        case measure => have := HK1.out; omega
        case rel => exact ⟨(wrap64 (x10_1 + 1)), (by first | rfl | (simp; done) | (simp [*]; done)), H', ⟨by have := HK1.out; omega⟩, ⟨rl_ HO_8⟩, ⟨bl_ HB⟩⟩
      ·rw [if_neg c8] at H
       exact absurd H (by simp)
     ·rw [if_neg c7] at H
      exact absurd H (by simp)
    ·rw [if_neg c6] at H
     have c6b0 := decide_eq_false c6
     clear c6
     obtain rfl := Option.some.inj H
     go_wp2
     go_ret
     exact ⟨by first | rfl | (simp <;> rfl) | (simp [*] <;> rfl), bl_ HB⟩
def medlarref01_Leaves.l0 : Nat → Int → Int → Int → Option (Int × Int × Int)
  | 0, _, _, _ => none
  | k + 1, x0, x6, x7 => (medlarref01_power.f k x0).bind fun t430 => (if x6 < t430 then (medlarref01_Leaves.l0 k x0 (IntKind.u64.wrap (2 * x6)) (IntKind.u64.wrap ((IntKind.u64.wrap (2 * x7)) + 1))) else ((medlarref01_power.f k x0).bind fun t431 => ((medlarref01_power.f k x0).bind fun t432 => (some (IntKind.u64.wrap (x6 - t431), IntKind.u64.wrap (x7 - t432), 0)))))
def medlarref01_Leaves.f (k : Nat) (a0 : Int) (a1 : Int) : Option (Int × Int × Int) := (medlarref01_May.f k a0 a1).bind fun t429 => (if t429 = true then (medlarref01_Leaves.l0 k a0 a1 a1) else (some (0, 0, 1)))
set_option maxHeartbeats 8000000 in
set_option maxRecDepth 100000 in
theorem medlarref01_Leaves.calls (k : Nat) (a0 : Int) (a1 : Int) (r1 : Int) (r2 : Int) (r3 : Int) (w : World) (h : medlarref01_Leaves.f k a0 a1 = some (r1, r2, r3)) :
   Calls Tryz.prog 84 #[.int .i64 a0, .int .u64 a1] w fun e w' => e = .returned (.tuple #[.agg #[.int .u64 r1, .int .u64 r2], .int .i64 r3]) ∧ Below w.heap.size w w' := by
  have hu76 := underlying76
  have HB := ak_ (Below.refl w.heap.size w)
  have H : ((medlarref01_May.f k a0 a1).bind fun t429 => (if t429 = true then (medlarref01_Leaves.l0 k a0 a1 a1) else (some (0, 0, 1)))) = some (r1, r2, r3) := h
  clear h
  replace H := bind_eq_some_iff.mp H
  obtain ⟨t429, A30, H⟩ := H
  replace H : (if t429 = true then (medlarref01_Leaves.l0 k a0 a1 a1) else (some (0, 0, 1))) = some (r1, r2, r3) := H
  have A3 := ak_ A30
  clear A30
  by_cases c4 : t429 = true
  ·subst c4
   have H1 : (medlarref01_Leaves.l0 k a0 a1 a1) = some (r1, r2, r3) := by rw [if_pos rfl] at H; exact H
   clear H
   have H := H1
   clear H1
   have H' := ak_ H
   clear H
   go_enter func84, ntmps84
   go_wp2_with (first | ((with_reducible refine gate_dst (N := 4) rfl ?_); refine box_event ?hg (N := 4) ?hd (cs := #[.int .u64 0, .int .u64 0]) (t := 76) ?hr ?_; (case hd => rfl); (case hg => rfl); (case hr => first | (go_simp; done) | (go_simp; rfl)); intro gb428 hg w5 hbox hb; have n0_ := ak_ (bt_ (bl_ HB) hb); have n1_ := ak_ (hbox); have n2_ := ak_ ((gs_ hg HB)); have n3_ := ak_ ((gs_ hg HB)); clear HB; have HB := n0_; have BK428 := n1_; have GW428 := n2_; have GE428 := n3_; clear n0_ n1_ n2_ n3_; clear hb hbox hg) | ((with_reducible refine gate_callee (f := 50) rfl ?_); refine goesL_ (some 10) rfl rfl func50 (by kernel_rfl) rfl #[.int .i64 a0, .int .u64 a1] rfl (by (try simp only [map_toArray, map_cons, map_nil]); first | done | rfl) ?_; (with_reducible refine (medlarref01_May.calls k a0 a1 true _ A3.out).mono ?_); rintro e w' ⟨rfl, ⟨nd, rfl⟩⟩; refine ⟨_, rfl, ?_⟩))
   go_loopg [6, 7] k (fun kq v6 v7 w' => ∃ (x6_1 : Int) (x7_1 : Int), v6 = .int .u64 x6_1 ∧ v7 = .int .u64 x7_1 ∧ Aside0 (medlarref01_Leaves.l0 kq a0 x6_1 x7_1 = some (r1, r2, r3)) ∧ Aside0 (kq ≤ k) ∧ Aside0 (w'.heap[gb428]? = some (.cells #[.int .u64 0, .int .u64 0] 76 (0, 0))) ∧ Aside0 (Below w.heap.size w w'))
   case atStart => exact ⟨(a1), (a1), (by first | rfl | (simp; done) | (simp [*]; done)), (by first | rfl | (simp; done) | (simp [*]; done)), H', ⟨Nat.le_refl _⟩, ⟨kl_ BK428⟩, ⟨by repeat (first | (with_reducible first | exact HB.out | apply ba_ | apply bn_ | apply bd_ | refine below_set ?_ GE428.out) | exact HB.out)⟩⟩
   case round =>
    clear H'
    try clear p2
    try clear c4
    try clear c5
    obtain ⟨x6_1, x7_1, rfl, rfl, HA, HK1, BK428, HB⟩ := hrel
    cases gk with
    | zero => exact absurd HA.out (by simp [medlarref01_Leaves.l0])
    | succ k1 =>
     have H := HA.out
     clear HA
     simp only [medlarref01_Leaves.l0] at H
     replace H := bind_eq_some_iff.mp H
     obtain ⟨t430, A60, H⟩ := H
     replace H : (if x6_1 < t430 then (medlarref01_Leaves.l0 k1 a0 (IntKind.u64.wrap (2 * x6_1)) (IntKind.u64.wrap ((IntKind.u64.wrap (2 * x7_1)) + 1))) else ((medlarref01_power.f k1 a0).bind fun t431 => ((medlarref01_power.f k1 a0).bind fun t432 => (some (IntKind.u64.wrap (x6_1 - t431), IntKind.u64.wrap (x7_1 - t432), 0))))) = some (r1, r2, r3) := H
     have A6 := ak_ A60
     clear A60
     by_cases c7 : x6_1 < t430
     ·rw [if_pos c7] at H
      have c7b0 := decide_eq_true c7
      clear c7
      have H' := ak_ H
      clear H
      go_wp2_with (first | ((with_reducible refine gate_callee (f := 64) rfl ?_); refine goesL_ (some 17) rfl rfl func64 (by kernel_rfl) rfl #[.int .i64 a0] rfl (by (try simp only [map_toArray, map_cons, map_nil]); first | done | rfl) ?_; (with_reducible refine (medlarref01_power.calls k1 a0 t430 _ A6.out).mono ?_); rintro e w' ⟨rfl, ⟨nd, rfl⟩⟩; refine ⟨_, rfl, ?_⟩))
      go_roundg k1
      case measure => have := HK1.out; omega
      case rel => exact ⟨(IntKind.u64.wrap (2 * x6_1)), (IntKind.u64.wrap ((IntKind.u64.wrap (2 * x7_1)) + 1)), (by first | rfl | (simp; done) | (simp [*]; done)), (by first | rfl | (simp; done) | (simp [*]; done)), H', ⟨by have := HK1.out; omega⟩, ⟨kl_ BK428⟩, ⟨by repeat (first | (with_reducible first | exact HB.out | apply ba_ | apply bn_ | apply bd_ | refine below_set ?_ GE428.out) | exact HB.out)⟩⟩
     ·rw [if_neg c7] at H
      have c7b0 := decide_eq_false c7
      clear c7
      replace H := bind_eq_some_iff.mp H
      obtain ⟨t431, A80, H⟩ := H
      replace H : ((medlarref01_power.f k1 a0).bind fun t432 => (some (IntKind.u64.wrap (x6_1 - t431), IntKind.u64.wrap (x7_1 - t432), 0))) = some (r1, r2, r3) := H
      have A8 := ak_ A80
      clear A80
      replace H := bind_eq_some_iff.mp H
      obtain ⟨t432, A90, H⟩ := H
      replace H : (some (IntKind.u64.wrap (x6_1 - t431), IntKind.u64.wrap (x7_1 - t432), 0)) = some (r1, r2, r3) := H
      have A9 := ak_ A90
      clear A90
      simp only [some.injEq, Prod.mk.injEq] at H
      obtain ⟨rfl, rfl, rfl⟩ := H
      go_wp2_with (first | ((with_reducible refine gate_callee (f := 64) rfl ?_); refine goesL_ (some 17) rfl rfl func64 (by kernel_rfl) rfl #[.int .i64 a0] rfl (by (try simp only [map_toArray, map_cons, map_nil]); first | done | rfl) ?_; (with_reducible refine (medlarref01_power.calls k1 a0 t430 _ A6.out).mono ?_); rintro e w' ⟨rfl, ⟨nd, rfl⟩⟩; refine ⟨_, rfl, ?_⟩; (try (rw [drewN_self wr]; generalize hq_ : World.drewN wr _ = wr; have n0_ : Aside0 (wr.heap[gb428]? = some (.cells #[.int .u64 0, .int .u64 0] 76 (0, 0))) := ⟨by rw [← hq_]; exact (kl_ BK428)⟩; have n1_ : Aside0 (Below w.heap.size w wr) := ⟨by rw [← hq_]; exact (by repeat (first | (with_reducible first | exact HB.out | apply ba_ | apply bn_ | apply bd_ | refine below_set ?_ GE428.out) | exact HB.out))⟩; clear BK428 HB hq_; have BK428 := n0_; have HB := n1_; clear n0_ n1_))) | ((with_reducible refine gate_callee (f := 64) rfl ?_); refine goesL_ (some 26) rfl rfl func64 (by kernel_rfl) rfl #[.int .i64 a0] rfl (by (try simp only [map_toArray, map_cons, map_nil]); first | done | rfl) ?_; (with_reducible refine (medlarref01_power.calls k1 a0 t431 _ A8.out).mono ?_); rintro e w' ⟨rfl, ⟨nd, rfl⟩⟩; refine ⟨_, rfl, ?_⟩; (try (rw [drewN_self wr]; generalize hq_ : World.drewN wr _ = wr; have n0_ : Aside0 (wr.heap[gb428]? = some (.cells #[.int .u64 0, .int .u64 0] 76 (0, 0))) := ⟨by rw [← hq_]; exact (kl_ BK428)⟩; have n1_ : Aside0 (Below w.heap.size w wr) := ⟨by rw [← hq_]; exact (by repeat (first | (with_reducible first | exact HB.out | apply ba_ | apply bn_ | apply bd_ | refine below_set ?_ GE428.out) | exact HB.out))⟩; clear BK428 HB hq_; have BK428 := n0_; have HB := n1_; clear n0_ n1_))) | ((with_reducible refine gate_callee (f := 64) rfl ?_); refine goesL_ (some 30) rfl rfl func64 (by kernel_rfl) rfl #[.int .i64 a0] rfl (by (try simp only [map_toArray, map_cons, map_nil]); first | done | rfl) ?_; (with_reducible refine (medlarref01_power.calls k1 a0 t432 _ A9.out).mono ?_); rintro e w' ⟨rfl, ⟨nd, rfl⟩⟩; refine ⟨_, rfl, ?_⟩; (try (rw [drewN_self wr]; generalize hq_ : World.drewN wr _ = wr; have n0_ : Aside0 (wr.heap[gb428]? = some (.cells #[.int .u64 0, .int .u64 0] 76 (0, 0))) := ⟨by rw [← hq_]; exact (kl_ BK428)⟩; have n1_ : Aside0 (Below w.heap.size w wr) := ⟨by rw [← hq_]; exact (by repeat (first | (with_reducible first | exact HB.out | apply ba_ | apply bn_ | apply bd_ | refine below_set ?_ GE428.out) | exact HB.out))⟩; clear BK428 HB hq_; have BK428 := n0_; have HB := n1_; clear n0_ n1_)); have hcz10_0 : wr.cell? ⟨gb428, 0, none⟩ = some (.int .u64 0) := (kc_ BK428.out 0).trans rfl; have hcz10_1 : wr.cell? ⟨gb428, 1, none⟩ = some (.int .u64 0) := (kc_ BK428.out 1).trans rfl; have hfz10_0 := kf_ BK428.out 0; have hfz10_1 := kf_ BK428.out 1))
      refine bodyPost_ret (results_ct rfl _ _ gb428 76 #[.int .u64 (IntKind.u64.wrap (x6_1 - t431)), .int .u64 (IntKind.u64.wrap (x7_1 - t432))] (0, 0) _ rfl (by (with_reducible repeat (first | refine kn_ ?_ _ | refine kd_ ?_ | refine ka_ ?_ _)); refine blk_put (cs := #[.int .u64 (IntKind.u64.wrap (x6_1 - t431)), .int .u64 0]) ?_ 1 _ rfl; (with_reducible repeat (first | refine kn_ ?_ _ | refine kd_ ?_ | refine ka_ ?_ _)); refine blk_put (cs := #[.int .u64 0, .int .u64 0]) ?_ 0 _ rfl; (with_reducible repeat (first | refine kn_ ?_ _ | refine kd_ ?_ | refine ka_ ?_ _)); exact BK428.out) underlying76 rfl (by kernel_rfl)) rfl ?_
      exact ⟨by first | rfl | (simp <;> rfl) | (simp [*] <;> rfl), by repeat (first | (with_reducible first | exact HB.out | apply ba_ | apply bn_ | apply bd_ | refine below_set ?_ GE428.out) | exact HB.out)⟩
  ·replace c4 := Bool.eq_false_iff.mpr c4
   subst c4
   have H1 : (some (0, 0, 1)) = some (r1, r2, r3) := by rw [if_neg (show ¬ (false = true) by decide)] at H; exact H
   clear H
   have H := H1
   clear H1
   simp only [some.injEq, Prod.mk.injEq] at H
   obtain ⟨rfl, rfl, rfl⟩ := H
   go_enter func84, ntmps84
   go_wp2_with (first | ((with_reducible refine gate_dst (N := 4) rfl ?_); refine box_event ?hg (N := 4) ?hd (cs := #[.int .u64 0, .int .u64 0]) (t := 76) ?hr ?_; (case hd => rfl); (case hg => rfl); (case hr => first | (go_simp; done) | (go_simp; rfl)); intro gb428 hg w11 hbox hb; have n0_ := ak_ (bt_ (bl_ HB) hb); have n1_ := ak_ (hbox); have n2_ := ak_ ((gs_ hg HB)); have n3_ := ak_ ((gs_ hg HB)); clear HB; have HB := n0_; have BK428 := n1_; have GW428 := n2_; have GE428 := n3_; clear n0_ n1_ n2_ n3_; clear hb hbox hg) | ((with_reducible refine gate_callee (f := 50) rfl ?_); refine goesL_ (some 10) rfl rfl func50 (by kernel_rfl) rfl #[.int .i64 a0, .int .u64 a1] rfl (by (try simp only [map_toArray, map_cons, map_nil]); first | done | rfl) ?_; (with_reducible refine (medlarref01_May.calls k a0 a1 false _ A3.out).mono ?_); rintro e w' ⟨rfl, ⟨nd, rfl⟩⟩; refine ⟨_, rfl, ?_⟩; (try (rw [drewN_self w11]; generalize hq_ : World.drewN w11 _ = w11; have n0_ : Aside0 (w11.heap[gb428]? = some (.cells #[.int .u64 0, .int .u64 0] 76 (0, 0))) := ⟨by rw [← hq_]; exact (kl_ BK428)⟩; have n1_ : Aside0 (Below w.heap.size w w11) := ⟨by rw [← hq_]; exact (by repeat (first | (with_reducible first | exact HB.out | apply ba_ | apply bn_ | apply bd_ | refine below_set ?_ GE428.out) | exact HB.out))⟩; clear BK428 HB hq_; have BK428 := n0_; have HB := n1_; clear n0_ n1_)); have hcz12_0 : w11.cell? ⟨gb428, 0, none⟩ = some (.int .u64 0) := (kc_ BK428.out 0).trans rfl; have hcz12_1 : w11.cell? ⟨gb428, 1, none⟩ = some (.int .u64 0) := (kc_ BK428.out 1).trans rfl; have hfz12_0 := kf_ BK428.out 0; have hfz12_1 := kf_ BK428.out 1))
   refine bodyPost_ret (results_ct rfl _ _ gb428 76 #[.int .u64 0, .int .u64 0] (0, 0) _ rfl (by (with_reducible repeat (first | refine kn_ ?_ _ | refine kd_ ?_ | refine ka_ ?_ _)); refine blk_put (cs := #[.int .u64 0, .int .u64 0]) ?_ 1 _ rfl; (with_reducible repeat (first | refine kn_ ?_ _ | refine kd_ ?_ | refine ka_ ?_ _)); refine blk_put (cs := #[.int .u64 0, .int .u64 0]) ?_ 0 _ rfl; (with_reducible repeat (first | refine kn_ ?_ _ | refine kd_ ?_ | refine ka_ ?_ _)); exact BK428.out) underlying76 rfl (by kernel_rfl)) rfl ?_
   exact ⟨by first | rfl | (simp <;> rfl) | (simp [*] <;> rfl), by repeat (first | (with_reducible first | exact HB.out | apply ba_ | apply bn_ | apply bd_ | refine below_set ?_ GE428.out) | exact HB.out)⟩
mutual
def medlarref02_Below.j0 : Nat → List Int → Bool → Int → Int → Option (List Int × Int)
  | 0, _, _, _, _ => none
  | k + 1, x1, x26, x437000, x437001 => if x26 = true then (some (([] : List Int), 1)) else (medlarref02_Below.l0 k ([] : List Int) x1 (x1.length : Int) 0 x437000 x437001)
def medlarref02_Below.l0 : Nat → List Int → List Int → Int → Int → Int → Int → Option (List Int × Int)
  | 0, _, _, _, _, _, _ => none
  | k + 1, x10, x27, x28, x29, x437000, x437001 => if x29 < x28 then (if 0 ≤ x29 then (if x29 < (x27.length : Int) then (if x437000 ≤ (rd x27 x29) then (if (rd x27 x29) ≤ x437001 then (if x10.length < 17592186044416 then (medlarref02_Below.l0 k (x10 ++ [rd x27 x29]) x27 x28 (wrap64 (x29 + 1)) x437000 x437001) else (none)) else (medlarref02_Below.l0 k x10 x27 x28 (wrap64 (x29 + 1)) x437000 x437001)) else (medlarref02_Below.l0 k x10 x27 x28 (wrap64 (x29 + 1)) x437000 x437001)) else (none)) else (none)) else (some (x10, 0))
end
def medlarref02_Below.f (k : Nat) (a0 : Int) (l1 : List Int) (a2 : Int) : Option (List Int × Int) := (medlarref01_Leaves.f k a0 a2).bind fun bt433 => (if bt433.2.2 = 0 then ((medlarref02_Check.f k a0 l1).bind fun t437 => (medlarref02_Below.j0 k l1 (t437 != 0) bt433.1 bt433.2.1)) else (medlarref02_Below.j0 k l1 true bt433.1 bt433.2.1))
set_option maxHeartbeats 8000000 in
set_option maxRecDepth 100000 in
theorem medlarref02_Below.calls (k : Nat) (a0 : Int) (A1 : Option Addr) (c1 : Nat) (l1 : List Int) (a2 : Int) (r1 : List Int) (r2 : Int) (w : World) (hr1 : Kd.C (Kd.int .u64) w A1 l1.length l1) (hc1 : l1.length ≤ c1) (h : medlarref02_Below.f k a0 l1 a2 = some (r1, r2)) :
   Calls Tryz.prog 81 #[.int .i64 a0, .slice A1 l1.length c1, .int .u64 a2] w fun e w' => ∃ v0_ : Value, e = .returned (.tuple #[v0_, .int .i64 r2]) ∧ Kd.R (Kd.int .u64) 23 w' w.heap.size (fun _ => True) v0_ r1 ∧ Below w.heap.size w w' := by
  have hu76 := underlying76
  have HR1 := ak_ hr1
  have HC1 := ak_ hc1
  clear hr1 hc1
  have HB := ak_ (Below.refl w.heap.size w)
  have H : ((medlarref01_Leaves.f k a0 a2).bind fun bt433 => (if bt433.2.2 = 0 then ((medlarref02_Check.f k a0 l1).bind fun t437 => (medlarref02_Below.j0 k l1 (t437 != 0) bt433.1 bt433.2.1)) else (medlarref02_Below.j0 k l1 true bt433.1 bt433.2.1))) = some (r1, r2) := h
  clear h
  replace H := bind_eq_some_iff.mp H
  obtain ⟨⟨t433, t434, t435⟩, A40, H⟩ := H
  replace H : (if t435 = 0 then ((medlarref02_Check.f k a0 l1).bind fun t437 => (medlarref02_Below.j0 k l1 (t437 != 0) t433 t434)) else (medlarref02_Below.j0 k l1 true t433 t434)) = some (r1, r2) := H
  have A4 := ak_ A40
  clear A40
  have HC5 := ak_ H
  clear H
  go_enter func81, ntmps81
  go_upto_region 2 with (first | ((with_reducible refine gate_callee (f := 84) rfl ?_); refine goesL_ (some 16) rfl rfl func84 (by kernel_rfl) rfl #[.int .i64 a0, .int .u64 a2] rfl (by (try simp only [map_toArray, map_cons, map_nil]); first | done | rfl) ?_; (with_reducible refine (medlarref01_Leaves.calls k a0 a2 t433 t434 t435 _ A4.out).mono ?_); rintro e w6 ⟨rfl, hb⟩; refine ⟨_, rfl, ?_⟩; have n0_ := ak_ (bt_ (bl_ HB) hb); clear HB; have HB := n0_; clear n0_; (try clear hb); (try clear hk)) | ((with_reducible refine gate_dst (N := 8) rfl ?_); refine box_event ?hg (N := 8) ?hd (cs := #[.int .u64 0, .int .u64 0]) (t := 76) ?hr ?_; (case hd => rfl); (case hg => rfl); (case hr => first | (go_simp; done) | (go_simp; rfl)); intro gb436 hg w7 hbox hb; have n0_ := ak_ (bt_ (bl_ HB) hb); have n1_ := ak_ (hbox); have n2_ := ak_ ((gs_ hg HB)); have n3_ := ak_ ((gs_ hg HB)); clear HB; have HB := n0_; have BK436 := n1_; have GW436 := n2_; have GE436 := n3_; clear n0_ n1_ n2_ n3_; clear hb hbox hg; have hcz8_0 : w7.cell? ⟨gb436, 0, none⟩ = some (.int .u64 0) := (kc_ BK436.out 0).trans rfl; have hcz8_1 : w7.cell? ⟨gb436, 1, none⟩ = some (.int .u64 0) := (kc_ BK436.out 1).trans rfl; have hfz8_0 := kf_ BK436.out 0; have hfz8_1 := kf_ BK436.out 1))
  (try simp only [Act.put, setIfInBounds_toArray, set_cons_zero, set_cons_succ])
  go_cut [26] (fun v26 wc => ∃ (kq : Nat) (x26_4 : Bool), v26 = .bool x26_4 ∧ Aside0 (medlarref02_Below.j0 kq l1 x26_4 t433 t434 = some (r1, r2)) ∧ Aside0 (kq ≤ k) ∧ Aside0 (wc.heap[gb436]? = some (.cells #[.int .u64 t433, .int .u64 t434] 76 (0, 0))) ∧ Aside0 (Below w.heap.size w wc))
  case first =>
   have H := HC5.out
   clear HC5
   by_cases c9 : t435 = 0
   ·rw [if_pos c9] at H
    have c9b0 : (t435 == 0) = true := beq_iff_eq.mpr c9
    have c9b1 : (t435 != 0) = false := bne_eq_false_iff_eq.mpr c9
    clear c9
    (first | rw [c9b0] | (simp only [i64_w, i32_w]; rw [c9b0]) | skip)
    replace H := bind_eq_some_iff.mp H
    obtain ⟨t437, A100, H⟩ := H
    replace H : (medlarref02_Below.j0 k l1 (t437 != 0) t433 t434) = some (r1, r2) := H
    have A10 := ak_ A100
    clear A100
    have H' := ak_ H
    clear H
    go_wp2_with (first | (go_at_call 103; (with_reducible refine (medlarref02_Check.calls k a0 _ _ l1 t437 _ ?side1 ?side2 A10.out).mono ?_); (case side1 => exact Kd.C_below HR1.out (by repeat (first | (with_reducible first | exact HB.out | apply ba_ | apply bn_ | apply bd_ | refine below_set ?_ GE436.out) | exact HB.out))); (case side2 => exact HC1.out); rintro e w' ⟨rfl, ⟨nd, rfl⟩⟩))
    go_meet
    case rel => exact ⟨_, ((t437 != 0)), (by first | rfl | (simp; done) | (simp [*]; done)), H', ⟨by first | omega | exact Nat.le_refl _⟩, ⟨by (with_reducible repeat (first | refine kn_ ?_ _ | refine kd_ ?_ | refine ka_ ?_ _)); refine blk_put (cs := #[.int .u64 t433, .int .u64 0]) ?_ 1 _ rfl; (with_reducible repeat (first | refine kn_ ?_ _ | refine kd_ ?_ | refine ka_ ?_ _)); refine blk_put (cs := #[.int .u64 0, .int .u64 0]) ?_ 0 _ rfl; (with_reducible repeat (first | refine kn_ ?_ _ | refine kd_ ?_ | refine ka_ ?_ _)); exact BK436.out⟩, ⟨by repeat (first | (with_reducible first | exact HB.out | apply ba_ | apply bn_ | apply bd_ | refine below_set ?_ GE436.out) | exact HB.out)⟩⟩
   ·rw [if_neg c9] at H
    have c9b0 : (t435 == 0) = false := beq_eq_false_iff_ne.mpr c9
    have c9b1 : (t435 != 0) = true := bne_iff_ne.mpr c9
    (first | rw [c9b0] | (simp only [i64_w, i32_w]; rw [c9b0]) | skip)
    have H' := ak_ H
    clear H
    go_wp2
    go_meet
    case rel => exact ⟨_, (true), (by first | rfl | (simp; done) | (simp [*]; done)), H', ⟨by first | omega | exact Nat.le_refl _⟩, ⟨by (with_reducible repeat (first | refine kn_ ?_ _ | refine kd_ ?_ | refine ka_ ?_ _)); refine blk_put (cs := #[.int .u64 t433, .int .u64 0]) ?_ 1 _ rfl; (with_reducible repeat (first | refine kn_ ?_ _ | refine kd_ ?_ | refine ka_ ?_ _)); refine blk_put (cs := #[.int .u64 0, .int .u64 0]) ?_ 0 _ rfl; (with_reducible repeat (first | refine kn_ ?_ _ | refine kd_ ?_ | refine ka_ ?_ _)); exact BK436.out⟩, ⟨by repeat (first | (with_reducible first | exact HB.out | apply ba_ | apply bn_ | apply bd_ | refine below_set ?_ GE436.out) | exact HB.out)⟩⟩
  case rest =>
   clear HC5
   try clear c1
   try clear p2
   try clear c8
   try clear c9
   try clear c9b0
   try clear c9b1
   try clear hcz8_0
   try clear hcz8_1
   try clear hfz8_0
   try clear hfz8_1
   obtain ⟨kq, x26_4, rfl, HA, HJ4, BK436, HB⟩ := hcut
   cases kq with
   | zero => exact absurd HA.out (by simp [medlarref02_Below.j0])
   | succ kj4 =>
    have H := HA.out
    clear HA
    simp only [medlarref02_Below.j0] at H
    by_cases c11 : x26_4 = true
    ·subst c11
     have H1 : (some (([] : List Int), 1)) = some (r1, r2) := by rw [if_pos rfl] at H; exact H
     clear H
     have H := H1
     clear H1
     simp only [some.injEq, Prod.mk.injEq] at H
     obtain ⟨rfl, rfl⟩ := H
     go_wp2
     go_ret2
     exact ⟨_, by first | rfl | (simp <;> rfl) | (simp [*] <;> rfl), by first | exact Kd.R_nil _ _ _ _ _ | exact Kd.N_nil _ _ _ _ _ | exact Kd.V_nil _ _ _ _ _ | exact Kd.Q_nil _ _ _ _ _ | exact Kd.S_nil _ _ _ _ _, by repeat (first | (with_reducible first | exact HB.out | apply ba_ | apply bn_ | apply bd_ | refine below_set ?_ GE436.out) | exact HB.out)⟩
    ·replace c11 := Bool.eq_false_iff.mpr c11
     subst c11
     have H1 : (medlarref02_Below.l0 kj4 ([] : List Int) l1 (l1.length : Int) 0 t433 t434) = some (r1, r2) := by rw [if_neg (show ¬ (false = true) by decide)] at H; exact H
     clear H
     have H := H1
     clear H1
     have H' := ak_ H
     clear H
     go_wp2
     go_loopg [10, 29] kj4 (fun kq v10 v29 w' => ∃ (x10_2 : List Int) (x29_2 : Int), v29 = .int .i64 x29_2 ∧ Aside0 (medlarref02_Below.l0 kq x10_2 l1 (l1.length : Int) x29_2 t433 t434 = some (r1, r2)) ∧ Aside0 (kq ≤ kj4) ∧ Aside0 (Kd.R (Kd.int .u64) 23 w' w.heap.size (fun _ => True) v10 x10_2) ∧ Aside0 (w'.heap[gb436]? = some (.cells #[.int .u64 t433, .int .u64 t434] 76 (0, 0))) ∧ Aside0 (Below w.heap.size w w'))
     case atStart => exact ⟨(([] : List Int)), (0), (by first | rfl | (simp; done) | (simp [*]; done)), H', ⟨Nat.le_refl _⟩, ⟨by first | exact Kd.R_nil _ _ _ _ _ | exact Kd.N_nil _ _ _ _ _ | exact Kd.V_nil _ _ _ _ _ | exact Kd.Q_nil _ _ _ _ _ | exact Kd.S_nil _ _ _ _ _⟩, ⟨kl_ BK436⟩, ⟨by repeat (first | (with_reducible first | exact HB.out | apply ba_ | apply bn_ | apply bd_ | refine below_set ?_ GE436.out) | exact HB.out)⟩⟩
     case round =>
      clear H'
      try clear c1
      try clear p2
      try clear c8
      try clear c9
      try clear c9b0
      try clear c9b1
      try clear c11
      try clear hcz8_0
      try clear hcz8_1
      try clear hfz8_0
      try clear hfz8_1
      try clear p2
      obtain ⟨x10_2, x29_2, rfl, HA, HK2, HO_10, BK436, HB⟩ := hrel
      cases gk with
      | zero => exact absurd HA.out (by simp [medlarref02_Below.l0])
      | succ k2 =>
       have H := HA.out
       clear HA
       simp only [medlarref02_Below.l0] at H
       by_cases c12 : x29_2 < (l1.length : Int)
       ·rw [if_pos c12] at H
        have c12b0 := decide_eq_true c12
        clear c12
        by_cases c13 : 0 ≤ x29_2
        ·rw [if_pos c13] at H
         have c13b0 := decide_eq_true c13
         clear c13
         by_cases c14 : x29_2 < (l1.length : Int)
         ·rw [if_pos c14] at H
          have c14b0 := decide_eq_true c14
          clear c14
          by_cases c15 : t433 ≤ (rd l1 x29_2)
          ·rw [if_pos c15] at H
           have c15b0 := decide_eq_true c15
           clear c15
           by_cases c16 : (rd l1 x29_2) ≤ t434
           ·rw [if_pos c16] at H
            have c16b0 := decide_eq_true c16
            clear c16
            by_cases c17 : x10_2.length < 17592186044416
            ·rw [if_pos c17] at H
             have LMc17 := ak_ c17
             clear c17
             obtain ⟨y439, hy439⟩ : ∃ y_ : List Int, y_ = (x10_2 ++ [rd l1 x29_2]) := ⟨_, rfl⟩
             replace H : (medlarref02_Below.l0 k2 y439 l1 (l1.length : Int) (wrap64 (x29_2 + 1)) t433 t434) = some (r1, r2) := by first | (rw [hy439]; with_reducible exact H) | (have H2_ := (Option.bind_some _ _).symm.trans H; rw [hy439]; with_reducible exact H2_) | (have H2_ := (Option.bind_some _ _).symm.trans H; with_reducible exact H2_) | with_reducible exact H | (rw [hy439]; exact H) | exact H
             have Ny439 := ak_ hy439
             clear hy439
             have H' := ak_ H
             clear H
             have p438 : 0 ≤ (x29_2 : Int) := od_ (by first | (with_reducible assumption) | assumption)
             have q438 : x29_2 < (l1.length : Int) := od_ (by first | (with_reducible assumption) | assumption)
             obtain ⟨ad438, e438, hx438_0⟩ := Kd.at_int HR1.out x29_2 p438 q438
             cases e438
             replace hx438_0 := (HB.out.cell (World.block_lt_of_cell? w _ hx438_0)).trans hx438_0
             replace p438 := eq_true p438
             replace q438 := eq_true q438
             have hcz18_0 : wr.cell? ⟨gb436, 0, none⟩ = some (.int .u64 t433) := (kc_ BK436.out 0).trans rfl
             have hcz18_1 : wr.cell? ⟨gb436, 1, none⟩ = some (.int .u64 t434) := (kc_ BK436.out 1).trans rfl
             have hfz18_0 := kf_ BK436.out 0
             have hfz18_1 := kf_ BK436.out 1
             go_wp2_with (first | ((with_reducible refine gate_builtin (b := .append) (xs := #[.tmp 43, .tmp 45]) rfl ?_); at_builtin; refine Kd.R_append (Kd.int .u64) (w0 := w) w.heap.size rfl (.tmp 43) (.tmp 45) 22 23 (.int .u64 0) 8 rfl underlying22 info23 rfl (by decide) (by omega) u10 x10_2 (rd l1 x29_2) [.int .u64 (rd l1 x29_2)] (fun _ => True) (fun _ => False) rfl rfl ?aP (fun _ hk => hk.elim) ?aF ?aO ?aB ?aS ?aL ?_; (case aP => exact rfl); (case aB => exact (by repeat (first | (with_reducible first | exact HB.out | apply ba_ | apply bn_ | apply bd_ | refine below_set ?_ GE436.out) | exact HB.out))); (case aF => exact (fun _ _ => trivial)); (case aO => exact (rl_ HO_10)); (case aS => exact (bz_ (by repeat (first | (with_reducible first | exact HB.out | apply ba_ | apply bn_ | apply bd_ | refine below_set ?_ GE436.out) | exact HB.out)))); (case aL => have := LMc17.out; omega); intro v440 w19 ho hb hg hat; rw [← Ny439.out] at ho; have n0_ := ak_ (blk_grown (g := gb436) (o := .cells #[.int .u64 t433, .int .u64 t434] 76 (0, 0)) (kl_ BK436) hg (Kd.R_ne HO_10.out BK436.out (by decide))); have n1_ := ak_ (hb); have n2_ := ak_ (ho); clear BK436; clear HB; clear HO_10; have BK436 := n0_; have HB := n1_; have HO441 := n2_; clear n0_ n1_ n2_; clear ho hb hg hat))
             go_roundg k2
             case measure => have := HJ4.out; have := HK2.out; omega
             case rel => exact ⟨(y439), (wrap64 (x29_2 + 1)), (by first | rfl | (simp; done) | (simp [*]; done)), H', ⟨by have := HJ4.out; have := HK2.out; omega⟩, ⟨rl_ HO441⟩, ⟨kl_ BK436⟩, ⟨by repeat (first | (with_reducible first | exact HB.out | apply ba_ | apply bn_ | apply bd_ | refine below_set ?_ GE436.out) | exact HB.out)⟩⟩
            ·rw [if_neg c17] at H
             exact absurd H (by simp)
           ·rw [if_neg c16] at H
            have c16b0 := decide_eq_false c16
            clear c16
            have H' := ak_ H
            clear H
            have p438 : 0 ≤ (x29_2 : Int) := od_ (by first | (with_reducible assumption) | assumption)
            have q438 : x29_2 < (l1.length : Int) := od_ (by first | (with_reducible assumption) | assumption)
            obtain ⟨ad438, e438, hx438_0⟩ := Kd.at_int HR1.out x29_2 p438 q438
            cases e438
            replace hx438_0 := (HB.out.cell (World.block_lt_of_cell? w _ hx438_0)).trans hx438_0
            replace p438 := eq_true p438
            replace q438 := eq_true q438
            have hcz20_0 : wr.cell? ⟨gb436, 0, none⟩ = some (.int .u64 t433) := (kc_ BK436.out 0).trans rfl
            have hcz20_1 : wr.cell? ⟨gb436, 1, none⟩ = some (.int .u64 t434) := (kc_ BK436.out 1).trans rfl
            have hfz20_0 := kf_ BK436.out 0
            have hfz20_1 := kf_ BK436.out 1
            go_wp2
            go_roundg k2
            case measure => have := HJ4.out; have := HK2.out; omega
            case rel => exact ⟨(x10_2), (wrap64 (x29_2 + 1)), (by first | rfl | (simp; done) | (simp [*]; done)), H', ⟨by have := HJ4.out; have := HK2.out; omega⟩, ⟨rl_ HO_10⟩, ⟨kl_ BK436⟩, ⟨by repeat (first | (with_reducible first | exact HB.out | apply ba_ | apply bn_ | apply bd_ | refine below_set ?_ GE436.out) | exact HB.out)⟩⟩
          ·rw [if_neg c15] at H
           have c15b0 := decide_eq_false c15
           clear c15
           have H' := ak_ H
           clear H
           have p438 : 0 ≤ (x29_2 : Int) := od_ (by first | (with_reducible assumption) | assumption)
           have q438 : x29_2 < (l1.length : Int) := od_ (by first | (with_reducible assumption) | assumption)
           obtain ⟨ad438, e438, hx438_0⟩ := Kd.at_int HR1.out x29_2 p438 q438
           cases e438
           replace hx438_0 := (HB.out.cell (World.block_lt_of_cell? w _ hx438_0)).trans hx438_0
           replace p438 := eq_true p438
           replace q438 := eq_true q438
           have hcz21_0 : wr.cell? ⟨gb436, 0, none⟩ = some (.int .u64 t433) := (kc_ BK436.out 0).trans rfl
           have hcz21_1 : wr.cell? ⟨gb436, 1, none⟩ = some (.int .u64 t434) := (kc_ BK436.out 1).trans rfl
           have hfz21_0 := kf_ BK436.out 0
           have hfz21_1 := kf_ BK436.out 1
           go_wp2
           go_roundg k2
           case measure => have := HJ4.out; have := HK2.out; omega
           case rel => exact ⟨(x10_2), (wrap64 (x29_2 + 1)), (by first | rfl | (simp; done) | (simp [*]; done)), H', ⟨by have := HJ4.out; have := HK2.out; omega⟩, ⟨rl_ HO_10⟩, ⟨kl_ BK436⟩, ⟨by repeat (first | (with_reducible first | exact HB.out | apply ba_ | apply bn_ | apply bd_ | refine below_set ?_ GE436.out) | exact HB.out)⟩⟩
         ·rw [if_neg c14] at H
          exact absurd H (by simp)
        ·rw [if_neg c13] at H
         exact absurd H (by simp)
       ·rw [if_neg c12] at H
        have c12b0 := decide_eq_false c12
        clear c12
        simp only [some.injEq, Prod.mk.injEq] at H
        obtain ⟨rfl, rfl⟩ := H
        go_wp2
        go_ret2
        exact ⟨_, by first | rfl | (simp <;> rfl) | (simp [*] <;> rfl), by (with_reducible repeat (first | apply Kd.R_alloc | apply Kd.R_drewN | apply Kd.R_drew)); exact HO_10.out, by repeat (first | (with_reducible first | exact HB.out | apply ba_ | apply bn_ | apply bd_ | refine below_set ?_ GE436.out) | exact HB.out)⟩
mutual
def medlarref09_Down.l0 : Nat → Int → List Int → Int → List Int → Int → Int → Option (Int × Int)
  | 0, _, _, _, _, _, _ => none
  | k + 1, x0, x8, x10, x43, x44, x45 => if x45 < x44 then (if 0 ≤ x45 then (if x45 < (x43.length : Int) then (medlarref09_Down.l1 k x0 x8 x10 (rd x43 x45) true x43 x44 x45 x8 (x8.length : Int) 0) else (none)) else (none)) else (some (x10, 0))
def medlarref09_Down.l1 : Nat → Int → List Int → Int → Int → Bool → List Int → Int → Int → List Int → Int → Int → Option (Int × Int)
  | 0, _, _, _, _, _, _, _, _, _, _, _ => none
  | k + 1, x0, x8, x10, x14, x15, x43, x44, x45, x49, x50, x51 => if x51 < x50 then (if 0 ≤ x51 then (if x51 < (x49.length : Int) then ((medlarref01_Leaf.f k x0 (rd x49 x51)).bind fun bt454 => (if x15 = true then ((medlarref01_Is.f k x14 bt454.1).bind fun t456 => (medlarref09_Down.l1 k x0 x8 x10 x14 t456 x43 x44 x45 x49 x50 (wrap64 (x51 + 1)))) else (medlarref09_Down.l1 k x0 x8 x10 x14 false x43 x44 x45 x49 x50 (wrap64 (x51 + 1))))) else (none)) else (none)) else (if x15 = true then (if x14 > x10 then (medlarref09_Down.l0 k x0 x8 x14 x43 x44 (wrap64 (x45 + 1))) else (medlarref09_Down.l0 k x0 x8 x10 x43 x44 (wrap64 (x45 + 1)))) else (medlarref09_Down.l0 k x0 x8 x10 x43 x44 (wrap64 (x45 + 1))))
end
def medlarref09_Down.f (k : Nat) (a0 : Int) (l1 : List Int) (a2 : Int) : Option (Int × Int) := (medlarref02_Below.f k a0 l1 a2).bind fun bt442 => (if bt442.2 = 0 then (if (bt442.1.length : Int) = 0 then (some (0, 4)) else (if 0 < (bt442.1.length : Int) then ((medlarref01_Leaf.f k a0 (rd bt442.1 0)).bind fun bt447 => ((medlarref01_Chain.f k bt447.1).bind fun t449 => (medlarref09_Down.l0 k a0 bt442.1 a2 t449 (t449.length : Int) 0))) else (none))) else (some (0, bt442.2)))
set_option maxHeartbeats 8000000 in
set_option maxRecDepth 100000 in
theorem medlarref09_Down.calls (k : Nat) (a0 : Int) (A1 : Option Addr) (c1 : Nat) (l1 : List Int) (a2 : Int) (r1 : Int) (r2 : Int) (w : World) (hr1 : Kd.C (Kd.int .u64) w A1 l1.length l1) (hc1 : l1.length ≤ c1) (h : medlarref09_Down.f k a0 l1 a2 = some (r1, r2)) :
   Calls Tryz.prog 53 #[.int .i64 a0, .slice A1 l1.length c1, .int .u64 a2] w fun e w' => e = .returned (.tuple #[.int .u64 r1, .int .i64 r2]) ∧ Below w.heap.size w w' := by
  have HR1 := ak_ hr1
  have HC1 := ak_ hc1
  clear hr1 hc1
  have HB := ak_ (Below.refl w.heap.size w)
  have H : ((medlarref02_Below.f k a0 l1 a2).bind fun bt442 => (if bt442.2 = 0 then (if (bt442.1.length : Int) = 0 then (some (0, 4)) else (if 0 < (bt442.1.length : Int) then ((medlarref01_Leaf.f k a0 (rd bt442.1 0)).bind fun bt447 => ((medlarref01_Chain.f k bt447.1).bind fun t449 => (medlarref09_Down.l0 k a0 bt442.1 a2 t449 (t449.length : Int) 0))) else (none))) else (some (0, bt442.2)))) = some (r1, r2) := h
  clear h
  replace H := bind_eq_some_iff.mp H
  obtain ⟨⟨t442, t443⟩, A40, H⟩ := H
  replace H : (if t443 = 0 then (if (t442.length : Int) = 0 then (some (0, 4)) else (if 0 < (t442.length : Int) then ((medlarref01_Leaf.f k a0 (rd t442 0)).bind fun bt447 => ((medlarref01_Chain.f k bt447.1).bind fun t449 => (medlarref09_Down.l0 k a0 t442 a2 t449 (t449.length : Int) 0))) else (none))) else (some (0, t443))) = some (r1, r2) := H
  have A4 := ak_ A40
  clear A40
  by_cases c5 : t443 = 0
  ·rw [if_pos c5] at H
   have c5b0 : (t443 == 0) = true := beq_iff_eq.mpr c5
   have c5b1 : (t443 != 0) = false := bne_eq_false_iff_eq.mpr c5
   clear c5
   by_cases c6 : (t442.length : Int) = 0
   ·rw [if_pos c6] at H
    have c6b0 : ((t442.length : Int) == 0) = true := beq_iff_eq.mpr c6
    have c6b1 : ((t442.length : Int) != 0) = false := bne_eq_false_iff_eq.mpr c6
    clear c6
    simp only [some.injEq, Prod.mk.injEq] at H
    obtain ⟨rfl, rfl⟩ := H
    go_enter func53, ntmps53
    go_wp2_with (first | ((with_reducible refine gate_callee (f := 81) rfl ?_); refine goesL_ (some 24) rfl rfl func81 (by kernel_rfl) rfl #[.int .i64 a0, .slice A1 l1.length c1, .int .u64 a2] rfl (by (try simp only [map_toArray, map_cons, map_nil]); first | done | rfl) ?_; (with_reducible refine (medlarref02_Below.calls k a0 _ _ l1 a2 t442 t443 _ ?side1 ?side2 A4.out).mono ?_); (case side1 => repeat (first | exact HR1.out | (with_reducible refine Kd.C_alloc ?_ _) | (with_reducible refine Kd.C_drewN ?_ _) | (with_reducible refine Kd.C_drew ?_))); (case side2 => exact HC1.out); rintro e w7 ⟨v444, rfl, ho0, hb⟩; refine ⟨_, rfl, ?_⟩; have n0_ := ak_ (Kd.R_lower ho0 (bz_ (bl_ HB))); have n1_ := ak_ (bt_ (bl_ HB) hb); clear HB; have HO445 := n0_; have HB := n1_; clear n0_ n1_; (try clear hb); (try clear hk); (try clear ho0); obtain ⟨Ao8, co8, eo8⟩ := Kd.R_slice HO445.out; subst eo8))
    go_ret2
    exact ⟨by first | rfl | (simp <;> rfl) | (simp [*] <;> rfl), bl_ HB⟩
   ·rw [if_neg c6] at H
    have c6b0 : ((t442.length : Int) == 0) = false := beq_eq_false_iff_ne.mpr c6
    have c6b1 : ((t442.length : Int) != 0) = true := bne_iff_ne.mpr c6
    have c6b2 : ¬ (t442 = []) := fun h_ => c6 (by rw [h_]; rfl)
    by_cases c9 : 0 < (t442.length : Int)
    ·rw [if_pos c9] at H
     have c9b0 := decide_eq_true c9
     have c9b1 : decide (0 < t442.length) = true := decide_eq_true (by omega)
     clear c9
     replace H := bind_eq_some_iff.mp H
     obtain ⟨⟨t447, t448⟩, A100, H⟩ := H
     replace H : ((medlarref01_Chain.f k t447).bind fun t449 => (medlarref09_Down.l0 k a0 t442 a2 t449 (t449.length : Int) 0)) = some (r1, r2) := H
     have A10 := ak_ A100
     clear A100
     replace H := bind_eq_some_iff.mp H
     obtain ⟨t449, A110, H⟩ := H
     replace H : (medlarref09_Down.l0 k a0 t442 a2 t449 (t449.length : Int) 0) = some (r1, r2) := H
     have A11 := ak_ A110
     clear A110
     have H' := ak_ H
     clear H
     go_enter func53, ntmps53
     go_wp2_with (first | ((with_reducible refine gate_callee (f := 81) rfl ?_); refine goesL_ (some 24) rfl rfl func81 (by kernel_rfl) rfl #[.int .i64 a0, .slice A1 l1.length c1, .int .u64 a2] rfl (by (try simp only [map_toArray, map_cons, map_nil]); first | done | rfl) ?_; (with_reducible refine (medlarref02_Below.calls k a0 _ _ l1 a2 t442 t443 _ ?side1 ?side2 A4.out).mono ?_); (case side1 => repeat (first | exact HR1.out | (with_reducible refine Kd.C_alloc ?_ _) | (with_reducible refine Kd.C_drewN ?_ _) | (with_reducible refine Kd.C_drew ?_))); (case side2 => exact HC1.out); rintro e w12 ⟨v444, rfl, ho0, hb⟩; refine ⟨_, rfl, ?_⟩; have n0_ := ak_ (Kd.R_lower ho0 (bz_ (bl_ HB))); have n1_ := ak_ (bt_ (bl_ HB) hb); clear HB; have HO445 := n0_; have HB := n1_; clear n0_ n1_; (try clear hb); (try clear hk); (try clear ho0); obtain ⟨Ao13, co13, eo13⟩ := Kd.R_slice HO445.out; subst eo13; have p446 : 0 ≤ (0 : Int) := (by omega); have q446 : 0 < (t442.length : Int) := od_ (by first | (with_reducible assumption) | assumption); obtain ⟨ad446, e446, hx446_0⟩ := Kd.at_int (Kd.R_reads' HO445.out).2.2 0 p446 q446; cases e446; have qi446 : (0 < t442.length) = True := eq_true (by omega); (try rw [show ((0 : Int)).toNat = 0 from rfl] at hx446_0); (try rw [Addr.add_zero'] at hx446_0); replace p446 := eq_true p446; replace q446 := eq_true q446) | ((with_reducible refine gate_callee (f := 33) rfl ?_); refine goesL_ (some 39) rfl rfl func33 (by kernel_rfl) rfl #[.int .i64 a0, .int .u64 (rd t442 0)] rfl (by (try simp only [map_toArray, map_cons, map_nil]); first | done | rfl) ?_; (with_reducible refine (medlarref01_Leaf.calls k a0 (rd t442 0) t447 t448 _ A10.out).mono ?_); rintro e w' ⟨rfl, ⟨nd, rfl⟩⟩; refine ⟨_, rfl, ?_⟩) | ((with_reducible refine gate_callee (f := 34) rfl ?_); refine goesL_ (some 43) rfl rfl func34 (by kernel_rfl) rfl #[.int .u64 t447] rfl (by (try simp only [map_toArray, map_cons, map_nil]); first | done | rfl) ?_; (with_reducible refine (medlarref01_Chain.calls k t447 t449 _ A11.out).mono ?_); rintro e w14 ⟨v450, rfl, ho0, hb⟩; refine ⟨_, rfl, ?_⟩; have n0_ := ak_ (Kd.R_elder' (rl_ HO445) (Kd.R_base ho0) hb); have n1_ := ak_ (Kd.R_lower (Kd.R_new' ho0 (Kd.R_lt (rl_ HO445))) (bz_ (bl_ HB))); have n2_ := ak_ (bt_ (bl_ HB) hb); clear HO445; clear HB; have HO445 := n0_; have HO451 := n1_; have HB := n2_; clear n0_ n1_ n2_; (try clear hb); (try clear hk); (try clear ho0); obtain ⟨Ao15, co15, eo15⟩ := Kd.R_slice HO451.out; subst eo15))
     go_loopg [10, 45] k (fun kq v10 v45 w' => ∃ (x10_1 : Int) (x45_1 : Int), v10 = .int .u64 x10_1 ∧ v45 = .int .i64 x45_1 ∧ Aside0 (medlarref09_Down.l0 kq a0 t442 x10_1 t449 (t449.length : Int) x45_1 = some (r1, r2)) ∧ Aside0 (kq ≤ k) ∧ Aside0 (Kd.R (Kd.int .u64) 23 w' w.heap.size (fun k_ => some k_ ≠ ((.slice Ao15 t449.length co15) : Value).ownBlock) (.slice (some ad446) t442.length co13) t442) ∧ Aside0 (Kd.R (Kd.int .u64) 23 w' w.heap.size (fun k_ => some k_ ≠ ((.slice (some ad446) t442.length co13) : Value).ownBlock) (.slice Ao15 t449.length co15) t449) ∧ Aside0 (Below w.heap.size w w'))
     case atStart => exact ⟨(a2), (0), (by first | rfl | (simp; done) | (simp [*]; done)), (by first | rfl | (simp; done) | (simp [*]; done)), H', ⟨Nat.le_refl _⟩, ⟨by (with_reducible repeat (first | apply Kd.R_alloc | apply Kd.R_drewN | apply Kd.R_drew)); exact Kd.R_mono HO445.out (fun _ hk => hk.2)⟩, ⟨by (with_reducible repeat (first | apply Kd.R_alloc | apply Kd.R_drewN | apply Kd.R_drew)); exact Kd.R_mono HO451.out (fun _ hk => hk.2)⟩, ⟨bl_ HB⟩⟩
     case round =>
      clear H'
      try clear c1
      try clear p2
      try clear c3
      try clear p4
      try clear q4
      try clear hx4
      try clear qi4
      try clear c5
      try clear c5b0
      try clear c5b1
      try clear c6
      try clear c6b0
      try clear c6b1
      try clear c6b2
      try clear c8
      try clear c9
      try clear c9b0
      try clear c9b1
      try clear hx446_0
      try clear p446
      try clear q446
      obtain ⟨x10_1, x45_1, rfl, rfl, HA, HK1, HO_8, HO_43, HB⟩ := hrel
      cases gk with
      | zero => exact absurd HA.out (by simp [medlarref09_Down.l0])
      | succ k1 =>
       have H := HA.out
       clear HA
       simp only [medlarref09_Down.l0] at H
       by_cases c16 : x45_1 < (t449.length : Int)
       ·rw [if_pos c16] at H
        have c16b0 := decide_eq_true c16
        clear c16
        by_cases c17 : 0 ≤ x45_1
        ·rw [if_pos c17] at H
         have c17b0 := decide_eq_true c17
         clear c17
         by_cases c18 : x45_1 < (t449.length : Int)
         ·rw [if_pos c18] at H
          have c18b0 := decide_eq_true c18
          clear c18
          have H' := ak_ H
          clear H
          have p452 : 0 ≤ (x45_1 : Int) := od_ (by first | (with_reducible assumption) | assumption)
          have q452 : x45_1 < (t449.length : Int) := od_ (by first | (with_reducible assumption) | assumption)
          obtain ⟨ad452, e452, hx452_0⟩ := Kd.at_int (Kd.R_reads' HO_43.out).2.2 x45_1 p452 q452
          cases e452
          replace p452 := eq_true p452
          replace q452 := eq_true q452
          go_wp2
          go_loopg [15, 51] k1 (fun kq v15 v51 w' => ∃ (x15_2 : Bool) (x51_2 : Int), v15 = .bool x15_2 ∧ v51 = .int .i64 x51_2 ∧ Aside0 (medlarref09_Down.l1 kq a0 t442 x10_1 (rd t449 x45_1) x15_2 t449 (t449.length : Int) x45_1 t442 (t442.length : Int) x51_2 = some (r1, r2)) ∧ Aside0 (kq ≤ k1) ∧ Aside0 (Kd.R (Kd.int .u64) 23 w' w.heap.size (fun k_ => some k_ ≠ ((.slice (some ad452) t449.length co15) : Value).ownBlock) (.slice (some ad446) t442.length co13) t442) ∧ Aside0 (Kd.R (Kd.int .u64) 23 w' w.heap.size (fun k_ => some k_ ≠ ((.slice (some ad446) t442.length co13) : Value).ownBlock ∧ some k_ ≠ ((.slice (some ad446) t442.length co13) : Value).ownBlock) (.slice (some ad452) t449.length co15) t449) ∧ Aside0 (Kd.R (Kd.int .u64) 23 w' w.heap.size (fun k_ => some k_ ≠ ((.slice (some ad452) t449.length co15) : Value).ownBlock) (.slice (some ad446) t442.length co13) t442) ∧ Aside0 (Below w.heap.size w w'))
          case atStart => exact ⟨(true), (0), (by first | rfl | (simp; done) | (simp [*]; done)), (by first | rfl | (simp; done) | (simp [*]; done)), H', ⟨Nat.le_refl _⟩, ⟨rl_ HO_8⟩, ⟨by (with_reducible repeat (first | apply Kd.R_alloc | apply Kd.R_drewN | apply Kd.R_drew)); exact Kd.R_mono HO_43.out (fun _ hk => ⟨hk, hk⟩)⟩, ⟨rl_ HO_8⟩, ⟨bl_ HB⟩⟩
          case round =>
           clear H'
           try clear c1
           try clear p2
           try clear c3
           try clear p4
           try clear q4
           try clear hx4
           try clear qi4
           try clear c5
           try clear c5b0
           try clear c5b1
           try clear c6
           try clear c6b0
           try clear c6b1
           try clear c6b2
           try clear c8
           try clear c9
           try clear c9b0
           try clear c9b1
           try clear c16
           try clear c16b0
           try clear c17
           try clear c17b0
           try clear c18
           try clear c18b0
           try clear hx446_0
           try clear hx452_0
           try clear p2
           try clear p4
           try clear p446
           try clear p452
           try clear q4
           try clear q446
           try clear q452
           obtain ⟨x15_2, x51_2, rfl, rfl, HA, HK2, HO_8, HO_43, HO_49, HB⟩ := hrel
           cases gk with
           | zero => exact absurd HA.out (by simp [medlarref09_Down.l1])
           | succ k2 =>
            have H := HA.out
            clear HA
            simp only [medlarref09_Down.l1] at H
            by_cases c19 : x51_2 < (t442.length : Int)
            ·rw [if_pos c19] at H
             have c19b0 := decide_eq_true c19
             clear c19
             by_cases c20 : 0 ≤ x51_2
             ·rw [if_pos c20] at H
              have c20b0 := decide_eq_true c20
              clear c20
              by_cases c21 : x51_2 < (t442.length : Int)
              ·rw [if_pos c21] at H
               have c21b0 := decide_eq_true c21
               clear c21
               replace H := bind_eq_some_iff.mp H
               obtain ⟨⟨t454, t455⟩, A220, H⟩ := H
               replace H : (if x15_2 = true then ((medlarref01_Is.f k2 (rd t449 x45_1) t454).bind fun t456 => (medlarref09_Down.l1 k2 a0 t442 x10_1 (rd t449 x45_1) t456 t449 (t449.length : Int) x45_1 t442 (t442.length : Int) (wrap64 (x51_2 + 1)))) else (medlarref09_Down.l1 k2 a0 t442 x10_1 (rd t449 x45_1) false t449 (t449.length : Int) x45_1 t442 (t442.length : Int) (wrap64 (x51_2 + 1)))) = some (r1, r2) := H
               have A22 := ak_ A220
               clear A220
               by_cases c23 : x15_2 = true
               ·subst c23
                have H1 : ((medlarref01_Is.f k2 (rd t449 x45_1) t454).bind fun t456 => (medlarref09_Down.l1 k2 a0 t442 x10_1 (rd t449 x45_1) t456 t449 (t449.length : Int) x45_1 t442 (t442.length : Int) (wrap64 (x51_2 + 1)))) = some (r1, r2) := by rw [if_pos rfl] at H; exact H
                clear H
                have H := H1
                clear H1
                replace H := bind_eq_some_iff.mp H
                obtain ⟨t456, A240, H⟩ := H
                replace H : (medlarref09_Down.l1 k2 a0 t442 x10_1 (rd t449 x45_1) t456 t449 (t449.length : Int) x45_1 t442 (t442.length : Int) (wrap64 (x51_2 + 1))) = some (r1, r2) := H
                have A24 := ak_ A240
                clear A240
                have H' := ak_ H
                clear H
                have p453 : 0 ≤ (x51_2 : Int) := od_ (by first | (with_reducible assumption) | assumption)
                have q453 : x51_2 < (t442.length : Int) := od_ (by first | (with_reducible assumption) | assumption)
                obtain ⟨ad453, e453, hx453_0⟩ := Kd.at_int (Kd.R_reads' HO_49.out).2.2 x51_2 p453 q453
                obtain rfl : ad446 = ad453 := (by injection e453)
                replace p453 := eq_true p453
                replace q453 := eq_true q453
                go_wp2_with (first | ((with_reducible refine gate_callee (f := 33) rfl ?_); refine goesL_ (some 58) rfl rfl func33 (by kernel_rfl) rfl #[.int .i64 a0, .int .u64 (rd t442 x51_2)] rfl (by (try simp only [map_toArray, map_cons, map_nil]); first | done | rfl) ?_; (with_reducible refine (medlarref01_Leaf.calls k2 a0 (rd t442 x51_2) t454 t455 _ A22.out).mono ?_); rintro e w' ⟨rfl, ⟨nd, rfl⟩⟩; refine ⟨_, rfl, ?_⟩) | (go_at_call 62; (with_reducible refine (medlarref01_Is.calls k2 (rd t449 x45_1) t454 t456 _ A24.out).mono ?_); rintro e w25 ⟨rfl, hb⟩; have n0_ := ak_ (Kd.R_below (rl_ HO_8) hb); have n1_ := ak_ (Kd.R_below (rl_ HO_43) hb); have n2_ := ak_ (Kd.R_below (rl_ HO_49) hb); have n3_ := ak_ (bt_ (bl_ HB) hb); clear HO_8; clear HO_43; clear HO_49; clear HB; have HO_8 := n0_; have HO_43 := n1_; have HO_49 := n2_; have HB := n3_; clear n0_ n1_ n2_ n3_; (try clear hb); (try clear hk)))
                go_roundg k2
                case measure => have := HK1.out; have := HK2.out; omega
                case rel => exact ⟨(t456), (wrap64 (x51_2 + 1)), (by first | rfl | (simp; done) | (simp [*]; done)), (by first | rfl | (simp; done) | (simp [*]; done)), H', ⟨by have := HK1.out; have := HK2.out; omega⟩, ⟨rl_ HO_8⟩, ⟨rl_ HO_43⟩, ⟨rl_ HO_49⟩, ⟨bl_ HB⟩⟩
               ·replace c23 := Bool.eq_false_iff.mpr c23
                subst c23
                have H1 : (medlarref09_Down.l1 k2 a0 t442 x10_1 (rd t449 x45_1) false t449 (t449.length : Int) x45_1 t442 (t442.length : Int) (wrap64 (x51_2 + 1))) = some (r1, r2) := by rw [if_neg (show ¬ (false = true) by decide)] at H; exact H
                clear H
                have H := H1
                clear H1
                have H' := ak_ H
                clear H
                have p453 : 0 ≤ (x51_2 : Int) := od_ (by first | (with_reducible assumption) | assumption)
                have q453 : x51_2 < (t442.length : Int) := od_ (by first | (with_reducible assumption) | assumption)
                obtain ⟨ad453, e453, hx453_0⟩ := Kd.at_int (Kd.R_reads' HO_49.out).2.2 x51_2 p453 q453
                obtain rfl : ad446 = ad453 := (by injection e453)
                replace p453 := eq_true p453
                replace q453 := eq_true q453
                go_wp2_with (first | ((with_reducible refine gate_callee (f := 33) rfl ?_); refine goesL_ (some 58) rfl rfl func33 (by kernel_rfl) rfl #[.int .i64 a0, .int .u64 (rd t442 x51_2)] rfl (by (try simp only [map_toArray, map_cons, map_nil]); first | done | rfl) ?_; (with_reducible refine (medlarref01_Leaf.calls k2 a0 (rd t442 x51_2) t454 t455 _ A22.out).mono ?_); rintro e w' ⟨rfl, ⟨nd, rfl⟩⟩; refine ⟨_, rfl, ?_⟩))
                go_roundg k2
                case measure => have := HK1.out; have := HK2.out; omega
                case rel => exact ⟨(false), (wrap64 (x51_2 + 1)), (by first | rfl | (simp; done) | (simp [*]; done)), (by first | rfl | (simp; done) | (simp [*]; done)), H', ⟨by have := HK1.out; have := HK2.out; omega⟩, ⟨rl_ HO_8⟩, ⟨rl_ HO_43⟩, ⟨rl_ HO_49⟩, ⟨bl_ HB⟩⟩
              ·rw [if_neg c21] at H
               exact absurd H (by simp)
             ·rw [if_neg c20] at H
              exact absurd H (by simp)
            ·rw [if_neg c19] at H
             have c19b0 := decide_eq_false c19
             clear c19
             by_cases c26 : x15_2 = true
             ·subst c26
              have H1 : (if (rd t449 x45_1) > x10_1 then (medlarref09_Down.l0 k2 a0 t442 (rd t449 x45_1) t449 (t449.length : Int) (wrap64 (x45_1 + 1))) else (medlarref09_Down.l0 k2 a0 t442 x10_1 t449 (t449.length : Int) (wrap64 (x45_1 + 1)))) = some (r1, r2) := by rw [if_pos rfl] at H; exact H
              clear H
              have H := H1
              clear H1
              by_cases c27 : (rd t449 x45_1) > x10_1
              ·rw [if_pos c27] at H
               have c27b0 : decide (x10_1 < (rd t449 x45_1)) = true := decide_eq_true c27
               clear c27
               have H' := ak_ H
               clear H
               go_wp2
               go_roundg k2
               case measure => have := HK1.out; have := HK2.out; omega
               case rel => exact ⟨((rd t449 x45_1)), (wrap64 (x45_1 + 1)), (by first | rfl | (simp; done) | (simp [*]; done)), (by first | rfl | (simp; done) | (simp [*]; done)), H', ⟨by have := HK1.out; have := HK2.out; omega⟩, ⟨rl_ HO_8⟩, ⟨by (with_reducible repeat (first | apply Kd.R_alloc | apply Kd.R_drewN | apply Kd.R_drew)); exact Kd.R_mono HO_43.out (fun _ hk => hk.1)⟩, ⟨bl_ HB⟩⟩
              ·rw [if_neg c27] at H
               have c27b0 : decide (x10_1 < (rd t449 x45_1)) = false := decide_eq_false c27
               clear c27
               have H' := ak_ H
               clear H
               go_wp2
               go_roundg k2
               case measure => have := HK1.out; have := HK2.out; omega
               case rel => exact ⟨(x10_1), (wrap64 (x45_1 + 1)), (by first | rfl | (simp; done) | (simp [*]; done)), (by first | rfl | (simp; done) | (simp [*]; done)), H', ⟨by have := HK1.out; have := HK2.out; omega⟩, ⟨rl_ HO_8⟩, ⟨by (with_reducible repeat (first | apply Kd.R_alloc | apply Kd.R_drewN | apply Kd.R_drew)); exact Kd.R_mono HO_43.out (fun _ hk => hk.1)⟩, ⟨bl_ HB⟩⟩
             ·replace c26 := Bool.eq_false_iff.mpr c26
              subst c26
              have H1 : (medlarref09_Down.l0 k2 a0 t442 x10_1 t449 (t449.length : Int) (wrap64 (x45_1 + 1))) = some (r1, r2) := by rw [if_neg (show ¬ (false = true) by decide)] at H; exact H
              clear H
              have H := H1
              clear H1
              have H' := ak_ H
              clear H
              go_wp2
              go_roundg k2
              case measure => have := HK1.out; have := HK2.out; omega
              case rel => exact ⟨(x10_1), (wrap64 (x45_1 + 1)), (by first | rfl | (simp; done) | (simp [*]; done)), (by first | rfl | (simp; done) | (simp [*]; done)), H', ⟨by have := HK1.out; have := HK2.out; omega⟩, ⟨rl_ HO_8⟩, ⟨by (with_reducible repeat (first | apply Kd.R_alloc | apply Kd.R_drewN | apply Kd.R_drew)); exact Kd.R_mono HO_43.out (fun _ hk => hk.1)⟩, ⟨bl_ HB⟩⟩
         ·rw [if_neg c18] at H
          exact absurd H (by simp)
        ·rw [if_neg c17] at H
         exact absurd H (by simp)
       ·rw [if_neg c16] at H
        have c16b0 := decide_eq_false c16
        clear c16
        simp only [some.injEq, Prod.mk.injEq] at H
        obtain ⟨rfl, rfl⟩ := H
        go_wp2
        go_ret2
        exact ⟨by first | rfl | (simp <;> rfl) | (simp [*] <;> rfl), bl_ HB⟩
    ·rw [if_neg c9] at H
     exact absurd H (by simp)
  ·rw [if_neg c5] at H
   have c5b0 : (t443 == 0) = false := beq_eq_false_iff_ne.mpr c5
   have c5b1 : (t443 != 0) = true := bne_iff_ne.mpr c5
   simp only [some.injEq, Prod.mk.injEq] at H
   obtain ⟨rfl, rfl⟩ := H
   go_enter func53, ntmps53
   go_wp2_with (first | ((with_reducible refine gate_callee (f := 81) rfl ?_); refine goesL_ (some 24) rfl rfl func81 (by kernel_rfl) rfl #[.int .i64 a0, .slice A1 l1.length c1, .int .u64 a2] rfl (by (try simp only [map_toArray, map_cons, map_nil]); first | done | rfl) ?_; (with_reducible refine (medlarref02_Below.calls k a0 _ _ l1 a2 t442 t443 _ ?side1 ?side2 A4.out).mono ?_); (case side1 => repeat (first | exact HR1.out | (with_reducible refine Kd.C_alloc ?_ _) | (with_reducible refine Kd.C_drewN ?_ _) | (with_reducible refine Kd.C_drew ?_))); (case side2 => exact HC1.out); rintro e w28 ⟨v444, rfl, ho0, hb⟩; refine ⟨_, rfl, ?_⟩; have n0_ := ak_ (Kd.R_lower ho0 (bz_ (bl_ HB))); have n1_ := ak_ (bt_ (bl_ HB) hb); clear HB; have HO445 := n0_; have HB := n1_; clear n0_ n1_; (try clear hb); (try clear hk); (try clear ho0)))
   go_ret2
   exact ⟨by first | rfl | (simp <;> rfl) | (simp [*] <;> rfl), bl_ HB⟩
mutual
def medlarref11_Cover.l0 : Nat → Int → List Int → List Int → List Int → Int → Int → Option ((List (S25)) × Int)
  | 0, _, _, _, _, _, _ => none
  | k + 1, x0, x1, x8, x31, x32, x33 => if x33 < x32 then (if 0 ≤ x33 then (if x33 < (x31.length : Int) then ((some (([IntKind.u64.wrap (2 * (rd x31 x33)), IntKind.u64.wrap ((IntKind.u64.wrap (2 * (rd x31 x33))) + 1)] : List Int) : List Int)).bind fun y468 => (if x8.length + y468.length < 17592186044416 then (medlarref11_Cover.l0 k x0 x1 (x8 ++ y468) x31 x32 (wrap64 (x33 + 1))) else (none))) else (none)) else (none)) else (medlarref11_Cover.l1 k x0 x1 ([] : List (S25)) x8 (x8.length : Int) 0)
def medlarref11_Cover.l1 : Nat → Int → List Int → List (S25) → List Int → Int → Int → Option ((List (S25)) × Int)
  | 0, _, _, _, _, _, _ => none
  | k + 1, x0, x1, x11, x46, x47, x48 => if x48 < x47 then (if 0 ≤ x48 then (if x48 < (x46.length : Int) then ((medlarref09_Down.f k x0 x1 (rd x46 x48)).bind fun bt475 => (if bt475.1 = (rd x46 x48) then (medlarref11_Cover.l1 k x0 x1 x11 x46 x47 (wrap64 (x48 + 1))) else (if x11.length < 8796093022208 then (medlarref11_Cover.l1 k x0 x1 (x11 ++ [(⟨rd x46 x48, bt475.1⟩ : S25)]) x46 x47 (wrap64 (x48 + 1))) else (none)))) else (none)) else (none)) else ((medlarref11_Order.f k x11).bind fun t480 => (some (t480, 0)))
end
def medlarref11_Cover.f (k : Nat) (a0 : Int) (l1 : List Int) : Option ((List (S25)) × Int) := (medlarref09_Forks.f k a0 l1).bind fun bt457 => (if bt457.2 = 0 then (if (l1.length : Int) = 0 then (some ((([(⟨1, 0⟩ : S25)] : List (S25))), 0)) else (medlarref11_Cover.l0 k a0 l1 (([1] : List Int)) bt457.1 (bt457.1.length : Int) 0)) else (some (([] : List (S25)), bt457.2)))
set_option maxHeartbeats 8000000 in
set_option maxRecDepth 100000 in
theorem medlarref11_Cover.calls (k : Nat) (a0 : Int) (A1 : Option Addr) (c1 : Nat) (l1 : List Int) (r1 : List (S25)) (r2 : Int) (w : World) (hr1 : Kd.C (Kd.int .u64) w A1 l1.length l1) (hc1 : l1.length ≤ c1) (h : medlarref11_Cover.f k a0 l1 = some (r1, r2)) :
   Calls Tryz.prog 21 #[.int .i64 a0, .slice A1 l1.length c1] w fun e w' => ∃ v0_ : Value, e = .returned (.tuple #[v0_, .int .i64 r2]) ∧ Kd.R k25 25 w' w.heap.size (fun _ => True) v0_ r1 ∧ Below w.heap.size w w' := by
  have hu25 := underlying25
  have HR1 := ak_ hr1
  have HC1 := ak_ hc1
  clear hr1 hc1
  have HB := ak_ (Below.refl w.heap.size w)
  have H : ((medlarref09_Forks.f k a0 l1).bind fun bt457 => (if bt457.2 = 0 then (if (l1.length : Int) = 0 then (some ((([(⟨1, 0⟩ : S25)] : List (S25))), 0)) else (medlarref11_Cover.l0 k a0 l1 (([1] : List Int)) bt457.1 (bt457.1.length : Int) 0)) else (some (([] : List (S25)), bt457.2)))) = some (r1, r2) := h
  clear h
  replace H := bind_eq_some_iff.mp H
  obtain ⟨⟨t457, t458⟩, A30, H⟩ := H
  replace H : (if t458 = 0 then (if (l1.length : Int) = 0 then (some ((([(⟨1, 0⟩ : S25)] : List (S25))), 0)) else (medlarref11_Cover.l0 k a0 l1 (([1] : List Int)) t457 (t457.length : Int) 0)) else (some (([] : List (S25)), t458))) = some (r1, r2) := H
  have A3 := ak_ A30
  clear A30
  by_cases c4 : t458 = 0
  ·rw [if_pos c4] at H
   have c4b0 : (t458 == 0) = true := beq_iff_eq.mpr c4
   have c4b1 : (t458 != 0) = false := bne_eq_false_iff_eq.mpr c4
   clear c4
   by_cases c5 : (l1.length : Int) = 0
   ·rw [if_pos c5] at H
    have c5b0 : ((l1.length : Int) == 0) = true := beq_iff_eq.mpr c5
    have c5b1 : ((l1.length : Int) != 0) = false := bne_eq_false_iff_eq.mpr c5
    clear c5
    obtain ⟨y461, hy461⟩ : ∃ y_ : List (S25), y_ = (([(⟨1, 0⟩ : S25)] : List (S25))) := ⟨_, rfl⟩
    replace H : (some (y461, 0)) = some (r1, r2) := by first | (rw [hy461]; with_reducible exact H) | (have H2_ := (Option.bind_some _ _).symm.trans H; rw [hy461]; with_reducible exact H2_) | (have H2_ := (Option.bind_some _ _).symm.trans H; with_reducible exact H2_) | with_reducible exact H | (rw [hy461]; exact H) | exact H
    have Ny461 := ak_ hy461
    clear hy461
    simp only [some.injEq, Prod.mk.injEq] at H
    obtain ⟨rfl, rfl⟩ := H
    go_enter func21, ntmps21
    go_wp2_with (first | ((with_reducible refine gate_callee (f := 52) rfl ?_); refine goesL_ (some 19) rfl rfl func52 (by kernel_rfl) rfl #[.int .i64 a0, .slice A1 l1.length c1] rfl (by (try simp only [map_toArray, map_cons, map_nil]); first | done | rfl) ?_; (with_reducible refine (medlarref09_Forks.calls k a0 _ _ l1 t457 t458 _ ?side1 ?side2 A3.out).mono ?_); (case side1 => repeat (first | exact HR1.out | (with_reducible refine Kd.C_alloc ?_ _) | (with_reducible refine Kd.C_drewN ?_ _) | (with_reducible refine Kd.C_drew ?_))); (case side2 => exact HC1.out); rintro e w6 ⟨v459, rfl, ho0, hb⟩; refine ⟨_, rfl, ?_⟩; have n0_ := ak_ (Kd.R_lower ho0 (bz_ (bl_ HB))); have n1_ := ak_ (bt_ (bl_ HB) hb); clear HB; have HO460 := n0_; have HB := n1_; clear n0_ n1_; (try clear hb); (try clear hk); (try clear ho0)) | ((with_reducible refine gate_dst (N := 29) rfl ?_); refine Kd.R_lit k25 _ 25 ?hg (N := 29) ?hd (xs := ([(⟨1, 0⟩ : S25)] : List (S25))) (inner := [.int .u64 1, .int .u64 0]) (ok := fun _ => True) (okp := fun _ => True) ?hr ?hp (fun _ hk => hk) trivial (Below.refl _ _) (Nat.le_refl _) (by simp) ?_; (case hd => rfl); (case hg => rfl); (case hr => first | (go_simp; done) | (go_simp; rfl)); (case hp => exact (Reps.c2 (show Kd.M k25 _ _ _ (⟨1, 0⟩ : S25) [.int .u64 1, .int .u64 0] from (k25_mkM _ _ _ (⟨1, 0⟩ : S25) )) (Reps.none _ _))); intro v462 w7 ho8 hb hg_ hnew_; clear hg_ hnew_; (first | rw [← Ny461.out] at ho8 | (simp only [Int.reduceToNat] at ho8; rw [← Ny461.out] at ho8)); have n0_ := ak_ (Kd.R_below (rl_ HO460) hb); have n1_ := ak_ (Kd.R_lower ho8 (bz_ (bl_ HB))); have n2_ := ak_ (bt_ (bl_ HB) hb); clear HO460; clear HB; have HO460 := n0_; have HO463 := n1_; have HB := n2_; clear n0_ n1_ n2_; clear hb ho8))
    go_ret2
    exact ⟨_, by first | rfl | (simp <;> rfl) | (simp [*] <;> rfl), by (with_reducible repeat (first | apply Kd.R_alloc | apply Kd.R_drewN | apply Kd.R_drew)); exact HO463.out, bl_ HB⟩
   ·rw [if_neg c5] at H
    have c5b0 : ((l1.length : Int) == 0) = false := beq_eq_false_iff_ne.mpr c5
    have c5b1 : ((l1.length : Int) != 0) = true := bne_iff_ne.mpr c5
    have c5b2 : ¬ (l1 = []) := fun h_ => c5 (by rw [h_]; rfl)
    obtain ⟨y464, hy464⟩ : ∃ y_ : List Int, y_ = (([1] : List Int)) := ⟨_, rfl⟩
    replace H : (medlarref11_Cover.l0 k a0 l1 y464 t457 (t457.length : Int) 0) = some (r1, r2) := by first | (rw [hy464]; with_reducible exact H) | (have H2_ := (Option.bind_some _ _).symm.trans H; rw [hy464]; with_reducible exact H2_) | (have H2_ := (Option.bind_some _ _).symm.trans H; with_reducible exact H2_) | with_reducible exact H | (rw [hy464]; exact H) | exact H
    have Ny464 := ak_ hy464
    clear hy464
    have H' := ak_ H
    clear H
    go_enter func21, ntmps21
    go_wp2_with (first | ((with_reducible refine gate_callee (f := 52) rfl ?_); refine goesL_ (some 19) rfl rfl func52 (by kernel_rfl) rfl #[.int .i64 a0, .slice A1 l1.length c1] rfl (by (try simp only [map_toArray, map_cons, map_nil]); first | done | rfl) ?_; (with_reducible refine (medlarref09_Forks.calls k a0 _ _ l1 t457 t458 _ ?side1 ?side2 A3.out).mono ?_); (case side1 => repeat (first | exact HR1.out | (with_reducible refine Kd.C_alloc ?_ _) | (with_reducible refine Kd.C_drewN ?_ _) | (with_reducible refine Kd.C_drew ?_))); (case side2 => exact HC1.out); rintro e w9 ⟨v459, rfl, ho0, hb⟩; refine ⟨_, rfl, ?_⟩; have n0_ := ak_ (Kd.R_lower ho0 (bz_ (bl_ HB))); have n1_ := ak_ (bt_ (bl_ HB) hb); clear HB; have HO460 := n0_; have HB := n1_; clear n0_ n1_; (try clear hb); (try clear hk); (try clear ho0)) | ((with_reducible refine gate_dst (N := 30) rfl ?_); refine Kd.R_lit (Kd.int .u64) _ 23 ?hg (N := 30) ?hd (xs := ([1] : List Int)) (inner := [.int .u64 1]) (ok := fun _ => True) (okp := fun _ => True) ?hr ?hp (fun _ hk => hk) trivial (Below.refl _ _) (Nat.le_refl _) (by simp) ?_; (case hd => rfl); (case hg => rfl); (case hr => first | (go_simp; done) | (go_simp; rfl)); (case hp => exact (Reps.one (show Kd.M (Kd.int .u64) _ _ _ 1 [.int .u64 1] from rfl) (Reps.none _ _))); intro v465 w10 ho11 hb hg_ hnew_; clear hg_ hnew_; (first | rw [← Ny464.out] at ho11 | (simp only [Int.reduceToNat] at ho11; rw [← Ny464.out] at ho11)); have n0_ := ak_ (Kd.R_elder' (rl_ HO460) (Kd.R_base ho11) hb); have n1_ := ak_ (Kd.R_lower (Kd.R_new' ho11 (Kd.R_lt (rl_ HO460))) (bz_ (bl_ HB))); have n2_ := ak_ (bt_ (bl_ HB) hb); clear HO460; clear HB; have HO460 := n0_; have HO466 := n1_; have HB := n2_; clear n0_ n1_ n2_; clear hb ho11; obtain ⟨Ao12, co12, eo12⟩ := Kd.R_slice HO460.out; subst eo12))
    go_loopg [8, 33] k (fun kq v8 v33 w' => ∃ (x8_1 : List Int) (x33_1 : Int), v33 = .int .i64 x33_1 ∧ Aside0 (medlarref11_Cover.l0 kq a0 l1 x8_1 t457 (t457.length : Int) x33_1 = some (r1, r2)) ∧ Aside0 (kq ≤ k) ∧ Aside0 (Kd.R (Kd.int .u64) 23 w' w.heap.size (fun k_ => some k_ ≠ ((.slice Ao12 t457.length co12) : Value).ownBlock) v8 x8_1) ∧ Aside0 (Kd.R (Kd.int .u64) 23 w' w.heap.size (fun k_ => some k_ ≠ (v8 : Value).ownBlock) (.slice Ao12 t457.length co12) t457) ∧ Aside0 (Below w.heap.size w w'))
    case atStart => exact ⟨(y464), (0), (by first | rfl | (simp; done) | (simp [*]; done)), H', ⟨Nat.le_refl _⟩, ⟨by (with_reducible repeat (first | apply Kd.R_alloc | apply Kd.R_drewN | apply Kd.R_drew)); exact Kd.R_mono HO466.out (fun _ hk => hk.2)⟩, ⟨by (with_reducible repeat (first | apply Kd.R_alloc | apply Kd.R_drewN | apply Kd.R_drew)); exact Kd.R_mono HO460.out (fun _ hk => hk.2)⟩, ⟨bl_ HB⟩⟩
    case round =>
     clear H'
     try clear c1
     try clear c2
     try clear p2
     try clear c4
     try clear c4b0
     try clear c4b1
     try clear c5
     try clear c5b0
     try clear c5b1
     try clear c5b2
     obtain ⟨x8_1, x33_1, rfl, HA, HK1, HO_8, HO_31, HB⟩ := hrel
     cases gk with
     | zero => exact absurd HA.out (by simp [medlarref11_Cover.l0])
     | succ k1 =>
      have H := HA.out
      clear HA
      simp only [medlarref11_Cover.l0] at H
      by_cases c13 : x33_1 < (t457.length : Int)
      ·rw [if_pos c13] at H
       have c13b0 := decide_eq_true c13
       clear c13
       by_cases c14 : 0 ≤ x33_1
       ·rw [if_pos c14] at H
        have c14b0 := decide_eq_true c14
        clear c14
        by_cases c15 : x33_1 < (t457.length : Int)
        ·rw [if_pos c15] at H
         have c15b0 := decide_eq_true c15
         clear c15
         obtain ⟨y468, hy468⟩ : ∃ y_ : List Int, y_ = (([IntKind.u64.wrap (2 * (rd t457 x33_1)), IntKind.u64.wrap ((IntKind.u64.wrap (2 * (rd t457 x33_1))) + 1)] : List Int)) := ⟨_, rfl⟩
         replace H : (if x8_1.length + y468.length < 17592186044416 then (medlarref11_Cover.l0 k1 a0 l1 (x8_1 ++ y468) t457 (t457.length : Int) (wrap64 (x33_1 + 1))) else (none)) = some (r1, r2) := by first | (rw [hy468]; with_reducible exact H) | (have H2_ := (Option.bind_some _ _).symm.trans H; rw [hy468]; with_reducible exact H2_) | (have H2_ := (Option.bind_some _ _).symm.trans H; with_reducible exact H2_) | with_reducible exact H | (rw [hy468]; exact H) | exact H
         have Ny468 := ak_ hy468
         clear hy468
         by_cases c16 : x8_1.length + y468.length < 17592186044416
         ·rw [if_pos c16] at H
          have LMc16 := ak_ c16
          clear c16
          obtain ⟨y471, hy471⟩ : ∃ y_ : List Int, y_ = (x8_1 ++ y468) := ⟨_, rfl⟩
          replace H : (medlarref11_Cover.l0 k1 a0 l1 y471 t457 (t457.length : Int) (wrap64 (x33_1 + 1))) = some (r1, r2) := by first | (rw [hy471]; with_reducible exact H) | (have H2_ := (Option.bind_some _ _).symm.trans H; rw [hy471]; with_reducible exact H2_) | (have H2_ := (Option.bind_some _ _).symm.trans H; with_reducible exact H2_) | with_reducible exact H | (rw [hy471]; exact H) | exact H
          have Ny471 := ak_ hy471
          clear hy471
          have H' := ak_ H
          clear H
          have p467 : 0 ≤ (x33_1 : Int) := od_ (by first | (with_reducible assumption) | assumption)
          have q467 : x33_1 < (t457.length : Int) := od_ (by first | (with_reducible assumption) | assumption)
          obtain ⟨ad467, e467, hx467_0⟩ := Kd.at_int (Kd.R_reads' HO_31.out).2.2 x33_1 p467 q467
          cases e467
          replace p467 := eq_true p467
          replace q467 := eq_true q467
          go_wp2_with (first | ((with_reducible refine gate_dst (N := 43) rfl ?_); refine Kd.R_lit (Kd.int .u64) _ 23 ?hg (N := 43) ?hd (xs := ([IntKind.u64.wrap (2 * (rd t457 x33_1)), IntKind.u64.wrap ((IntKind.u64.wrap (2 * (rd t457 x33_1))) + 1)] : List Int)) (inner := [.int .u64 (IntKind.u64.wrap (2 * (rd t457 x33_1))), .int .u64 (IntKind.u64.wrap ((IntKind.u64.wrap (2 * (rd t457 x33_1))) + 1))]) (ok := fun _ => True) (okp := fun _ => True) ?hr ?hp (fun _ hk => hk) trivial (Below.refl _ _) (Nat.le_refl _) (by simp) ?_; (case hd => rfl); (case hg => rfl); (case hr => first | (go_simp; done) | (go_simp; rfl)); (case hp => exact (Reps.one (show Kd.M (Kd.int .u64) _ _ _ (IntKind.u64.wrap (2 * (rd t457 x33_1))) [.int .u64 (IntKind.u64.wrap (2 * (rd t457 x33_1)))] from rfl) (Reps.one (show Kd.M (Kd.int .u64) _ _ _ (IntKind.u64.wrap ((IntKind.u64.wrap (2 * (rd t457 x33_1))) + 1)) [.int .u64 (IntKind.u64.wrap ((IntKind.u64.wrap (2 * (rd t457 x33_1))) + 1))] from rfl) (Reps.none _ _)))); intro v469 w17 ho18 hb hg_ hnew_; clear hg_ hnew_; (first | rw [← Ny468.out] at ho18 | (simp only [Int.reduceToNat] at ho18; rw [← Ny468.out] at ho18)); have n0_ := ak_ (Kd.R_elder' (rl_ HO_8) (Kd.R_base ho18) hb); have n1_ := ak_ (Kd.R_elder' (rl_ HO_31) (Kd.R_base ho18) hb); have n2_ := ak_ (Kd.R_lower (Kd.R_new' (Kd.R_new' ho18 (Kd.R_lt (rl_ HO_8))) (Kd.R_lt (rl_ HO_31))) (bz_ (bl_ HB))); have n3_ := ak_ (bt_ (bl_ HB) hb); clear HO_8; clear HO_31; clear HB; have HO_8 := n0_; have HO_31 := n1_; have HO470 := n2_; have HB := n3_; clear n0_ n1_ n2_ n3_; clear hb ho18; obtain ⟨Ao20, co20, eo20⟩ := Kd.R_slice HO470.out; subst eo20) | ((with_reducible refine gate_builtin (b := .append) (xs := #[.tmp 37, .tmp 43]) rfl ?_); at_builtin; refine Kd.R_append_rows (Kd.int .u64) (w0 := w) w.heap.size rfl (.tmp 37) (.tmp 43) 22 23 (.int .u64 0) 8 rfl underlying22 info23 rfl (by decide) (by omega) u8 x8_1 y468 _ _ _ (fun k_ => some k_ ≠ (.slice (some ad467) t457.length co12 : Value).ownBlock ∧ some k_ ≠ (.slice Ao20 y468.length co20 : Value).ownBlock) (fun _ => False) rfl rfl ?aO ?aR (fun _ _ h => h) (fun _ h => h.elim) ?aF ?aB ?aS ?aL ?_; (case aR => repeat (first | exact (Kd.R_reads' HO470.out).2.2 | (with_reducible refine Kd.C_alloc ?_ _) | (with_reducible refine Kd.C_drewN ?_ _) | (with_reducible refine Kd.C_drew ?_))); (case aB => exact (bl_ HB)); (case aF => exact (fun k_ hk => ⟨Kd.fresh' (Kd.R_lt (rl_ HO_31)) k_ hk, Kd.fresh' (Kd.R_lt (rl_ HO470)) k_ hk⟩)); (case aO => exact (rl_ HO_8)); (case aS => exact (bz_ (bl_ HB))); (case aL => have := LMc16.out; omega); intro v472 w19 ho hb hg hat; rw [← Ny471.out] at ho; have n0_ := ak_ (Kd.R_after (ok := (fun k_ => some k_ ≠ (.slice Ao20 y468.length co20 : Value).ownBlock)) (by (with_reducible repeat (first | apply Kd.R_alloc | apply Kd.R_drewN | apply Kd.R_drew)); exact Kd.R_mono HO_31.out (fun _ hk => ⟨hk.2, hk.1⟩)) hg hat); have n1_ := ak_ (Kd.R_after (ok := (fun k_ => some k_ ≠ (.slice (some ad467) t457.length co12 : Value).ownBlock)) (by (with_reducible repeat (first | apply Kd.R_alloc | apply Kd.R_drewN | apply Kd.R_drew)); exact Kd.R_mono HO470.out (fun _ hk => ⟨hk.2, hk.1.2⟩)) hg hat); have n2_ := ak_ (hb); have n3_ := ak_ (ho); clear HO_31; clear HO470; clear HB; clear HO_8; have HO_31 := n0_; have HO470 := n1_; have HB := n2_; have HO473 := n3_; clear n0_ n1_ n2_ n3_; clear ho hb hg hat))
          go_roundg k1
          case measure => have := HK1.out; omega
          case rel => exact ⟨(y471), (wrap64 (x33_1 + 1)), (by first | rfl | (simp; done) | (simp [*]; done)), H', ⟨by have := HK1.out; omega⟩, ⟨by (with_reducible repeat (first | apply Kd.R_alloc | apply Kd.R_drewN | apply Kd.R_drew)); exact Kd.R_mono HO473.out (fun _ hk => hk.1)⟩, ⟨by (with_reducible repeat (first | apply Kd.R_alloc | apply Kd.R_drewN | apply Kd.R_drew)); exact Kd.R_mono HO_31.out (fun _ hk => hk.2)⟩, ⟨bl_ HB⟩⟩
         ·rw [if_neg c16] at H
          exact absurd H (by simp)
        ·rw [if_neg c15] at H
         exact absurd H (by simp)
       ·rw [if_neg c14] at H
        exact absurd H (by simp)
      ·rw [if_neg c13] at H
       have c13b0 := decide_eq_false c13
       clear c13
       have H' := ak_ H
       clear H
       obtain ⟨Ao21, co21, eo21⟩ := Kd.R_slice HO_8.out
       subst eo21
       go_wp2
       go_loopg [11, 48] k1 (fun kq v11 v48 w' => ∃ (x11_2 : List (S25)) (x48_2 : Int), v48 = .int .i64 x48_2 ∧ Aside0 (medlarref11_Cover.l1 kq a0 l1 x11_2 x8_1 (x8_1.length : Int) x48_2 = some (r1, r2)) ∧ Aside0 (kq ≤ k1) ∧ Aside0 (Kd.R k25 25 w' w.heap.size (fun _ => True) v11 x11_2) ∧ Aside0 (Kd.R (Kd.int .u64) 23 w' w.heap.size (fun _ => True) (.slice Ao21 x8_1.length co21) x8_1) ∧ Aside0 (Below w.heap.size w w'))
       case atStart => exact ⟨(([] : List (S25))), (0), (by first | rfl | (simp; done) | (simp [*]; done)), H', ⟨Nat.le_refl _⟩, ⟨by first | exact Kd.R_nil _ _ _ _ _ | exact Kd.N_nil _ _ _ _ _ | exact Kd.V_nil _ _ _ _ _ | exact Kd.Q_nil _ _ _ _ _ | exact Kd.S_nil _ _ _ _ _⟩, ⟨by (with_reducible repeat (first | apply Kd.R_alloc | apply Kd.R_drewN | apply Kd.R_drew)); exact Kd.R_mono HO_8.out (fun _ hk => trivial)⟩, ⟨bl_ HB⟩⟩
       case round =>
        clear H'
        try clear c1
        try clear c2
        try clear p2
        try clear c4
        try clear c4b0
        try clear c4b1
        try clear p4
        try clear q4
        try clear hx4
        try clear c5
        try clear c5b0
        try clear c5b1
        try clear c5b2
        try clear p6
        try clear c13
        try clear c13b0
        try clear c14
        try clear c14b0
        try clear c15
        try clear c15b0
        try clear c16
        try clear c21
        try clear hx467_0
        try clear p2
        try clear p467
        try clear q467
        obtain ⟨x11_2, x48_2, rfl, HA, HK2, HO_11, HO_46, HB⟩ := hrel
        cases gk with
        | zero => exact absurd HA.out (by simp [medlarref11_Cover.l1])
        | succ k2 =>
         have H := HA.out
         clear HA
         simp only [medlarref11_Cover.l1] at H
         by_cases c22 : x48_2 < (x8_1.length : Int)
         ·rw [if_pos c22] at H
          have c22b0 := decide_eq_true c22
          clear c22
          by_cases c23 : 0 ≤ x48_2
          ·rw [if_pos c23] at H
           have c23b0 := decide_eq_true c23
           clear c23
           by_cases c24 : x48_2 < (x8_1.length : Int)
           ·rw [if_pos c24] at H
            have c24b0 := decide_eq_true c24
            clear c24
            replace H := bind_eq_some_iff.mp H
            obtain ⟨⟨t475, t476⟩, A250, H⟩ := H
            replace H : (if t475 = (rd x8_1 x48_2) then (medlarref11_Cover.l1 k2 a0 l1 x11_2 x8_1 (x8_1.length : Int) (wrap64 (x48_2 + 1))) else (if x11_2.length < 8796093022208 then (medlarref11_Cover.l1 k2 a0 l1 (x11_2 ++ [(⟨rd x8_1 x48_2, t475⟩ : S25)]) x8_1 (x8_1.length : Int) (wrap64 (x48_2 + 1))) else (none))) = some (r1, r2) := H
            have A25 := ak_ A250
            clear A250
            by_cases c26 : t475 = (rd x8_1 x48_2)
            ·rw [if_pos c26] at H
             have c26b0 : (t475 == (rd x8_1 x48_2)) = true := beq_iff_eq.mpr c26
             have c26b1 : (t475 != (rd x8_1 x48_2)) = false := bne_eq_false_iff_eq.mpr c26
             clear c26
             have H' := ak_ H
             clear H
             have p474 : 0 ≤ (x48_2 : Int) := od_ (by first | (with_reducible assumption) | assumption)
             have q474 : x48_2 < (x8_1.length : Int) := od_ (by first | (with_reducible assumption) | assumption)
             obtain ⟨ad474, e474, hx474_0⟩ := Kd.at_int (Kd.R_reads' HO_46.out).2.2 x48_2 p474 q474
             cases e474
             replace p474 := eq_true p474
             replace q474 := eq_true q474
             go_wp2_with (first | ((with_reducible refine gate_callee (f := 53) rfl ?_); refine goesL_ (some 56) rfl rfl func53 (by kernel_rfl) rfl #[.int .i64 a0, .slice A1 l1.length c1, .int .u64 (rd x8_1 x48_2)] rfl (by (try simp only [map_toArray, map_cons, map_nil]); first | done | rfl) ?_; (with_reducible refine (medlarref09_Down.calls k2 a0 _ _ l1 (rd x8_1 x48_2) t475 t476 _ ?side1 ?side2 A25.out).mono ?_); (case side1 => repeat (first | exact (Kd.C_below HR1.out HB.out) | (with_reducible refine Kd.C_alloc ?_ _) | (with_reducible refine Kd.C_drewN ?_ _) | (with_reducible refine Kd.C_drew ?_))); (case side2 => exact HC1.out); rintro e w27 ⟨rfl, hb⟩; refine ⟨_, rfl, ?_⟩; have n0_ := ak_ (Kd.R_below (rl_ HO_11) hb); have n1_ := ak_ (Kd.R_below (rl_ HO_46) hb); have n2_ := ak_ (bt_ (bl_ HB) hb); clear HO_11; clear HO_46; clear HB; have HO_11 := n0_; have HO_46 := n1_; have HB := n2_; clear n0_ n1_ n2_; (try clear hb); (try clear hk)))
             go_roundg k2
             case measure => have := HK1.out; have := HK2.out; omega
             case rel => exact ⟨(x11_2), (wrap64 (x48_2 + 1)), (by first | rfl | (simp; done) | (simp [*]; done)), H', ⟨by have := HK1.out; have := HK2.out; omega⟩, ⟨rl_ HO_11⟩, ⟨rl_ HO_46⟩, ⟨bl_ HB⟩⟩
            ·rw [if_neg c26] at H
             have c26b0 : (t475 == (rd x8_1 x48_2)) = false := beq_eq_false_iff_ne.mpr c26
             have c26b1 : (t475 != (rd x8_1 x48_2)) = true := bne_iff_ne.mpr c26
             by_cases c28 : x11_2.length < 8796093022208
             ·rw [if_pos c28] at H
              have LMc28 := ak_ c28
              clear c28
              obtain ⟨y477, hy477⟩ : ∃ y_ : List (S25), y_ = (x11_2 ++ [(⟨rd x8_1 x48_2, t475⟩ : S25)]) := ⟨_, rfl⟩
              replace H : (medlarref11_Cover.l1 k2 a0 l1 y477 x8_1 (x8_1.length : Int) (wrap64 (x48_2 + 1))) = some (r1, r2) := by first | (rw [hy477]; with_reducible exact H) | (have H2_ := (Option.bind_some _ _).symm.trans H; rw [hy477]; with_reducible exact H2_) | (have H2_ := (Option.bind_some _ _).symm.trans H; with_reducible exact H2_) | with_reducible exact H | (rw [hy477]; exact H) | exact H
              have Ny477 := ak_ hy477
              clear hy477
              have H' := ak_ H
              clear H
              have p474 : 0 ≤ (x48_2 : Int) := od_ (by first | (with_reducible assumption) | assumption)
              have q474 : x48_2 < (x8_1.length : Int) := od_ (by first | (with_reducible assumption) | assumption)
              obtain ⟨ad474, e474, hx474_0⟩ := Kd.at_int (Kd.R_reads' HO_46.out).2.2 x48_2 p474 q474
              cases e474
              replace p474 := eq_true p474
              replace q474 := eq_true q474
              go_wp2_with (first | ((with_reducible refine gate_callee (f := 53) rfl ?_); refine goesL_ (some 56) rfl rfl func53 (by kernel_rfl) rfl #[.int .i64 a0, .slice A1 l1.length c1, .int .u64 (rd x8_1 x48_2)] rfl (by (try simp only [map_toArray, map_cons, map_nil]); first | done | rfl) ?_; (with_reducible refine (medlarref09_Down.calls k2 a0 _ _ l1 (rd x8_1 x48_2) t475 t476 _ ?side1 ?side2 A25.out).mono ?_); (case side1 => repeat (first | exact (Kd.C_below HR1.out HB.out) | (with_reducible refine Kd.C_alloc ?_ _) | (with_reducible refine Kd.C_drewN ?_ _) | (with_reducible refine Kd.C_drew ?_))); (case side2 => exact HC1.out); rintro e w29 ⟨rfl, hb⟩; refine ⟨_, rfl, ?_⟩; have n0_ := ak_ (Kd.R_below (rl_ HO_11) hb); have n1_ := ak_ (Kd.R_below (rl_ HO_46) hb); have n2_ := ak_ (bt_ (bl_ HB) hb); clear HO_11; clear HO_46; clear HB; have HO_11 := n0_; have HO_46 := n1_; have HB := n2_; clear n0_ n1_ n2_; (try clear hb); (try clear hk)) | ((with_reducible refine gate_builtin (b := .append) (xs := #[.tmp 62, .tmp 66]) rfl ?_); at_builtin; refine Kd.R_append k25 (w0 := w) w.heap.size rfl (.tmp 62) (.tmp 66) 27 25 (.agg #[(.int .u64 0), (.int .u64 0)]) 16 rfl underlying27 info25 rfl (by decide) (by omega) u11 x11_2 (⟨rd x8_1 x48_2, t475⟩ : S25) [.int .u64 (rd x8_1 x48_2), .int .u64 t475] (fun _ => True) (fun _ => False) rfl rfl ?aP (fun _ hk => hk.elim) ?aF ?aO ?aB ?aS ?aL ?_; (case aP => exact k25_mkM _ _ _ (⟨rd x8_1 x48_2, t475⟩ : S25)); (case aB => exact (bl_ HB)); (case aF => exact (fun _ _ => trivial)); (case aO => exact (rl_ HO_11)); (case aS => exact (bz_ (bl_ HB))); (case aL => have := LMc28.out; omega); intro v478 w30 ho hb hg hat; rw [← Ny477.out] at ho; have n0_ := ak_ (Kd.R_over' (rl_ HO_46) (Kd.R_typed (rl_ HO_11)) (by decide) hg); have n1_ := ak_ (hb); have n2_ := ak_ (ho); clear HO_46; clear HB; clear HO_11; have HO_46 := n0_; have HB := n1_; have HO479 := n2_; clear n0_ n1_ n2_; clear ho hb hg hat))
              go_roundg k2
              case measure => have := HK1.out; have := HK2.out; omega
              case rel => exact ⟨(y477), (wrap64 (x48_2 + 1)), (by first | rfl | (simp; done) | (simp [*]; done)), H', ⟨by have := HK1.out; have := HK2.out; omega⟩, ⟨rl_ HO479⟩, ⟨rl_ HO_46⟩, ⟨bl_ HB⟩⟩
             ·rw [if_neg c28] at H
              exact absurd H (by simp)
           ·rw [if_neg c24] at H
            exact absurd H (by simp)
          ·rw [if_neg c23] at H
           exact absurd H (by simp)
         ·rw [if_neg c22] at H
          have c22b0 := decide_eq_false c22
          clear c22
          replace H := bind_eq_some_iff.mp H
          obtain ⟨t480, A310, H⟩ := H
          replace H : (some (t480, 0)) = some (r1, r2) := H
          have A31 := ak_ A310
          clear A310
          simp only [some.injEq, Prod.mk.injEq] at H
          obtain ⟨rfl, rfl⟩ := H
          obtain ⟨Ao32, co32, eo32⟩ := Kd.R_slice HO_11.out
          subst eo32
          go_wp2_with (first | ((with_reducible refine gate_callee (f := 23) rfl ?_); refine goesL_ (some 70) rfl rfl func23 (by kernel_rfl) rfl #[.slice Ao32 x11_2.length co32] rfl (by (try simp only [map_toArray, map_cons, map_nil]); first | done | rfl) ?_; (with_reducible refine (medlarref11_Order.calls k2 _ _ x11_2 t480 _ ?side1 ?side2 A31.out).mono ?_); (case side1 => repeat (first | exact (Kd.R_reads' HO_11.out).2.2 | (with_reducible refine Kd.C_alloc ?_ _) | (with_reducible refine Kd.C_drewN ?_ _) | (with_reducible refine Kd.C_drew ?_))); (case side2 => exact (Kd.R_reads' HO_11.out).2.1); rintro e w33 ⟨v481, rfl, ho0, hb⟩; refine ⟨_, rfl, ?_⟩; have n0_ := ak_ (Kd.R_elder' (rl_ HO_11) (Kd.R_base ho0) hb); have n1_ := ak_ (Kd.R_below (rl_ HO_46) hb); have n2_ := ak_ (Kd.R_lower (Kd.R_new' ho0 (Kd.R_lt (rl_ HO_11))) (bz_ (bl_ HB))); have n3_ := ak_ (bt_ (bl_ HB) hb); clear HO_11; clear HO_46; clear HB; have HO_11 := n0_; have HO_46 := n1_; have HO482 := n2_; have HB := n3_; clear n0_ n1_ n2_ n3_; (try clear hb); (try clear hk); (try clear ho0)))
          go_ret2
          exact ⟨_, by first | rfl | (simp <;> rfl) | (simp [*] <;> rfl), by (with_reducible repeat (first | apply Kd.R_alloc | apply Kd.R_drewN | apply Kd.R_drew)); exact Kd.R_mono HO482.out (fun _ hk => trivial), bl_ HB⟩
  ·rw [if_neg c4] at H
   have c4b0 : (t458 == 0) = false := beq_eq_false_iff_ne.mpr c4
   have c4b1 : (t458 != 0) = true := bne_iff_ne.mpr c4
   simp only [some.injEq, Prod.mk.injEq] at H
   obtain ⟨rfl, rfl⟩ := H
   go_enter func21, ntmps21
   go_wp2_with (first | ((with_reducible refine gate_callee (f := 52) rfl ?_); refine goesL_ (some 19) rfl rfl func52 (by kernel_rfl) rfl #[.int .i64 a0, .slice A1 l1.length c1] rfl (by (try simp only [map_toArray, map_cons, map_nil]); first | done | rfl) ?_; (with_reducible refine (medlarref09_Forks.calls k a0 _ _ l1 t457 t458 _ ?side1 ?side2 A3.out).mono ?_); (case side1 => repeat (first | exact HR1.out | (with_reducible refine Kd.C_alloc ?_ _) | (with_reducible refine Kd.C_drewN ?_ _) | (with_reducible refine Kd.C_drew ?_))); (case side2 => exact HC1.out); rintro e w34 ⟨v459, rfl, ho0, hb⟩; refine ⟨_, rfl, ?_⟩; have n0_ := ak_ (Kd.R_lower ho0 (bz_ (bl_ HB))); have n1_ := ak_ (bt_ (bl_ HB) hb); clear HB; have HO460 := n0_; have HB := n1_; clear n0_ n1_; (try clear hb); (try clear hk); (try clear ho0)))
   go_ret2
   exact ⟨_, by first | rfl | (simp <;> rfl) | (simp [*] <;> rfl), by first | exact Kd.R_nil _ _ _ _ _ | exact Kd.N_nil _ _ _ _ _ | exact Kd.V_nil _ _ _ _ _ | exact Kd.Q_nil _ _ _ _ _ | exact Kd.S_nil _ _ _ _ _, bl_ HB⟩
def medlarref08_Check.f (k : Nat) (a0 : Int) (a1_0 : Int) (a1_1 : Int) : Option (Int) := (medlarref01_May.f k a0 a1_0).bind fun t484 => (if t484 = true then (if a1_1 = 0 then (some 0) else ((medlarref01_May.f k a0 a1_1).bind fun t485 => (if t485 = true then (if a1_1 = a1_0 then (some 1) else ((medlarref01_Is.f k a1_0 a1_1).bind fun t486 => (if t486 = true then (some 0) else (some 1)))) else (some 1)))) else (some 1))
set_option maxHeartbeats 8000000 in
set_option maxRecDepth 100000 in
theorem medlarref08_Check.calls (k : Nat) (a0 : Int) (a1_0 : Int) (a1_1 : Int) (r : Int) (w : World) (h : medlarref08_Check.f k a0 a1_0 a1_1 = some r) :
   Calls Tryz.prog 30 #[.int .i64 a0, .agg #[.int .u64 a1_0, .int .u64 a1_1]] w fun e w' => e = .returned (.int .i64 r) ∧ Below w.heap.size w w' := by
  have hu25 := underlying25
  have HB := ak_ (Below.refl w.heap.size w)
  have H : ((medlarref01_May.f k a0 a1_0).bind fun t484 => (if t484 = true then (if a1_1 = 0 then (some 0) else ((medlarref01_May.f k a0 a1_1).bind fun t485 => (if t485 = true then (if a1_1 = a1_0 then (some 1) else ((medlarref01_Is.f k a1_0 a1_1).bind fun t486 => (if t486 = true then (some 0) else (some 1)))) else (some 1)))) else (some 1))) = some r := h
  clear h
  replace H := bind_eq_some_iff.mp H
  obtain ⟨t484, A30, H⟩ := H
  replace H : (if t484 = true then (if a1_1 = 0 then (some 0) else ((medlarref01_May.f k a0 a1_1).bind fun t485 => (if t485 = true then (if a1_1 = a1_0 then (some 1) else ((medlarref01_Is.f k a1_0 a1_1).bind fun t486 => (if t486 = true then (some 0) else (some 1)))) else (some 1)))) else (some 1)) = some r := H
  have A3 := ak_ A30
  clear A30
  by_cases c4 : t484 = true
  ·subst c4
   have H1 : (if a1_1 = 0 then (some 0) else ((medlarref01_May.f k a0 a1_1).bind fun t485 => (if t485 = true then (if a1_1 = a1_0 then (some 1) else ((medlarref01_Is.f k a1_0 a1_1).bind fun t486 => (if t486 = true then (some 0) else (some 1)))) else (some 1)))) = some r := by rw [if_pos rfl] at H; exact H
   clear H
   have H := H1
   clear H1
   by_cases c5 : a1_1 = 0
   ·rw [if_pos c5] at H
    have c5b0 : (a1_1 == 0) = true := beq_iff_eq.mpr c5
    have c5b1 : (a1_1 != 0) = false := bne_eq_false_iff_eq.mpr c5
    clear c5
    obtain rfl := Option.some.inj H
    go_enter func30, ntmps30
    go_wp2_with (first | ((with_reducible refine gate_dst (N := 3) rfl ?_); refine box_event ?hg (N := 3) ?hd (cs := #[.int .u64 a1_0, .int .u64 a1_1]) (t := 25) ?hr ?_; (case hd => rfl); (case hg => rfl); (case hr => first | (go_simp; done) | (go_simp; rfl)); intro gb483 hg w6 hbox hb; have n0_ := ak_ (bt_ (bl_ HB) hb); have n1_ := ak_ (hbox); have n2_ := ak_ ((gs_ hg HB)); have n3_ := ak_ ((gs_ hg HB)); clear HB; have HB := n0_; have BK483 := n1_; have GW483 := n2_; have GE483 := n3_; clear n0_ n1_ n2_ n3_; clear hb hbox hg; have hcz7_0 : w6.cell? ⟨gb483, 0, none⟩ = some (.int .u64 a1_0) := (kc_ BK483.out 0).trans rfl; have hcz7_1 : w6.cell? ⟨gb483, 1, none⟩ = some (.int .u64 a1_1) := (kc_ BK483.out 1).trans rfl; have hfz7_0 := kf_ BK483.out 0; have hfz7_1 := kf_ BK483.out 1) | ((with_reducible refine gate_callee (f := 50) rfl ?_); refine goesL_ (some 8) rfl rfl func50 (by kernel_rfl) rfl #[.int .i64 a0, .int .u64 a1_0] rfl (by (try simp only [map_toArray, map_cons, map_nil]); first | done | rfl) ?_; (with_reducible refine (medlarref01_May.calls k a0 a1_0 true _ A3.out).mono ?_); rintro e w' ⟨rfl, ⟨nd, rfl⟩⟩; refine ⟨_, rfl, ?_⟩))
    go_ret
    exact ⟨by first | rfl | (simp <;> rfl) | (simp [*] <;> rfl), by repeat (first | (with_reducible first | exact HB.out | apply ba_ | apply bn_ | apply bd_ | refine below_set ?_ GE483.out) | exact HB.out)⟩
   ·rw [if_neg c5] at H
    have c5b0 : (a1_1 == 0) = false := beq_eq_false_iff_ne.mpr c5
    have c5b1 : (a1_1 != 0) = true := bne_iff_ne.mpr c5
    replace H := bind_eq_some_iff.mp H
    obtain ⟨t485, A80, H⟩ := H
    replace H : (if t485 = true then (if a1_1 = a1_0 then (some 1) else ((medlarref01_Is.f k a1_0 a1_1).bind fun t486 => (if t486 = true then (some 0) else (some 1)))) else (some 1)) = some r := H
    have A8 := ak_ A80
    clear A80
    by_cases c9 : t485 = true
    ·subst c9
     have H1 : (if a1_1 = a1_0 then (some 1) else ((medlarref01_Is.f k a1_0 a1_1).bind fun t486 => (if t486 = true then (some 0) else (some 1)))) = some r := by rw [if_pos rfl] at H; exact H
     clear H
     have H := H1
     clear H1
     by_cases c10 : a1_1 = a1_0
     ·rw [if_pos c10] at H
      have c10b0 : (a1_1 == a1_0) = true := beq_iff_eq.mpr c10
      have c10b1 : (a1_1 != a1_0) = false := bne_eq_false_iff_eq.mpr c10
      clear c10
      obtain rfl := Option.some.inj H
      go_enter func30, ntmps30
      go_wp2_with (first | ((with_reducible refine gate_dst (N := 3) rfl ?_); refine box_event ?hg (N := 3) ?hd (cs := #[.int .u64 a1_0, .int .u64 a1_1]) (t := 25) ?hr ?_; (case hd => rfl); (case hg => rfl); (case hr => first | (go_simp; done) | (go_simp; rfl)); intro gb483 hg w11 hbox hb; have n0_ := ak_ (bt_ (bl_ HB) hb); have n1_ := ak_ (hbox); have n2_ := ak_ ((gs_ hg HB)); have n3_ := ak_ ((gs_ hg HB)); clear HB; have HB := n0_; have BK483 := n1_; have GW483 := n2_; have GE483 := n3_; clear n0_ n1_ n2_ n3_; clear hb hbox hg; have hcz12_0 : w11.cell? ⟨gb483, 0, none⟩ = some (.int .u64 a1_0) := (kc_ BK483.out 0).trans rfl; have hcz12_1 : w11.cell? ⟨gb483, 1, none⟩ = some (.int .u64 a1_1) := (kc_ BK483.out 1).trans rfl; have hfz12_0 := kf_ BK483.out 0; have hfz12_1 := kf_ BK483.out 1) | ((with_reducible refine gate_callee (f := 50) rfl ?_); refine goesL_ (some 8) rfl rfl func50 (by kernel_rfl) rfl #[.int .i64 a0, .int .u64 a1_0] rfl (by (try simp only [map_toArray, map_cons, map_nil]); first | done | rfl) ?_; (with_reducible refine (medlarref01_May.calls k a0 a1_0 true _ A3.out).mono ?_); rintro e w' ⟨rfl, ⟨nd, rfl⟩⟩; refine ⟨_, rfl, ?_⟩) | (go_at_call 50; (with_reducible refine (medlarref01_May.calls k a0 a1_1 true _ A8.out).mono ?_); rintro e w' ⟨rfl, ⟨nd, rfl⟩⟩))
      go_ret
      exact ⟨by first | rfl | (simp <;> rfl) | (simp [*] <;> rfl), by repeat (first | (with_reducible first | exact HB.out | apply ba_ | apply bn_ | apply bd_ | refine below_set ?_ GE483.out) | exact HB.out)⟩
     ·rw [if_neg c10] at H
      have c10b0 : (a1_1 == a1_0) = false := beq_eq_false_iff_ne.mpr c10
      have c10b1 : (a1_1 != a1_0) = true := bne_iff_ne.mpr c10
      replace H := bind_eq_some_iff.mp H
      obtain ⟨t486, A130, H⟩ := H
      replace H : (if t486 = true then (some 0) else (some 1)) = some r := H
      have A13 := ak_ A130
      clear A130
      by_cases c14 : t486 = true
      ·subst c14
       have H1 : (some 0) = some r := by rw [if_pos rfl] at H; exact H
       clear H
       have H := H1
       clear H1
       obtain rfl := Option.some.inj H
       go_enter func30, ntmps30
       go_wp2_with (first | ((with_reducible refine gate_dst (N := 3) rfl ?_); refine box_event ?hg (N := 3) ?hd (cs := #[.int .u64 a1_0, .int .u64 a1_1]) (t := 25) ?hr ?_; (case hd => rfl); (case hg => rfl); (case hr => first | (go_simp; done) | (go_simp; rfl)); intro gb483 hg w15 hbox hb; have n0_ := ak_ (bt_ (bl_ HB) hb); have n1_ := ak_ (hbox); have n2_ := ak_ ((gs_ hg HB)); have n3_ := ak_ ((gs_ hg HB)); clear HB; have HB := n0_; have BK483 := n1_; have GW483 := n2_; have GE483 := n3_; clear n0_ n1_ n2_ n3_; clear hb hbox hg; have hcz16_0 : w15.cell? ⟨gb483, 0, none⟩ = some (.int .u64 a1_0) := (kc_ BK483.out 0).trans rfl; have hcz16_1 : w15.cell? ⟨gb483, 1, none⟩ = some (.int .u64 a1_1) := (kc_ BK483.out 1).trans rfl; have hfz16_0 := kf_ BK483.out 0; have hfz16_1 := kf_ BK483.out 1) | ((with_reducible refine gate_callee (f := 50) rfl ?_); refine goesL_ (some 8) rfl rfl func50 (by kernel_rfl) rfl #[.int .i64 a0, .int .u64 a1_0] rfl (by (try simp only [map_toArray, map_cons, map_nil]); first | done | rfl) ?_; (with_reducible refine (medlarref01_May.calls k a0 a1_0 true _ A3.out).mono ?_); rintro e w' ⟨rfl, ⟨nd, rfl⟩⟩; refine ⟨_, rfl, ?_⟩) | (go_at_call 50; (with_reducible refine (medlarref01_May.calls k a0 a1_1 true _ A8.out).mono ?_); rintro e w' ⟨rfl, ⟨nd, rfl⟩⟩) | (go_at_call 62; (with_reducible refine (medlarref01_Is.calls k a1_0 a1_1 true _ A13.out).mono ?_); rintro e w17 ⟨rfl, hb⟩; have n0_ := ak_ (kb_ (g := gb483) (o := .cells #[.int .u64 a1_0, .int .u64 a1_1] 25 (0, 0)) (kl_ BK483) hb); have n1_ := ak_ (bt_ (by repeat (first | (with_reducible first | exact HB.out | apply ba_ | apply bn_ | apply bd_ | refine below_set ?_ GE483.out) | exact HB.out)) hb); clear BK483; clear HB; have BK483 := n0_; have HB := n1_; clear n0_ n1_; (try clear hb); (try clear hk)))
       go_ret
       exact ⟨by first | rfl | (simp <;> rfl) | (simp [*] <;> rfl), by repeat (first | (with_reducible first | exact HB.out | apply ba_ | apply bn_ | apply bd_ | refine below_set ?_ GE483.out) | exact HB.out)⟩
      ·replace c14 := Bool.eq_false_iff.mpr c14
       subst c14
       have H1 : (some 1) = some r := by rw [if_neg (show ¬ (false = true) by decide)] at H; exact H
       clear H
       have H := H1
       clear H1
       obtain rfl := Option.some.inj H
       go_enter func30, ntmps30
       go_wp2_with (first | ((with_reducible refine gate_dst (N := 3) rfl ?_); refine box_event ?hg (N := 3) ?hd (cs := #[.int .u64 a1_0, .int .u64 a1_1]) (t := 25) ?hr ?_; (case hd => rfl); (case hg => rfl); (case hr => first | (go_simp; done) | (go_simp; rfl)); intro gb483 hg w18 hbox hb; have n0_ := ak_ (bt_ (bl_ HB) hb); have n1_ := ak_ (hbox); have n2_ := ak_ ((gs_ hg HB)); have n3_ := ak_ ((gs_ hg HB)); clear HB; have HB := n0_; have BK483 := n1_; have GW483 := n2_; have GE483 := n3_; clear n0_ n1_ n2_ n3_; clear hb hbox hg; have hcz19_0 : w18.cell? ⟨gb483, 0, none⟩ = some (.int .u64 a1_0) := (kc_ BK483.out 0).trans rfl; have hcz19_1 : w18.cell? ⟨gb483, 1, none⟩ = some (.int .u64 a1_1) := (kc_ BK483.out 1).trans rfl; have hfz19_0 := kf_ BK483.out 0; have hfz19_1 := kf_ BK483.out 1) | ((with_reducible refine gate_callee (f := 50) rfl ?_); refine goesL_ (some 8) rfl rfl func50 (by kernel_rfl) rfl #[.int .i64 a0, .int .u64 a1_0] rfl (by (try simp only [map_toArray, map_cons, map_nil]); first | done | rfl) ?_; (with_reducible refine (medlarref01_May.calls k a0 a1_0 true _ A3.out).mono ?_); rintro e w' ⟨rfl, ⟨nd, rfl⟩⟩; refine ⟨_, rfl, ?_⟩) | (go_at_call 50; (with_reducible refine (medlarref01_May.calls k a0 a1_1 true _ A8.out).mono ?_); rintro e w' ⟨rfl, ⟨nd, rfl⟩⟩) | (go_at_call 62; (with_reducible refine (medlarref01_Is.calls k a1_0 a1_1 false _ A13.out).mono ?_); rintro e w20 ⟨rfl, hb⟩; have n0_ := ak_ (kb_ (g := gb483) (o := .cells #[.int .u64 a1_0, .int .u64 a1_1] 25 (0, 0)) (kl_ BK483) hb); have n1_ := ak_ (bt_ (by repeat (first | (with_reducible first | exact HB.out | apply ba_ | apply bn_ | apply bd_ | refine below_set ?_ GE483.out) | exact HB.out)) hb); clear BK483; clear HB; have BK483 := n0_; have HB := n1_; clear n0_ n1_; (try clear hb); (try clear hk)))
       go_ret
       exact ⟨by first | rfl | (simp <;> rfl) | (simp [*] <;> rfl), by repeat (first | (with_reducible first | exact HB.out | apply ba_ | apply bn_ | apply bd_ | refine below_set ?_ GE483.out) | exact HB.out)⟩
    ·replace c9 := Bool.eq_false_iff.mpr c9
     subst c9
     have H1 : (some 1) = some r := by rw [if_neg (show ¬ (false = true) by decide)] at H; exact H
     clear H
     have H := H1
     clear H1
     obtain rfl := Option.some.inj H
     go_enter func30, ntmps30
     go_wp2_with (first | ((with_reducible refine gate_dst (N := 3) rfl ?_); refine box_event ?hg (N := 3) ?hd (cs := #[.int .u64 a1_0, .int .u64 a1_1]) (t := 25) ?hr ?_; (case hd => rfl); (case hg => rfl); (case hr => first | (go_simp; done) | (go_simp; rfl)); intro gb483 hg w21 hbox hb; have n0_ := ak_ (bt_ (bl_ HB) hb); have n1_ := ak_ (hbox); have n2_ := ak_ ((gs_ hg HB)); have n3_ := ak_ ((gs_ hg HB)); clear HB; have HB := n0_; have BK483 := n1_; have GW483 := n2_; have GE483 := n3_; clear n0_ n1_ n2_ n3_; clear hb hbox hg; have hcz22_0 : w21.cell? ⟨gb483, 0, none⟩ = some (.int .u64 a1_0) := (kc_ BK483.out 0).trans rfl; have hcz22_1 : w21.cell? ⟨gb483, 1, none⟩ = some (.int .u64 a1_1) := (kc_ BK483.out 1).trans rfl; have hfz22_0 := kf_ BK483.out 0; have hfz22_1 := kf_ BK483.out 1) | ((with_reducible refine gate_callee (f := 50) rfl ?_); refine goesL_ (some 8) rfl rfl func50 (by kernel_rfl) rfl #[.int .i64 a0, .int .u64 a1_0] rfl (by (try simp only [map_toArray, map_cons, map_nil]); first | done | rfl) ?_; (with_reducible refine (medlarref01_May.calls k a0 a1_0 true _ A3.out).mono ?_); rintro e w' ⟨rfl, ⟨nd, rfl⟩⟩; refine ⟨_, rfl, ?_⟩) | (go_at_call 50; (with_reducible refine (medlarref01_May.calls k a0 a1_1 false _ A8.out).mono ?_); rintro e w' ⟨rfl, ⟨nd, rfl⟩⟩))
     go_ret
     exact ⟨by first | rfl | (simp <;> rfl) | (simp [*] <;> rfl), by repeat (first | (with_reducible first | exact HB.out | apply ba_ | apply bn_ | apply bd_ | refine below_set ?_ GE483.out) | exact HB.out)⟩
  ·replace c4 := Bool.eq_false_iff.mpr c4
   subst c4
   have H1 : (some 1) = some r := by rw [if_neg (show ¬ (false = true) by decide)] at H; exact H
   clear H
   have H := H1
   clear H1
   obtain rfl := Option.some.inj H
   go_enter func30, ntmps30
   go_wp2_with (first | ((with_reducible refine gate_dst (N := 3) rfl ?_); refine box_event ?hg (N := 3) ?hd (cs := #[.int .u64 a1_0, .int .u64 a1_1]) (t := 25) ?hr ?_; (case hd => rfl); (case hg => rfl); (case hr => first | (go_simp; done) | (go_simp; rfl)); intro gb483 hg w23 hbox hb; have n0_ := ak_ (bt_ (bl_ HB) hb); have n1_ := ak_ (hbox); have n2_ := ak_ ((gs_ hg HB)); have n3_ := ak_ ((gs_ hg HB)); clear HB; have HB := n0_; have BK483 := n1_; have GW483 := n2_; have GE483 := n3_; clear n0_ n1_ n2_ n3_; clear hb hbox hg; have hcz24_0 : w23.cell? ⟨gb483, 0, none⟩ = some (.int .u64 a1_0) := (kc_ BK483.out 0).trans rfl; have hcz24_1 : w23.cell? ⟨gb483, 1, none⟩ = some (.int .u64 a1_1) := (kc_ BK483.out 1).trans rfl; have hfz24_0 := kf_ BK483.out 0; have hfz24_1 := kf_ BK483.out 1) | ((with_reducible refine gate_callee (f := 50) rfl ?_); refine goesL_ (some 8) rfl rfl func50 (by kernel_rfl) rfl #[.int .i64 a0, .int .u64 a1_0] rfl (by (try simp only [map_toArray, map_cons, map_nil]); first | done | rfl) ?_; (with_reducible refine (medlarref01_May.calls k a0 a1_0 false _ A3.out).mono ?_); rintro e w' ⟨rfl, ⟨nd, rfl⟩⟩; refine ⟨_, rfl, ?_⟩))
   go_ret
   exact ⟨by first | rfl | (simp <;> rfl) | (simp [*] <;> rfl), by repeat (first | (with_reducible first | exact HB.out | apply ba_ | apply bn_ | apply bd_ | refine below_set ?_ GE483.out) | exact HB.out)⟩
mutual
def medlarref08_Step.j0 : Nat → Int → Bool → Option (Int × Int)
  | 0, _, _ => none
  | k + 1, x0, x10 => if x10 = true then (some (0, 1)) else (medlarref08_Step.l0 k x0 1)
def medlarref08_Step.l0 : Nat → Int → Int → Option (Int × Int)
  | 0, _, _ => none
  | k + 1, x0, x4 => if (wrap64 (x4 * x4)) < x0 then (medlarref08_Step.l0 k x0 (wrap64 (x4 + 1))) else (some (x4, 0))
end
def medlarref08_Step.f (k : Nat) (a0 : Int) : Option (Int × Int) := if a0 < 1 then (medlarref08_Step.j0 k a0 true) else (medlarref08_Step.j0 k a0 (decide (a0 > 32)))
theorem medlarref08_Step.mono_l : ∀ k, (∀ y0 y1, LeO (medlarref08_Step.j0 k y0 y1) (medlarref08_Step.j0 (k + 1) y0 y1)) ∧ (∀ y0 y1, LeO (medlarref08_Step.l0 k y0 y1) (medlarref08_Step.l0 (k + 1) y0 y1))
  | 0 => ⟨fun _ _ r h => by simp [medlarref08_Step.j0] at h, fun _ _ r h => by simp [medlarref08_Step.l0] at h⟩
  | k + 1 => by
   obtain ⟨ih0, ih1⟩ := medlarref08_Step.mono_l k
   refine ⟨?_, ?_⟩
   ·intro y0 y1
    unfold medlarref08_Step.j0
    repeat' first
    | (with_reducible exact ih0 _ _)
    | (with_reducible exact ih1 _ _)
    | (with_reducible exact LeO.refl _)
    | (with_reducible exact LeO.none _)
    | (with_reducible refine LeO.ite ?_ ?_)
    | (with_reducible refine LeO.bind ?_ (fun _ => ?_))
    | exact ih0 _ _
    | exact ih1 _ _
    | exact LeO.none _
    | refine LeO.ite ?_ ?_
    | refine LeO.bind ?_ (fun _ => ?_)
   ·intro y0 y1
    unfold medlarref08_Step.l0
    repeat' first
    | (with_reducible exact ih0 _ _)
    | (with_reducible exact ih1 _ _)
    | (with_reducible exact LeO.refl _)
    | (with_reducible exact LeO.none _)
    | (with_reducible refine LeO.ite ?_ ?_)
    | (with_reducible refine LeO.bind ?_ (fun _ => ?_))
    | exact ih0 _ _
    | exact ih1 _ _
    | exact LeO.none _
    | refine LeO.ite ?_ ?_
    | refine LeO.bind ?_ (fun _ => ?_)
theorem medlarref08_Step.mono : ∀ a0 k, LeO (medlarref08_Step.f k a0) (medlarref08_Step.f (k + 1) a0) := by
  intro a0 k
  obtain ⟨ih0, ih1⟩ := medlarref08_Step.mono_l k
  unfold medlarref08_Step.f
  repeat' first
    | (with_reducible exact ih0 _ _)
    | (with_reducible exact ih1 _ _)
    | (with_reducible exact LeO.refl _)
    | (with_reducible exact LeO.none _)
    | (with_reducible refine LeO.ite ?_ ?_)
    | (with_reducible refine LeO.bind ?_ (fun _ => ?_))
    | exact ih0 _ _
    | exact ih1 _ _
    | exact LeO.none _
    | refine LeO.ite ?_ ?_
    | refine LeO.bind ?_ (fun _ => ?_)
set_option maxHeartbeats 8000000 in
set_option maxRecDepth 100000 in
theorem medlarref08_Step.calls (k : Nat) (a0 : Int) (r1 : Int) (r2 : Int) (w : World) (h : medlarref08_Step.f k a0 = some (r1, r2)) :
   Calls Tryz.prog 87 #[.int .i64 a0] w fun e w' => e = .returned (.tuple #[.int .i64 r1, .int .i64 r2]) ∧ Drawn0 w w' := by
  have H : (if a0 < 1 then (medlarref08_Step.j0 k a0 true) else (medlarref08_Step.j0 k a0 (decide (a0 > 32)))) = some (r1, r2) := h
  clear h
  have HC2 := ak_ H
  clear H
  go_enter func87, ntmps87
  go_upto_region 1 with (fail)
  go_cut [10] (fun v10 wc => ∃ (kq : Nat) (x10_1 : Bool), v10 = .bool x10_1 ∧ Aside0 (medlarref08_Step.j0 kq a0 x10_1 = some (r1, r2)) ∧ Aside0 (kq ≤ k) ∧ Drawn0 w wc)
  case first =>
   have H := HC2.out
   clear HC2
   by_cases c3 : a0 < 1
   ·rw [if_pos c3] at H
    have c3b0 := decide_eq_true c3
    clear c3
    (first | rw [c3b0] | (simp only [i64_w, i32_w]; rw [c3b0]) | skip)
    have H' := ak_ H
    clear H
    go_wp2
    go_meet
    case rel => exact ⟨_, (true), (by first | rfl | (simp; done) | (simp [*]; done)), H', ⟨by first | omega | exact Nat.le_refl _⟩, by repeat (first | exact Drawn0.refl _ | apply Drawn0.step)⟩
   ·rw [if_neg c3] at H
    have c3b0 := decide_eq_false c3
    clear c3
    (first | rw [c3b0] | (simp only [i64_w, i32_w]; rw [c3b0]) | skip)
    have H' := ak_ H
    clear H
    go_wp2
    go_meet
    case rel => exact ⟨_, (decide (a0 > 32)), (by first | rfl | (simp; done) | (simp [*]; done)), H', ⟨by first | omega | exact Nat.le_refl _⟩, by repeat (first | exact Drawn0.refl _ | apply Drawn0.step)⟩
  case rest =>
   clear HC2
   try clear p2
   try clear c3
   try clear c3b0
   obtain ⟨kq, x10_1, rfl, HA, HJ1, ⟨mc1, rfl⟩⟩ := hcut
   cases kq with
   | zero => exact absurd HA.out (by simp [medlarref08_Step.j0])
   | succ kj1 =>
    have H := HA.out
    clear HA
    simp only [medlarref08_Step.j0] at H
    by_cases c4 : x10_1 = true
    ·subst c4
     have H1 : (some (0, 1)) = some (r1, r2) := by rw [if_pos rfl] at H; exact H
     clear H
     have H := H1
     clear H1
     simp only [some.injEq, Prod.mk.injEq] at H
     obtain ⟨rfl, rfl⟩ := H
     go_wp2
     go_ret2
     exact ⟨by first | rfl | (simp; done) | (simp [*]; done), by repeat (first | exact Drawn0.refl _ | apply Drawn0.step)⟩
    ·replace c4 := Bool.eq_false_iff.mpr c4
     subst c4
     have H1 : (medlarref08_Step.l0 kj1 a0 1) = some (r1, r2) := by rw [if_neg (show ¬ (false = true) by decide)] at H; exact H
     clear H
     have H := H1
     clear H1
     have H' := ak_ H
     clear H
     go_wp2
     go_loopg [4] kj1 (fun kq v4 w' => ∃ (x4_2 : Int), v4 = .int .i64 x4_2 ∧ Aside0 (medlarref08_Step.l0 kq a0 x4_2 = some (r1, r2)) ∧ Aside0 (kq ≤ kj1) ∧ Drawn0 w w')
     case atStart => exact ⟨(1), (by first | rfl | (simp; done) | (simp [*]; done)), H', ⟨Nat.le_refl _⟩, by repeat (first | exact Drawn0.refl _ | apply Drawn0.step)⟩
     case round =>
      clear H'
      try clear c1
      try clear p2
      try clear c3
      try clear c3b0
      try clear c4
      try clear p2
      obtain ⟨x4_2, rfl, HA, HK2, ⟨m2, rfl⟩⟩ := hrel
      cases gk with
      | zero => exact absurd HA.out (by simp [medlarref08_Step.l0])
      | succ k2 =>
       have H := HA.out
       clear HA
       simp only [medlarref08_Step.l0] at H
       by_cases c5 : (wrap64 (x4_2 * x4_2)) < a0
       ·rw [if_pos c5] at H
        have c5b0 := decide_eq_true c5
        clear c5
        have H' := ak_ H
        clear H
        go_wp2
        go_roundg k2
        case measure => have := HJ1.out; have := HK2.out; omega
        case rel => exact ⟨(wrap64 (x4_2 + 1)), (by first | rfl | (simp; done) | (simp [*]; done)), H', ⟨by have := HJ1.out; have := HK2.out; omega⟩, by repeat (first | exact Drawn0.refl _ | apply Drawn0.step)⟩
       ·rw [if_neg c5] at H
        have c5b0 := decide_eq_false c5
        clear c5
        simp only [some.injEq, Prod.mk.injEq] at H
        obtain ⟨rfl, rfl⟩ := H
        go_wp2
        go_ret2
        exact ⟨by first | rfl | (simp; done) | (simp [*]; done), by repeat (first | exact Drawn0.refl _ | apply Drawn0.step)⟩
def medlarref08_special.f (k : Nat) (a0 : Int) (a1 : Int) : Option (Bool) := (medlarref08_Step.f k a0).bind fun bt487 => (if bt487.1 = 0 then (none) else (if (Int.tmod a1 bt487.1) = 0 then (some true) else (some (a1 == a0))))
theorem medlarref08_special.mono : ∀ a0 a1 k, LeO (medlarref08_special.f k a0 a1) (medlarref08_special.f (k + 1) a0 a1) := by
  intro a0 a1 k
  unfold medlarref08_special.f
  repeat' first
    | (with_reducible exact medlarref08_Step.mono _ _)
    | (with_reducible exact LeO.refl _)
    | (with_reducible exact LeO.none _)
    | (with_reducible refine LeO.ite ?_ ?_)
    | (with_reducible refine LeO.bind ?_ (fun _ => ?_))
    | exact medlarref08_Step.mono _ _
    | exact LeO.none _
    | refine LeO.ite ?_ ?_
    | refine LeO.bind ?_ (fun _ => ?_)
set_option maxHeartbeats 8000000 in
set_option maxRecDepth 100000 in
theorem medlarref08_special.calls (k : Nat) (a0 : Int) (a1 : Int) (r : Bool) (w : World) (h : medlarref08_special.f k a0 a1 = some r) :
   Calls Tryz.prog 63 #[.int .i64 a0, .int .i64 a1] w fun e w' => e = .returned (.bool r) ∧ Drawn0 w w' := by
  have H : ((medlarref08_Step.f k a0).bind fun bt487 => (if bt487.1 = 0 then (none) else (if (Int.tmod a1 bt487.1) = 0 then (some true) else (some (a1 == a0))))) = some r := h
  clear h
  replace H := bind_eq_some_iff.mp H
  obtain ⟨⟨t487, t488⟩, A30, H⟩ := H
  replace H : (if t487 = 0 then (none) else (if (Int.tmod a1 t487) = 0 then (some true) else (some (a1 == a0)))) = some r := H
  have A3 := ak_ A30
  clear A30
  by_cases c4 : t487 = 0
  ·rw [if_pos c4] at H
   exact absurd H (by simp)
  ·rw [if_neg c4] at H
   have c4b0 : (t487 == 0) = false := beq_eq_false_iff_ne.mpr c4
   have c4b1 : (t487 != 0) = true := bne_iff_ne.mpr c4
   by_cases c5 : (Int.tmod a1 t487) = 0
   ·rw [if_pos c5] at H
    have c5b0 : ((Int.tmod a1 t487) == 0) = true := beq_iff_eq.mpr c5
    have c5b1 : ((Int.tmod a1 t487) != 0) = false := bne_eq_false_iff_eq.mpr c5
    clear c5
    obtain rfl := Option.some.inj H
    go_enter func63, ntmps63
    go_wp2_with (first | ((with_reducible refine gate_callee (f := 87) rfl ?_); refine goesL_ (some 9) rfl rfl func87 (by kernel_rfl) rfl #[.int .i64 a0] rfl (by (try simp only [map_toArray, map_cons, map_nil]); first | done | rfl) ?_; (with_reducible refine (medlarref08_Step.calls k a0 t487 t488 _ A3.out).mono ?_); rintro e w' ⟨rfl, ⟨nd, rfl⟩⟩; refine ⟨_, rfl, ?_⟩))
    go_ret
    exact ⟨by first | rfl | (simp; done) | (simp [*]; done), by repeat (first | exact Drawn0.refl _ | apply Drawn0.step)⟩
   ·rw [if_neg c5] at H
    have c5b0 : ((Int.tmod a1 t487) == 0) = false := beq_eq_false_iff_ne.mpr c5
    have c5b1 : ((Int.tmod a1 t487) != 0) = true := bne_iff_ne.mpr c5
    obtain rfl := Option.some.inj H
    go_enter func63, ntmps63
    go_wp2_with (first | ((with_reducible refine gate_callee (f := 87) rfl ?_); refine goesL_ (some 9) rfl rfl func87 (by kernel_rfl) rfl #[.int .i64 a0] rfl (by (try simp only [map_toArray, map_cons, map_nil]); first | done | rfl) ?_; (with_reducible refine (medlarref08_Step.calls k a0 t487 t488 _ A3.out).mono ?_); rintro e w' ⟨rfl, ⟨nd, rfl⟩⟩; refine ⟨_, rfl, ?_⟩))
    go_ret
    exact ⟨by first | rfl | (simp; done) | (simp [*]; done), by repeat (first | exact Drawn0.refl _ | apply Drawn0.step)⟩
def medlarref08_next.l0 : Nat → Int → Int → Option (Int)
  | 0, _, _ => none
  | k + 1, x0, x1 => (medlarref08_special.f k x0 x1).bind fun t489 => (if t489 = true then (some x1) else (medlarref08_next.l0 k x0 (wrap64 (x1 + 1))))
def medlarref08_next.f (k : Nat) (a0 : Int) (a1 : Int) : Option (Int) := medlarref08_next.l0 k a0 (wrap64 (a1 + 1))
theorem medlarref08_next.mono_l : ∀ k, (∀ y0 y1, LeO (medlarref08_next.l0 k y0 y1) (medlarref08_next.l0 (k + 1) y0 y1))
  | 0 => fun _ _ r h => by simp [medlarref08_next.l0] at h
  | k + 1 => by
   have ih0 := medlarref08_next.mono_l k
   ·intro y0 y1
    unfold medlarref08_next.l0
    repeat' first
    | (with_reducible exact ih0 _ _)
    | (with_reducible exact medlarref08_special.mono _ _ _)
    | (with_reducible exact LeO.refl _)
    | (with_reducible exact LeO.none _)
    | (with_reducible refine LeO.ite ?_ ?_)
    | (with_reducible refine LeO.bind ?_ (fun _ => ?_))
    | exact ih0 _ _
    | exact medlarref08_special.mono _ _ _
    | exact LeO.none _
    | refine LeO.ite ?_ ?_
    | refine LeO.bind ?_ (fun _ => ?_)
set_option maxHeartbeats 8000000 in
set_option maxRecDepth 100000 in
theorem medlarref08_next.calls (k : Nat) (a0 : Int) (a1 : Int) (r : Int) (w : World) (h : medlarref08_next.f k a0 a1 = some r) :
   Calls Tryz.prog 55 #[.int .i64 a0, .int .i64 a1] w fun e w' => e = .returned (.int .i64 r) ∧ Drawn0 w w' := by
  have H : (medlarref08_next.l0 k a0 (wrap64 (a1 + 1))) = some r := h
  clear h
  have H' := ak_ H
  clear H
  go_enter func55, ntmps55
  go_wp2
  go_loopg [1] k (fun kq v1 w' => ∃ (x1_1 : Int), v1 = .int .i64 x1_1 ∧ Aside0 (medlarref08_next.l0 kq a0 x1_1 = some r) ∧ Aside0 (kq ≤ k) ∧ Drawn0 w w')
  case atStart => exact ⟨(wrap64 (a1 + 1)), (by first | rfl | (simp; done) | (simp [*]; done)), H', ⟨Nat.le_refl _⟩, by repeat (first | exact Drawn0.refl _ | apply Drawn0.step)⟩
  case round =>
   clear H'
   try clear p2
   obtain ⟨x1_1, rfl, HA, HK1, ⟨m1, rfl⟩⟩ := hrel
   cases gk with
   | zero => exact absurd HA.out (by simp [medlarref08_next.l0])
   | succ k1 =>
    have H := HA.out
    clear HA
    simp only [medlarref08_next.l0] at H
    replace H := bind_eq_some_iff.mp H
    obtain ⟨t489, A30, H⟩ := H
    replace H : (if t489 = true then (some x1_1) else (medlarref08_next.l0 k1 a0 (wrap64 (x1_1 + 1)))) = some r := H
    have A3 := ak_ A30
    clear A30
    by_cases c4 : t489 = true
    ·subst c4
     have H1 : (some x1_1) = some r := by rw [if_pos rfl] at H; exact H
     clear H
     have H := H1
     clear H1
     obtain rfl := Option.some.inj H
     go_wp2_with (first | ((with_reducible refine gate_callee (f := 63) rfl ?_); refine goesL_ (some 9) rfl rfl func63 (by kernel_rfl) rfl #[.int .i64 a0, .int .i64 x1_1] rfl (by (try simp only [map_toArray, map_cons, map_nil]); first | done | rfl) ?_; (with_reducible refine (medlarref08_special.calls k1 a0 x1_1 true _ A3.out).mono ?_); rintro e w' ⟨rfl, ⟨nd, rfl⟩⟩; refine ⟨_, rfl, ?_⟩))
     go_ret
     exact ⟨by first | rfl | (simp; done) | (simp [*]; done), by repeat (first | exact Drawn0.refl _ | apply Drawn0.step)⟩
    ·replace c4 := Bool.eq_false_iff.mpr c4
     subst c4
     have H1 : (medlarref08_next.l0 k1 a0 (wrap64 (x1_1 + 1))) = some r := by rw [if_neg (show ¬ (false = true) by decide)] at H; exact H
     clear H
     have H := H1
     clear H1
     have H' := ak_ H
     clear H
     go_wp2_with (first | ((with_reducible refine gate_callee (f := 63) rfl ?_); refine goesL_ (some 9) rfl rfl func63 (by kernel_rfl) rfl #[.int .i64 a0, .int .i64 x1_1] rfl (by (try simp only [map_toArray, map_cons, map_nil]); first | done | rfl) ?_; (with_reducible refine (medlarref08_special.calls k1 a0 x1_1 false _ A3.out).mono ?_); rintro e w' ⟨rfl, ⟨nd, rfl⟩⟩; refine ⟨_, rfl, ?_⟩))
     go_roundg k1
     case measure => have := HK1.out; omega
     case rel => exact ⟨(wrap64 (x1_1 + 1)), (by first | rfl | (simp; done) | (simp [*]; done)), H', ⟨by have := HK1.out; omega⟩, by repeat (first | exact Drawn0.refl _ | apply Drawn0.step)⟩
def medlarref08_depth.f (k : Nat) (a0 : Int) : Option (Int) := (medlarref01_Chain.f k a0).bind fun t490 => (some (wrap64 ((t490.length : Int) - 1)))
set_option maxHeartbeats 8000000 in
set_option maxRecDepth 100000 in
theorem medlarref08_depth.calls (k : Nat) (a0 : Int) (r : Int) (w : World) (h : medlarref08_depth.f k a0 = some r) :
   Calls Tryz.prog 56 #[.int .u64 a0] w fun e w' => e = .returned (.int .i64 r) ∧ Below w.heap.size w w' := by
  have HB := ak_ (Below.refl w.heap.size w)
  have H : ((medlarref01_Chain.f k a0).bind fun t490 => (some (wrap64 ((t490.length : Int) - 1)))) = some r := h
  clear h
  replace H := bind_eq_some_iff.mp H
  obtain ⟨t490, A20, H⟩ := H
  replace H : (some (wrap64 ((t490.length : Int) - 1))) = some r := H
  have A2 := ak_ A20
  clear A20
  obtain rfl := Option.some.inj H
  go_enter func56, ntmps56
  go_wp2_with (first | ((with_reducible refine gate_callee (f := 34) rfl ?_); refine goesL_ (some 4) rfl rfl func34 (by kernel_rfl) rfl #[.int .u64 a0] rfl (by (try simp only [map_toArray, map_cons, map_nil]); first | done | rfl) ?_; (with_reducible refine (medlarref01_Chain.calls k a0 t490 _ A2.out).mono ?_); rintro e w3 ⟨v491, rfl, ho0, hb⟩; refine ⟨_, rfl, ?_⟩; have n0_ := ak_ (Kd.R_lower ho0 (bz_ (bl_ HB))); have n1_ := ak_ (bt_ (bl_ HB) hb); clear HB; have HO492 := n0_; have HB := n1_; clear n0_ n1_; (try clear hb); (try clear hk); (try clear ho0); obtain ⟨Ao4, co4, eo4⟩ := Kd.R_slice HO492.out; subst eo4))
  go_ret
  exact ⟨by first | rfl | (simp <;> rfl) | (simp [*] <;> rfl), bl_ HB⟩
end Go.Proofs.YtmffkfakcbopcaaGreat.MP
