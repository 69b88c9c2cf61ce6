-- written by a program of this session (wip/tools/mprint.sh) for this seat
import Derived.Test.YtnbiddloiiljjaaMPx0
import Derived.Test.YtnbiddloiiljjaaMPx2
import Derived.Test.YtnbiddloiiljjaaMPx3
import Derived.Test.YtnbiddloiiljjaaMPx4
import Derived.Lib.SliceRun
import Derived.Deep.RegionHeld3
import Derived.Shelf.SlSortCmp.NoneTotal
import Derived.Shelf.Lay
import Derived.Ground.SlsfProg
import Derived.RangeFuncNested
import Derived.RangeFuncBound
import Derived.RangeFuncCalls
import Derived.RangeFuncLeaves
import Derived.Shelf.Abstract
import Derived.OwnWalkIn
import Derived.TacticsInMore
import Derived.LoopNIn
import Derived.LoopIn
import Derived.Maps.AppendAt
namespace Go.Proofs.Ytnbiddloiiljjaa.MP
open Go.RowKit Go.Proofs.YtnbiddloiiljjaaW.PrintWords Go.Proofs.YtnbiddloiiljjaaW.PrintLast Go.Proofs.YtnbiddloiiljjaaW.PrintMore
attribute [local go_sem] max2_int min2_int max_two min_two max_three min_three max_four min_four
set_option linter.unusedVariables false
set_option linter.unusedSimpArgs false
set_option maxHeartbeats 8000000 in
set_option maxRecDepth 100000 in
theorem whole_Cover1.calls (n : Int) (w : World) : Calls Try.prog 81 #[.int .u64 n] w fun e w' => e = .returned (.agg #[.int .u64 n, .int .u64 0]) ∧ Below w.heap.size w w' := by
  have hu := Try.underlying24
  have hb0 := blk_new w (.cells #[.int .u64 0, .int .u64 0] 24)
  have hz0 := blk_cell hb0 0
  have hz1 := blk_cell hb0 1
  have hy0 := blk_frozen hb0 0
  have hy1 := blk_frozen hb0 1
  simp at hz0 hz1 hy0 hy1
  go_enter Try.func81, Try.ntmps81
  go_wp2
  refine bodyPost_ret (v := .agg #[.int .u64 n, .int .u64 0]) (by simp [results, Try.f81, go_sem]) rfl ⟨rfl, ?_⟩
  exact below_alloc (Below.refl _ _) _
def api_Subset_80.l0 : Nat → List (S24) → List Int → Int → Int → Option ((List (S24)))
  | 0, _, _, _, _ => none
  | k + 1, x5, x11, x12, x13 => if x13 < x12 then (if 0 ≤ x13 then (if x13 < (x11.length : Int) then (if x13 < (x5.length : Int) then (api_Subset_80.l0 k (x5.set (x13 : Int).toNat (⟨rd x11 x13, 0⟩ : S24)) x11 x12 (wrap64 (x13 + 1))) else (none)) else (none)) else (none)) else (some x5)
def api_Subset_80.f (k : Nat) (l0 : List Int) : Option ((List (S24))) := if 0 ≤ (l0.length : Int) then (if ((l0.length : Int) : Int).toNat ≤ 17592186044416 then (api_Subset_80.l0 k (List.replicate ((l0.length : Int) : Int).toNat z24) l0 (l0.length : Int) 0) else (none)) else (none)
set_option maxHeartbeats 8000000 in
set_option maxRecDepth 100000 in
theorem api_Subset_80.calls (k : Nat) (A0 : Option Addr) (c0 : Nat) (l0 : List Int) (r : List (S24)) (w : World) (hr0 : Kd.C (Kd.int .u64) w A0 l0.length l0) (hc0 : l0.length ≤ c0) (h : api_Subset_80.f k l0 = some r) :
    Calls Try.prog 80 #[.slice A0 l0.length c0, .func (.func 81) #[] #[]] w fun e w' => ∃ v0_ : Value, e = .returned (v0_) ∧ Kd.R k24 24 w' w.heap.size (fun _ => True) v0_ r ∧ Below w.heap.size w w' := by
  have hu24 := Try.underlying24
  have HR0 := Aside0.mk hr0
  have HC0 := Aside0.mk hc0
  clear hr0 hc0
  have HB := Aside0.mk (Below.refl w.heap.size w)
  have H : (if 0 ≤ (l0.length : Int) then (if ((l0.length : Int) : Int).toNat ≤ 17592186044416 then (api_Subset_80.l0 k (List.replicate ((l0.length : Int) : Int).toNat z24) l0 (l0.length : Int) 0) else (none)) else (none)) = some r := h
  clear h
  by_cases c2 : 0 ≤ (l0.length : Int)
  · rw [if_pos c2] at H
    have c2b0 := eq_true c2
    have c2b1 : decide (0 ≤ (l0.length : Int)) = true := decide_eq_true c2
    clear c2
    by_cases c3 : ((l0.length : Int) : Int).toNat ≤ 17592186044416
    · rw [if_pos c3] at H
      have c3b0 := eq_true c3
      have c3b1 : decide (((l0.length : Int) : Int).toNat ≤ 17592186044416) = true := decide_eq_true c3
      clear c3
      obtain ⟨y286, hy286⟩ : ∃ y_ : List (S24), y_ = (List.replicate ((l0.length : Int) : Int).toNat z24) := ⟨_, rfl⟩
      replace H : (api_Subset_80.l0 k y286 l0 (l0.length : Int) 0) = some r := by first | (rw [hy286]; with_reducible exact H) | (have H2_ := (Option.bind_some _ _).symm.trans H; rw [hy286]; with_reducible exact H2_) | (have H2_ := (Option.bind_some _ _).symm.trans H; with_reducible exact H2_) | with_reducible exact H | (rw [hy286]; exact H) | exact H
      have Ny286 := Aside0.mk hy286
      clear hy286
      have H' := Aside0.mk H
      clear H
      go_enter Try.func80, Try.ntmps80
      go_wp2_with (first | ((with_reducible refine gate_dst (N := 10) rfl ?_); refine Kd.R_make k24 _ 24 rfl (N := 10) rfl 26 _ _ rfl (l0.length : Int) rfl rfl Try.underlying26 (.agg #[(.int .u64 0), (.int .u64 0)]) 16 info24 rfl (by decide) (by omega) z24 (ok := fun _ => True) (okp := fun _ => True) (k24_mkM _ _ _ z24 ) (fun _ hk => hk) trivial (of_decide_eq_true (by first | (with_reducible assumption) | assumption)) (Nat.le_trans (Nat.mul_le_mul_right _ (of_decide_eq_true (by first | (with_reducible assumption) | assumption) : (l0.length : Int).toNat ≤ 17592186044416)) (by omega)) (Below.refl _ _) (Nat.le_refl _) ?_; intro v287 w4 ho5 hb hg_ hnew_; clear hg_ hnew_; (first | rw [← Ny286.out] at ho5 | (simp only [Int.reduceToNat] at ho5; rw [← Ny286.out] at ho5)); have n0_ := Aside0.mk (Kd.R_lower ho5 (below_size (by repeat (first | (with_reducible first | exact HB.out | apply below_alloc | apply pw_below_drewN | apply below_drew1) | exact HB.out)))); have n1_ := Aside0.mk (below_step (by repeat (first | (with_reducible first | exact HB.out | apply below_alloc | apply pw_below_drewN | apply below_drew1) | exact HB.out)) hb); clear HB; have HO288 := n0_; have HB := n1_; clear n0_ n1_; clear hb ho5))
      go_loopg [13] k (fun kq v13 w' => ∃ (x5_1 : List (S24)) (x13_1 : Int), v13 = .int .i64 x13_1 ∧ Aside0 (api_Subset_80.l0 kq x5_1 l0 (l0.length : Int) x13_1 = some r) ∧ Aside0 (kq ≤ k) ∧ Aside0 (Kd.R k24 24 w' w.heap.size (fun _ => True) v287 x5_1) ∧ Aside0 (Below w.heap.size w w'))
      case atStart => exact ⟨(y286), (0), (by first | rfl | (simp; done) | (simp [*]; done)), H', ⟨Nat.le_refl _⟩, ⟨by (with_reducible repeat (first | apply Kd.R_alloc | apply Kd.R_drewN | apply Kd.R_drew)); exact HO288.out⟩, ⟨by repeat (first | (with_reducible first | exact HB.out | apply below_alloc | apply pw_below_drewN | apply below_drew1) | exact HB.out)⟩⟩
      case round =>
        clear H'
        try clear c2
        try clear c2b0
        try clear c2b1
        try clear p2
        try clear c3
        try clear c3b0
        try clear c3b1
        obtain ⟨x5_1, x13_1, rfl, HA, HK1, HO_5, HB⟩ := hrel
        cases gk with
        | zero => exact absurd HA.out (by simp [api_Subset_80.l0])
        | succ k1 =>
          have H := HA.out
          clear HA
          simp only [api_Subset_80.l0] at H
          by_cases c6 : x13_1 < (l0.length : Int)
          · rw [if_pos c6] at H
            have c6b0 : decide (x13_1 < (l0.length : Int)) = true := decide_eq_true c6
            clear c6
            by_cases c7 : 0 ≤ x13_1
            · rw [if_pos c7] at H
              have c7b0 : decide (0 ≤ x13_1) = true := decide_eq_true c7
              clear c7
              by_cases c8 : x13_1 < (l0.length : Int)
              · rw [if_pos c8] at H
                have c8b0 : decide (x13_1 < (l0.length : Int)) = true := decide_eq_true c8
                clear c8
                by_cases c9 : x13_1 < (x5_1.length : Int)
                · rw [if_pos c9] at H
                  have c9b0 : decide (x13_1 < (x5_1.length : Int)) = true := decide_eq_true c9
                  clear c9
                  obtain ⟨y290, hy290⟩ : ∃ y_ : List (S24), y_ = (x5_1.set (x13_1 : Int).toNat (⟨rd l0 x13_1, 0⟩ : S24)) := ⟨_, rfl⟩
                  replace H : (api_Subset_80.l0 k1 y290 l0 (l0.length : Int) (wrap64 (x13_1 + 1))) = some r := by first | (rw [hy290]; with_reducible exact H) | (have H2_ := (Option.bind_some _ _).symm.trans H; rw [hy290]; with_reducible exact H2_) | (have H2_ := (Option.bind_some _ _).symm.trans H; with_reducible exact H2_) | with_reducible exact H | (rw [hy290]; exact H) | exact H
                  have Ny290 := Aside0.mk hy290
                  clear hy290
                  have H' := Aside0.mk H
                  clear H
                  have p289 : 0 ≤ (x13_1 : Int) := of_decide_eq_true (by first | (with_reducible assumption) | assumption)
                  have q289 : x13_1 < (l0.length : Int) := of_decide_eq_true (by first | (with_reducible assumption) | assumption)
                  obtain ⟨ad289, e289, hx289_0⟩ := Kd.at_int HR0.out x13_1 p289 q289
                  cases e289
                  replace hx289_0 := (HB.out.cell (World.block_lt_of_cell? w _ hx289_0)).trans hx289_0
                  replace p289 := eq_true p289
                  replace q289 := eq_true q289
                  have p10 : 0 ≤ (x13_1 : Int) := of_decide_eq_true (by first | (with_reducible assumption) | assumption)
                  have q10 : (x13_1 : Int) < ((x5_1.length : Int) : Int) := of_decide_eq_true (by first | (with_reducible assumption) | assumption)
                  obtain ⟨go10, co10, eo10, gb10, gl10, cl10, HG10⟩ := Kd.R_form HO_5.out (by omega)
                  (first | cases eo10 | (injection eo10 with ea_ en_ ec_; (first | subst ea_ | (injection ea_ with ea_; subst ea_)); subst ec_; clear en_))
                  have GB10 := Aside0.mk gb10
                  have GG10 := Aside0.mk HG10
                  clear gb10 gl10 HG10
                  go_wp2_with (first | ((with_reducible refine gate_closure (x := .tmp 20) (xs_ := #[.tmp 21]) rfl ?_); refine goesC_ (some 22) rfl rfl Try.func81 (by kernel_rfl) rfl #[.int .u64 (rd l0 x13_1)] rfl rfl (by (try simp only [List.map_toArray, List.map_cons, List.map_nil]); first | done | rfl) ?_; refine Calls.mono (whole_Cover1.calls (rd l0 x13_1) _) ?_; rintro e w10 ⟨rfl, hb⟩; refine ⟨_, rfl, ?_⟩; have n0_ := Aside0.mk (Kd.R_below HO_5.out hb); have n1_ := Aside0.mk (below_step HB.out hb); clear HO_5 HB; have HO_5 := n0_; have HB := n1_; clear n0_ n1_ hb; obtain ⟨ce10, hcl10, hM10, hcc10, hfr10⟩ := Kd.R_elem HO_5.out z24 (x13_1 : Int) p10 q10; obtain rfl := k24_openM hM10; have hx10_0 : w10.cell? ⟨go10, (x13_1 : Int).toNat * 2, none⟩ = some (.int .u64 ((rd_T24 x5_1 x13_1).f0)) := hcc10 0 _ rfl; have hx10_1 : w10.cell? ⟨go10, (x13_1 : Int).toNat * 2 + 1, none⟩ = some (.int .u64 ((rd_T24 x5_1 x13_1).f1)) := hcc10 1 _ rfl; have hf10_0 : w10.frozen? ⟨go10, (x13_1 : Int).toNat * 2, none⟩ = false := hfr10 0; have hf10_1 : w10.frozen? ⟨go10, (x13_1 : Int).toNat * 2 + 1, none⟩ = false := hfr10 1; clear hcl10 hcc10 hfr10 hM10; replace p10 := eq_true p10; replace q10 := eq_true q10; have HX11 := Aside0.mk (show Kd.R k24 24 w10 w.heap.size (fun _ => True) (.slice (some ⟨go10, 0, none⟩) x5_1.length co10) x5_1 from (by (with_reducible repeat (first | apply Kd.R_alloc | apply Kd.R_drewN | apply Kd.R_drew)); exact HO_5.out)); obtain ⟨ce11, hcl11, hM11, hcc11, hfr11⟩ := Kd.R_elem HX11.out z24 (x13_1 : Int) (of_decide_eq_true (by first | (with_reducible assumption) | assumption)) (by have h_ : (x13_1 : Int) < ((x5_1.length : Int) : Int) := of_decide_eq_true (by first | (with_reducible assumption) | assumption); first | exact h_ | (have e_ := (Kd.R_reads' HO_5.out).1; omega) | simpa using h_); obtain rfl := k24_openM hM11; have HP11 := Kd.R_seg HX11.out (x13_1 : Int) (of_decide_eq_true (by first | (with_reducible assumption) | assumption)) (by have h_ : (x13_1 : Int) < ((x5_1.length : Int) : Int) := of_decide_eq_true (by first | (with_reducible assumption) | assumption); first | exact h_ | (have e_ := (Kd.R_reads' HO_5.out).1; omega) | simpa using h_) (seg := [.int .u64 (rd l0 x13_1), .int .u64 0]) (j := 0) hcl11 hcc11 (show 2 ≤ 2 from by decide) (x' := (⟨rd l0 x13_1, 0⟩ : S24)) (k24_mkM _ _ _ (⟨rd l0 x13_1, 0⟩ : S24) ) (fun _ hk => hk); have hx11_0 := hcc11 0 _ rfl; (try simp only [show (k24).sz = 2 from rfl, Nat.mul_one, Nat.add_zero] at hx11_0); have hf11_0 := hfr11 0; (try simp only [show (k24).sz = 2 from rfl, Nat.mul_one, Nat.add_zero] at hf11_0); have hx11_1 := hcc11 1 _ rfl; (try simp only [show (k24).sz = 2 from rfl, Nat.mul_one, Nat.add_zero] at hx11_1); have hf11_1 := hfr11 1; (try simp only [show (k24).sz = 2 from rfl, Nat.mul_one, Nat.add_zero] at hf11_1); clear hcl11 hcc11 hfr11 hM11) | ((with_reducible refine gate_store (t := 24) (p := 23) rfl ?_); refine store_event (t := 24) (p := 23) (v := ?vo_w12) (w1 := ((w10.setCell ⟨go10, (x13_1 : Int).toNat * 2, none⟩ (.int .u64 (rd l0 x13_1))).setCell ⟨go10, (x13_1 : Int).toNat * 2 + 1, none⟩ (.int .u64 0))) ?hg ?ho ?hn ?hr ?_; (case ho => rfl); (case hg => rfl); (case hn => rfl); (case hr => first | (go_simp; done) | (go_simp; rfl)); intro w12 hw; have hg : w10.grownBy w12 (some go10) := (by rw [hw]; exact HP11.2); have hp_ : Kd.R k24 24 w12 w.heap.size (fun _ => True) (.slice (some ⟨go10, 0, none⟩) x5_1.length co10) y290 := (by rw [hw, Ny290.out]; exact HP11.1); clear HP11; have n0_ := Aside0.mk (hp_); have n1_ := Aside0.mk ((by rw [hw]; exact below_set (below_set (HB.out) GB10.out) GB10.out : Below w.heap.size w w12)); clear HO_5; clear HB; have HO_5 := n0_; have HB := n1_; clear n0_ n1_; clear hg hw hp_))
                  go_roundg k1
                  case measure => have := HK1.out; omega
                  case rel => exact ⟨(y290), (wrap64 (x13_1 + 1)), (by first | rfl | (simp; done) | (simp [*]; done)), H', ⟨by have := HK1.out; omega⟩, ⟨by (with_reducible repeat (first | apply Kd.R_alloc | apply Kd.R_drewN | apply Kd.R_drew)); exact HO_5.out⟩, ⟨by repeat (first | (with_reducible first | exact HB.out | apply below_alloc | apply pw_below_drewN | apply below_drew1) | exact HB.out)⟩⟩
                · rw [if_neg c9] at H
                  exact absurd H (by simp)
              · rw [if_neg c8] at H
                exact absurd H (by simp)
            · rw [if_neg c7] at H
              exact absurd H (by simp)
          · rw [if_neg c6] at H
            have c6b0 : decide (x13_1 < (l0.length : Int)) = false := decide_eq_false c6
            clear c6
            obtain rfl := Option.some.inj H
            go_wp2
            go_ret
            exact ⟨_, by first | rfl | (simp [errW_none, errW_some] <;> rfl) | (simp [*, errW_none, errW_some] <;> rfl), by (with_reducible repeat (first | apply Kd.R_alloc | apply Kd.R_drewN | apply Kd.R_drew)); exact HO_5.out, by repeat (first | (with_reducible first | exact HB.out | apply below_alloc | apply pw_below_drewN | apply below_drew1) | exact HB.out)⟩
    · rw [if_neg c3] at H
      exact absurd H (by simp)
  · rw [if_neg c2] at H
    exact absurd H (by simp)
def whole_Cover.f (k : Nat) (a0 : Int) (l1 : List Int) : Option ((List (S24)) × Int) := (steiner_Hang.f k a0 l1).bind fun bt291 => ((api_Subset_80.f k bt291.1).bind fun t295 => (some (t295, bt291.2)))
set_option maxHeartbeats 8000000 in
set_option maxRecDepth 100000 in
theorem whole_Cover.calls (k : Nat) (a0 : Int) (A1 : Option Addr) (c1 : Nat) (l1 : List Int) (r1 : List (S24)) (r2 : Int) (w : World) (hr1 : Kd.C (Kd.int .u64) w A1 l1.length l1) (hc1 : l1.length ≤ c1) (h : whole_Cover.f k a0 l1 = some (r1, r2)) :
    Calls Try.prog 57 #[.int .i64 a0, .slice A1 l1.length c1] w fun e w' => ∃ v0_ : Value, e = .returned (.tuple #[v0_, .int .i64 r2]) ∧ Kd.R k24 24 w' w.heap.size (fun _ => True) v0_ r1 ∧ Below w.heap.size w w' := by
  have HR1 := Aside0.mk hr1
  have HC1 := Aside0.mk hc1
  clear hr1 hc1
  have HB := Aside0.mk (Below.refl w.heap.size w)
  have H : ((steiner_Hang.f k a0 l1).bind fun bt291 => ((api_Subset_80.f k bt291.1).bind fun t295 => (some (t295, bt291.2)))) = some (r1, r2) := h
  clear h
  replace H := Option.bind_eq_some_iff.mp H
  obtain ⟨⟨t291, t292⟩, A30, H⟩ := H
  replace H : ((api_Subset_80.f k t291).bind fun t295 => (some (t295, t292))) = some (r1, r2) := H
  have A3 := Aside0.mk A30
  clear A30
  replace H := Option.bind_eq_some_iff.mp H
  obtain ⟨t295, A40, H⟩ := H
  replace H : (some (t295, t292)) = some (r1, r2) := H
  have A4 := Aside0.mk A40
  clear A40
  simp only [Option.some.injEq, Prod.mk.injEq] at H
  obtain ⟨rfl, rfl⟩ := H
  go_enter Try.func57, Try.ntmps57
  go_wp2_with (first | ((with_reducible refine gate_callee (f := 79) rfl ?_); refine goesL_ (some 11) rfl rfl Try.func79 (by kernel_rfl) rfl #[.int .i64 a0, .slice A1 l1.length c1] rfl (by (try simp only [List.map_toArray, List.map_cons, List.map_nil]); first | done | rfl | (simp only [List.length_drop, List.length_take]; rfl)) ?_; (with_reducible refine (steiner_Hang.calls k a0 _ _ l1 t291 t292 _ ?side1 ?side2 A3.out).mono ?_); (case side1 => repeat (first | exact HR1.out | (with_reducible refine Kd.C_alloc ?_ _) | (with_reducible refine Kd.C_drewN ?_ _) | (with_reducible refine Kd.C_drew ?_))); (case side2 => exact HC1.out); rintro e w5 ⟨v293, rfl, ho0, hb⟩; refine ⟨_, rfl, ?_⟩; have n0_ := Aside0.mk (Kd.R_lower ho0 (below_size (by repeat (first | (with_reducible first | exact HB.out | apply below_alloc | apply pw_below_drewN | apply below_drew1) | exact HB.out)))); have n1_ := Aside0.mk (below_step (by repeat (first | (with_reducible first | exact HB.out | apply below_alloc | apply pw_below_drewN | apply below_drew1) | exact HB.out)) hb); clear HB; have HO294 := n0_; have HB := n1_; clear n0_ n1_; (try clear hb); (try clear hb2); (try clear hk); (try clear hi); (try clear ho0); obtain ⟨Ao6, co6, eo6⟩ := Kd.R_slice HO294.out; subst eo6) | ((with_reducible refine gate_callee (f := 80) rfl ?_); refine goesL_ (some 15) rfl rfl Try.func80 (by kernel_rfl) rfl #[.slice Ao6 t291.length co6, .func (.func 81) #[] #[]] rfl (by (try simp only [List.map_toArray, List.map_cons, List.map_nil]); first | done | rfl | (simp only [List.length_drop, List.length_take]; rfl)) ?_; (with_reducible refine (api_Subset_80.calls k _ _ t291 t295 _ ?side1 ?side2 A4.out).mono ?_); (case side1 => repeat (first | exact (Kd.R_reads' HO294.out).2.2 | (with_reducible refine Kd.C_alloc ?_ _) | (with_reducible refine Kd.C_drewN ?_ _) | (with_reducible refine Kd.C_drew ?_))); (case side2 => exact (Kd.R_reads' HO294.out).2.1); rintro e w7 ⟨v296, rfl, ho0, hb⟩; refine ⟨_, rfl, ?_⟩; have n0_ := Aside0.mk (Kd.R_below (by (with_reducible repeat (first | apply Kd.R_alloc | apply Kd.R_drewN | apply Kd.R_drew)); exact HO294.out) hb); have n1_ := Aside0.mk (Kd.R_lower ho0 (below_size (by repeat (first | (with_reducible first | exact HB.out | apply below_alloc | apply pw_below_drewN | apply below_drew1) | exact HB.out)))); have n2_ := Aside0.mk (below_step (by repeat (first | (with_reducible first | exact HB.out | apply below_alloc | apply pw_below_drewN | apply below_drew1) | exact HB.out)) hb); clear HO294; clear HB; have HO294 := n0_; have HO297 := n1_; have HB := n2_; clear n0_ n1_ n2_; (try clear hb); (try clear hb2); (try clear hk); (try clear hi); (try clear ho0)))
  go_ret2
  exact ⟨_, by first | rfl | (simp [errW_none, errW_some] <;> rfl) | (simp [*, errW_none, errW_some] <;> rfl), by (with_reducible repeat (first | apply Kd.R_alloc | apply Kd.R_drewN | apply Kd.R_drew)); exact HO297.out, by repeat (first | (with_reducible first | exact HB.out | apply below_alloc | apply pw_below_drewN | apply below_drew1) | exact HB.out)⟩
def slices_Clone_uint64_uint64.f (l0 : List Int) : Option (List Int) := if l0.length < 17592186044416 then some l0 else none
set_option maxHeartbeats 8000000 in
set_option maxRecDepth 100000 in
theorem slices_Clone_uint64_uint64.calls (A0 : Option Addr) (c0 : Nat) (l0 : List Int) (r : List Int) (w : World) (hr0 : Kd.C (Kd.int .u64) w A0 l0.length l0) (hc0 : l0.length ≤ c0) (h : slices_Clone_uint64_uint64.f l0 = some r) :
    Calls Try.prog 56 #[.slice A0 l0.length c0] w fun e w' => ∃ v0_ : Value, e = .returned (v0_) ∧ Kd.R (Kd.int .u64) 22 w' w.heap.size (fun _ => True) v0_ r ∧ Below w.heap.size w w' := by
  have hl : l0.length < 17592186044416 := by
    by_cases c : l0.length < 17592186044416
    · exact c
    · simp [slices_Clone_uint64_uint64.f, c] at h
  obtain rfl : l0 = r := by simpa [slices_Clone_uint64_uint64.f, hl] using h
  clear h
  have q22 : ∀ (w : World) (a : Option Addr) (n c n' c' : Nat), (binOp .eql 39 (.slice a n c) (.slice none n' c')).run Try.prog w = .ok (.bool a.isNone) w := fun w a n c n' c' => Lib.run_eql_slice_nil w _ _ a n c n' c' Try.underlying39
  cases A0 with
  | none =>
    have h0 : l0 = [] := by
      apply List.length_eq_zero_iff.1
      by_cases hz : 0 < l0.length
      · obtain ⟨_, h, _⟩ := hr0.2.2 hz
        cases h
      · omega
    subst h0
    clear hr0
    have i0 : (none : Option Addr).isNone = true := rfl
    go_enter Try.func56, Try.ntmps56
    go_wp2
    go_ret
    exact ⟨_, rfl, Kd.R_nil _ _ _ _ _, Below.refl _ _⟩
  | some ad =>
    have HR0 := Aside0.mk hr0
    clear hr0
    have hR0 : Kd.R (Kd.int .u64) 22 (w.alloc (.cells #[] 22)) w.heap.size (fun _ => True) (.slice (some ⟨w.heap.size, 0, none⟩) 0 0) [] := ⟨fun _ _ => trivial, [], (by have h := World.ownsRow_lit (base := w.heap.size) (e := 22) (size := 1) w #[] 0 (Nat.le_refl _) (by simp only [maxLen]; omega) rfl; simpa [Kd.int, Kd.scalar] using h), ⟨rfl, fun i p hi => by simp at hi⟩⟩
    have i0 : (some ad : Option Addr).isNone = false := rfl
    go_enter Try.func56, Try.ntmps56
    go_wp2_with (first | (at_builtin; refine Kd.R_append_rows (Kd.int .u64) (w0 := w) w.heap.size rfl (.tmp 5) (.tmp 6) 39 22 (.int .u64 0) 8 rfl Try.underlying39 info22 rfl (by decide) (by omega) (.slice (some ⟨w.heap.size, 0, none⟩) 0 0) [] l0 _ _ _ (fun _ => True) (fun _ => False) rfl rfl hR0 (Kd.C_alloc HR0.out _) (fun _ _ h => h) (fun _ h => h.elim) (fun _ _ => trivial) (below_alloc (Below.refl _ _) _) (by simp) (by simp; omega) ?_; intro v1 w1 ho hb hg hat; clear hg hat; have HO := Aside0.mk ho; have HB := Aside0.mk hb; clear ho hb))
    go_ret
    exact ⟨_, rfl, HO.out, HB.out⟩
def leaf_Below.j0 : Nat → List Int → Bool → Int → Int → Option (List Int × Int)
  | 0, _, _, _, _ => none
  | k + 1, x1, x27, x302000, x302001 => if x27 = true then (some (([] : List Int), 1)) else ((slices_BinarySearch_uint64_uint64.f k x1 x302000).bind fun bt303 => ((slices_BinarySearch_uint64_uint64.f k x1 (IntKind.u64.wrap (x302001 + 1))).bind fun bt305 => (if 0 ≤ bt303.1 then (if bt303.1 ≤ bt305.1 then (if bt305.1 ≤ (x1.length : Int) then ((slices_Clone_uint64_uint64.f ((x1.take (bt305.1 : Int).toNat).drop (bt303.1 : Int).toNat)).bind fun t308 => (some (t308, 0))) else (none)) else (none)) else (none))))
def leaf_Below.f (k : Nat) (a0 : Int) (l1 : List Int) (a2 : Int) : Option (List Int × Int) := (node_Leaves.f k a0 a2).bind fun bt298 => (if bt298.2.2 = 0 then ((leaf_Check.f k a0 l1).bind fun t302 => (leaf_Below.j0 k l1 (t302 != 0) bt298.1 bt298.2.1)) else (leaf_Below.j0 k l1 true bt298.1 bt298.2.1))
set_option maxHeartbeats 8000000 in
set_option maxRecDepth 100000 in
theorem leaf_Below.calls (k : Nat) (a0 : Int) (A1 : Option Addr) (c1 : Nat) (l1 : List Int) (a2 : Int) (r1 : List Int) (r2 : Int) (w : World) (hr1 : Kd.C (Kd.int .u64) w A1 l1.length l1) (hc1 : l1.length ≤ c1) (h : leaf_Below.f k a0 l1 a2 = some (r1, r2)) :
    Calls Try.prog 103 #[.int .i64 a0, .slice A1 l1.length c1, .int .u64 a2] w fun e w' => ∃ v0_ : Value, e = .returned (.tuple #[v0_, .int .i64 r2]) ∧ Kd.R (Kd.int .u64) 22 w' w.heap.size (fun _ => True) v0_ r1 ∧ Below w.heap.size w w' := by
  have hu69 := Try.underlying69
  have HR1 := Aside0.mk hr1
  have HC1 := Aside0.mk hc1
  clear hr1 hc1
  have HB := Aside0.mk (Below.refl w.heap.size w)
  have H : ((node_Leaves.f k a0 a2).bind fun bt298 => (if bt298.2.2 = 0 then ((leaf_Check.f k a0 l1).bind fun t302 => (leaf_Below.j0 k l1 (t302 != 0) bt298.1 bt298.2.1)) else (leaf_Below.j0 k l1 true bt298.1 bt298.2.1))) = some (r1, r2) := h
  clear h
  replace H := Option.bind_eq_some_iff.mp H
  obtain ⟨⟨t298, t299, t300⟩, A40, H⟩ := H
  replace H : (if t300 = 0 then ((leaf_Check.f k a0 l1).bind fun t302 => (leaf_Below.j0 k l1 (t302 != 0) t298 t299)) else (leaf_Below.j0 k l1 true t298 t299)) = some (r1, r2) := H
  have A4 := Aside0.mk A40
  clear A40
  have HC5 := Aside0.mk H
  clear H
  go_enter Try.func103, Try.ntmps103
  go_upto_region 2 with (first | ((with_reducible refine gate_callee (f := 62) rfl ?_); refine goesL_ (some 17) rfl rfl Try.func62 (by kernel_rfl) rfl #[.int .i64 a0, .int .u64 a2] rfl (by (try simp only [List.map_toArray, List.map_cons, List.map_nil]); first | done | rfl | (simp only [List.length_drop, List.length_take]; rfl)) ?_; (with_reducible refine (node_Leaves.calls k a0 a2 t298 t299 t300 _ A4.out).mono ?_); rintro e w6 ⟨rfl, hb⟩; refine ⟨_, rfl, ?_⟩; have n0_ := Aside0.mk (below_step (by repeat (first | (with_reducible first | exact HB.out | apply below_alloc | apply pw_below_drewN | apply below_drew1) | exact HB.out)) hb); clear HB; have HB := n0_; clear n0_; (try clear hb); (try clear hb2); (try clear hk); (try clear hi)) | ((with_reducible refine gate_dst (N := 8) rfl ?_); refine box_event ?hg (N := 8) ?hd (cs := #[.int .u64 0, .int .u64 0]) (t := 69) ?hr ?_; (case hd => rfl); (case hg => rfl); (case hr => first | (go_simp; done) | (go_simp; rfl)); intro gb301 hg w7 hbox hb; have n0_ := Aside0.mk (below_step (by repeat (first | (with_reducible first | exact HB.out | apply below_alloc | apply pw_below_drewN | apply below_drew1) | exact HB.out)) hb); have n1_ := Aside0.mk (hbox); have n2_ := Aside0.mk ((by rw [hg]; exact (below_size (by repeat (first | (with_reducible first | exact HB.out | apply below_alloc | apply pw_below_drewN | apply below_drew1) | exact HB.out))) : w.heap.size ≤ gb301)); have n3_ := Aside0.mk ((by rw [hg]; exact (below_size (by repeat (first | (with_reducible first | exact HB.out | apply below_alloc | apply pw_below_drewN | apply below_drew1) | exact HB.out))) : w.heap.size ≤ gb301)); clear HB; have HB := n0_; have BK301 := n1_; have GW301 := n2_; have GE301 := n3_; clear n0_ n1_ n2_ n3_; clear hb hbox hg; have hcz8_0 : w7.cell? ⟨gb301, 0, none⟩ = some (.int .u64 0) := (blk_cell BK301.out 0).trans rfl; have hcz8_1 : w7.cell? ⟨gb301, 1, none⟩ = some (.int .u64 0) := (blk_cell BK301.out 1).trans rfl; have hfz8_0 := blk_frozen BK301.out 0; have hfz8_1 := blk_frozen BK301.out 1))
  (try simp only [Act.put, List.setIfInBounds_toArray, List.set_cons_zero, List.set_cons_succ])
  go_cut [27] (fun v27 wc => ∃ (kq : Nat) (x27_4 : Bool), v27 = .bool x27_4 ∧ Aside0 (leaf_Below.j0 kq l1 x27_4 t298 t299 = some (r1, r2)) ∧ Aside0 (kq ≤ k) ∧ Aside0 (wc.heap[gb301]? = some (.cells #[.int .u64 t298, .int .u64 t299] 69 (0, 0))) ∧ Aside0 (Below w.heap.size w wc))
  case first =>
    have H := HC5.out
    clear HC5
    by_cases c9 : t300 = 0
    · rw [if_pos c9] at H
      have c9b0 : (t300 == 0) = true := beq_iff_eq.mpr c9
      have c9b1 : (t300 != 0) = false := bne_eq_false_iff_eq.mpr c9
      clear c9
      (first | rw [c9b0] | (simp only [i64_w, i32_w]; rw [c9b0]) | skip)
      replace H := Option.bind_eq_some_iff.mp H
      obtain ⟨t302, A100, H⟩ := H
      replace H : (leaf_Below.j0 k l1 (t302 != 0) t298 t299) = some (r1, r2) := H
      have A10 := Aside0.mk A100
      clear A100
      have H' := Aside0.mk H
      clear H
      go_wp2_with (first | (go_at_call 27; (with_reducible refine (leaf_Check.calls k a0 _ _ l1 t302 _ ?side1 ?side2 A10.out).mono ?_); (case side1 => exact Kd.C_below HR1.out (by repeat (first | (with_reducible first | exact HB.out | apply below_alloc | apply pw_below_drewN | apply below_drew1 | refine below_set ?_ GE301.out) | exact HB.out))); (case side2 => exact HC1.out); rintro e w' ⟨rfl, ⟨nd, rfl⟩⟩))
      go_meet
      case rel => exact ⟨_, ((t302 != 0)), (by first | rfl | (simp; done) | (simp [*]; done)), H', ⟨by first | omega | exact Nat.le_refl _⟩, ⟨by (with_reducible repeat (first | refine blk_drewN ?_ _ | refine blk_drew ?_ | refine blk_alloc ?_ _)); refine blk_put (cs := #[.int .u64 t298, .int .u64 0]) ?_ 1 _ rfl; (with_reducible repeat (first | refine blk_drewN ?_ _ | refine blk_drew ?_ | refine blk_alloc ?_ _)); refine blk_put (cs := #[.int .u64 0, .int .u64 0]) ?_ 0 _ rfl; (with_reducible repeat (first | refine blk_drewN ?_ _ | refine blk_drew ?_ | refine blk_alloc ?_ _)); exact BK301.out⟩, ⟨by repeat (first | (with_reducible first | exact HB.out | apply below_alloc | apply pw_below_drewN | apply below_drew1 | refine below_set ?_ GE301.out) | exact HB.out)⟩⟩
    · rw [if_neg c9] at H
      have c9b0 : (t300 == 0) = false := beq_eq_false_iff_ne.mpr c9
      have c9b1 : (t300 != 0) = true := bne_iff_ne.mpr c9
      (first | rw [c9b0] | (simp only [i64_w, i32_w]; rw [c9b0]) | skip)
      have H' := Aside0.mk H
      clear H
      go_wp2
      go_meet
      case rel => exact ⟨_, (true), (by first | rfl | (simp; done) | (simp [*]; done)), H', ⟨by first | omega | exact Nat.le_refl _⟩, ⟨by (with_reducible repeat (first | refine blk_drewN ?_ _ | refine blk_drew ?_ | refine blk_alloc ?_ _)); refine blk_put (cs := #[.int .u64 t298, .int .u64 0]) ?_ 1 _ rfl; (with_reducible repeat (first | refine blk_drewN ?_ _ | refine blk_drew ?_ | refine blk_alloc ?_ _)); refine blk_put (cs := #[.int .u64 0, .int .u64 0]) ?_ 0 _ rfl; (with_reducible repeat (first | refine blk_drewN ?_ _ | refine blk_drew ?_ | refine blk_alloc ?_ _)); exact BK301.out⟩, ⟨by repeat (first | (with_reducible first | exact HB.out | apply below_alloc | apply pw_below_drewN | apply below_drew1 | refine below_set ?_ GE301.out) | exact HB.out)⟩⟩
  case rest =>
    clear HC5
    try clear c1
    try clear p2
    try clear c6
    try clear c9
    try clear c9b0
    try clear c9b1
    try clear c10
    try clear hcz8_0
    try clear hcz8_1
    try clear hfz8_0
    try clear hfz8_1
    obtain ⟨kq, x27_4, rfl, HA, HJ4, BK301, HB⟩ := hcut
    cases kq with
    | zero => exact absurd HA.out (by simp [leaf_Below.j0])
    | succ kj4 =>
      have H := HA.out
      clear HA
      simp only [leaf_Below.j0] at H
      by_cases c11 : x27_4 = true
      · subst c11
        have H1 : (some (([] : List Int), 1)) = some (r1, r2) := by rw [if_pos rfl] at H; exact H
        clear H
        have H := H1
        clear H1
        simp only [Option.some.injEq, Prod.mk.injEq] at H
        obtain ⟨rfl, rfl⟩ := H
        go_wp2
        go_ret2
        exact ⟨_, by first | rfl | (simp [errW_none, errW_some] <;> rfl) | (simp [*, errW_none, errW_some] <;> rfl), by first | exact Kd.R_nil _ _ _ _ _ | exact Kd.N_nil _ _ _ _ _ | exact Kd.V_nil _ _ _ _ _ | exact Kd.Q_nil _ _ _ _ _ | exact Kd.S_nil _ _ _ _ _, by repeat (first | (with_reducible first | exact HB.out | apply below_alloc | apply pw_below_drewN | apply below_drew1 | refine below_set ?_ GE301.out) | exact HB.out)⟩
      · replace c11 := Bool.eq_false_iff.mpr c11
        subst c11
        have H1 : ((slices_BinarySearch_uint64_uint64.f kj4 l1 t298).bind fun bt303 => ((slices_BinarySearch_uint64_uint64.f kj4 l1 (IntKind.u64.wrap (t299 + 1))).bind fun bt305 => (if 0 ≤ bt303.1 then (if bt303.1 ≤ bt305.1 then (if bt305.1 ≤ (l1.length : Int) then ((slices_Clone_uint64_uint64.f ((l1.take (bt305.1 : Int).toNat).drop (bt303.1 : Int).toNat)).bind fun t308 => (some (t308, 0))) else (none)) else (none)) else (none)))) = some (r1, r2) := by rw [if_neg (show ¬ (false = true) by decide)] at H; exact H
        clear H
        have H := H1
        clear H1
        replace H := Option.bind_eq_some_iff.mp H
        obtain ⟨⟨t303, t304⟩, A120, H⟩ := H
        replace H : ((slices_BinarySearch_uint64_uint64.f kj4 l1 (IntKind.u64.wrap (t299 + 1))).bind fun bt305 => (if 0 ≤ t303 then (if t303 ≤ bt305.1 then (if bt305.1 ≤ (l1.length : Int) then ((slices_Clone_uint64_uint64.f ((l1.take (bt305.1 : Int).toNat).drop (t303 : Int).toNat)).bind fun t308 => (some (t308, 0))) else (none)) else (none)) else (none))) = some (r1, r2) := H
        have A12 := Aside0.mk A120
        clear A120
        replace H := Option.bind_eq_some_iff.mp H
        obtain ⟨⟨t305, t306⟩, A130, H⟩ := H
        replace H : (if 0 ≤ t303 then (if t303 ≤ t305 then (if t305 ≤ (l1.length : Int) then ((slices_Clone_uint64_uint64.f ((l1.take (t305 : Int).toNat).drop (t303 : Int).toNat)).bind fun t308 => (some (t308, 0))) else (none)) else (none)) else (none)) = some (r1, r2) := H
        have A13 := Aside0.mk A130
        clear A130
        by_cases c14 : 0 ≤ t303
        · rw [if_pos c14] at H
          have c14b0 := eq_true c14
          have c14b1 : decide (0 ≤ t303) = true := decide_eq_true c14
          clear c14
          by_cases c15 : t303 ≤ t305
          · rw [if_pos c15] at H
            have c15b0 := eq_true c15
            have c15b1 : decide (t303 ≤ t305) = true := decide_eq_true c15
            clear c15
            by_cases c16 : t305 ≤ (l1.length : Int)
            · rw [if_pos c16] at H
              have c16b0 := eq_true c16
              have c16b1 : decide (t305 ≤ (l1.length : Int)) = true := decide_eq_true c16
              clear c16
              replace H := Option.bind_eq_some_iff.mp H
              obtain ⟨t308, A170, H⟩ := H
              replace H : (some (t308, 0)) = some (r1, r2) := H
              have A17 := Aside0.mk A170
              clear A170
              simp only [Option.some.injEq, Prod.mk.injEq] at H
              obtain ⟨rfl, rfl⟩ := H
              have hcz18_0 : wc.cell? ⟨gb301, 0, none⟩ = some (.int .u64 t298) := (blk_cell BK301.out 0).trans rfl
              have hcz18_1 : wc.cell? ⟨gb301, 1, none⟩ = some (.int .u64 t299) := (blk_cell BK301.out 1).trans rfl
              have hfz18_0 := blk_frozen BK301.out 0
              have hfz18_1 := blk_frozen BK301.out 1
              go_wp2_with (first | ((with_reducible refine gate_callee (f := 76) rfl ?_); refine goesL_ (some 32) rfl rfl Try.func76 (by kernel_rfl) rfl #[.slice A1 l1.length c1, .int .u64 t298] rfl (by (try simp only [List.map_toArray, List.map_cons, List.map_nil]); first | done | rfl | (simp only [List.length_drop, List.length_take]; rfl)) ?_; (with_reducible refine (slices_BinarySearch_uint64_uint64.calls kj4 _ _ l1 t298 t303 t304 _ ?side1 ?side2 A12.out).mono ?_); (case side1 => repeat (first | exact (Kd.C_below HR1.out HB.out) | (with_reducible refine Kd.C_alloc ?_ _) | (with_reducible refine Kd.C_drewN ?_ _) | (with_reducible refine Kd.C_drew ?_))); (case side2 => exact HC1.out); rintro e w' ⟨rfl, ⟨nd, rfl⟩⟩; refine ⟨_, rfl, ?_⟩) | ((with_reducible refine gate_callee (f := 76) rfl ?_); refine goesL_ (some 40) rfl rfl Try.func76 (by kernel_rfl) rfl #[.slice A1 l1.length c1, .int .u64 (IntKind.u64.wrap (t299 + 1))] rfl (by (try simp only [List.map_toArray, List.map_cons, List.map_nil]); first | done | rfl | (simp only [List.length_drop, List.length_take]; rfl)) ?_; (with_reducible refine (slices_BinarySearch_uint64_uint64.calls kj4 _ _ l1 (IntKind.u64.wrap (t299 + 1)) t305 t306 _ ?side1 ?side2 A13.out).mono ?_); (case side1 => repeat (first | exact (Kd.C_below HR1.out (by repeat (first | (with_reducible first | exact HB.out | apply below_alloc | apply pw_below_drewN | apply below_drew1 | refine below_set ?_ GE301.out) | exact HB.out))) | (with_reducible refine Kd.C_alloc ?_ _) | (with_reducible refine Kd.C_drewN ?_ _) | (with_reducible refine Kd.C_drew ?_))); (case side2 => exact HC1.out); rintro e w' ⟨rfl, ⟨nd, rfl⟩⟩; refine ⟨_, rfl, ?_⟩; obtain ⟨i019, hi019, _, hsz19, _⟩ := info_parts info22; obtain ⟨A19, hcut19, hA19, hC19⟩ := print_mid_of (P := Try.prog) (Value.int .u64) 0 39 22 .i64 .i64 Try.underlying39 hi019 hsz19 A1 c1 l1 t303 t305 (of_decide_eq_true (by first | (with_reducible assumption) | assumption)) (by first | omega | exact of_decide_eq_true (by first | (with_reducible assumption) | assumption)) (of_decide_eq_true (by first | (with_reducible assumption) | assumption)) HC1.out; have HR307 := Aside0.mk (Kd.C_of_reads (h1 := fun _ => rfl) (hA19 _ (Kd.reads_of_C HR1.out))); have HC307 := Aside0.mk hC19; clear hA19 hC19 hi019 hsz19) | ((with_reducible refine gate_callee (f := 56) rfl ?_); refine goesL_ (some 47) rfl rfl Try.func56 (by kernel_rfl) rfl #[.slice A19 ((l1.take (t305 : Int).toNat).drop (t303 : Int).toNat).length (c1 - t303.toNat)] rfl (by (try simp only [List.map_toArray, List.map_cons, List.map_nil]); first | done | (rw [show ((l1.take (t305 : Int).toNat).drop (t303 : Int).toNat).length = (t305.toNat - t303.toNat) from (by rw [List.length_drop, List.length_take]; have h_ : (t305 : Int) ≤ (l1.length : Int) := of_decide_eq_true (by first | (with_reducible assumption) | assumption); omega)] <;> rfl) | rfl | (simp only [List.length_drop, List.length_take]; rfl)) ?_; (with_reducible refine (slices_Clone_uint64_uint64.calls _ _ ((l1.take (t305 : Int).toNat).drop (t303 : Int).toNat) t308 _ ?side1 ?side2 A17.out).mono ?_); (case side1 => repeat (first | exact (Kd.C_below HR307.out (by repeat (first | (with_reducible first | exact HB.out | apply below_alloc | apply pw_below_drewN | apply below_drew1 | refine below_set ?_ GE301.out) | exact HB.out))) | (with_reducible refine Kd.C_alloc ?_ _) | (with_reducible refine Kd.C_drewN ?_ _) | (with_reducible refine Kd.C_drew ?_))); (case side2 => exact HC307.out); rintro e w20 ⟨v309, rfl, ho0, hb⟩; refine ⟨_, rfl, ?_⟩; have n0_ := Aside0.mk (Kd.R_lower ho0 (below_size (by repeat (first | (with_reducible first | exact HB.out | apply below_alloc | apply pw_below_drewN | apply below_drew1 | refine below_set ?_ GE301.out) | exact HB.out)))); have n1_ := Aside0.mk (blk_below (g := gb301) (o := .cells #[.int .u64 t298, .int .u64 t299] 69 (0, 0)) (by (with_reducible repeat (first | refine blk_drewN ?_ _ | refine blk_drew ?_ | refine blk_alloc ?_ _)); exact BK301.out) hb); have n2_ := Aside0.mk (below_step (by repeat (first | (with_reducible first | exact HB.out | apply below_alloc | apply pw_below_drewN | apply below_drew1 | refine below_set ?_ GE301.out) | exact HB.out)) hb); clear BK301; clear HB; have HO310 := n0_; have BK301 := n1_; have HB := n2_; clear n0_ n1_ n2_; (try clear hb); (try clear hb2); (try clear hk); (try clear hi); (try clear ho0)))
              go_ret2
              exact ⟨_, by first | rfl | (simp [errW_none, errW_some] <;> rfl) | (simp [*, errW_none, errW_some] <;> rfl), by (with_reducible repeat (first | apply Kd.R_alloc | apply Kd.R_drewN | apply Kd.R_drew)); exact HO310.out, by repeat (first | (with_reducible first | exact HB.out | apply below_alloc | apply pw_below_drewN | apply below_drew1 | refine below_set ?_ GE301.out) | exact HB.out)⟩
            · rw [if_neg c16] at H
              exact absurd H (by simp)
          · rw [if_neg c15] at H
            exact absurd H (by simp)
        · rw [if_neg c14] at H
          exact absurd H (by simp)
def steiner_Is.f (k : Nat) (a0 : Int) (l1 : List Int) (a2 : Int) : Option (Bool × Int) := (leaf_Below.f k a0 l1 a2).bind fun bt311 => (some (decide ((bt311.1.length : Int) > 0), bt311.2))
set_option maxHeartbeats 8000000 in
set_option maxRecDepth 100000 in
theorem steiner_Is.calls (k : Nat) (a0 : Int) (A1 : Option Addr) (c1 : Nat) (l1 : List Int) (a2 : Int) (r1 : Bool) (r2 : Int) (w : World) (hr1 : Kd.C (Kd.int .u64) w A1 l1.length l1) (hc1 : l1.length ≤ c1) (h : steiner_Is.f k a0 l1 a2 = some (r1, r2)) :
    Calls Try.prog 82 #[.int .i64 a0, .slice A1 l1.length c1, .int .u64 a2] w fun e w' => e = .returned (.tuple #[.bool r1, .int .i64 r2]) ∧ Below w.heap.size w w' := by
  have HR1 := Aside0.mk hr1
  have HC1 := Aside0.mk hc1
  clear hr1 hc1
  have HB := Aside0.mk (Below.refl w.heap.size w)
  have H : ((leaf_Below.f k a0 l1 a2).bind fun bt311 => (some (decide ((bt311.1.length : Int) > 0), bt311.2))) = some (r1, r2) := h
  clear h
  replace H := Option.bind_eq_some_iff.mp H
  obtain ⟨⟨t311, t312⟩, A40, H⟩ := H
  replace H : (some (decide ((t311.length : Int) > 0), t312)) = some (r1, r2) := H
  have A4 := Aside0.mk A40
  clear A40
  simp only [Option.some.injEq, Prod.mk.injEq] at H
  obtain ⟨rfl, rfl⟩ := H
  go_enter Try.func82, Try.ntmps82
  go_wp2_with (first | ((with_reducible refine gate_callee (f := 103) rfl ?_); refine goesL_ (some 14) rfl rfl Try.func103 (by kernel_rfl) rfl #[.int .i64 a0, .slice A1 l1.length c1, .int .u64 a2] rfl (by (try simp only [List.map_toArray, List.map_cons, List.map_nil]); first | done | rfl | (simp only [List.length_drop, List.length_take]; rfl)) ?_; (with_reducible refine (leaf_Below.calls k a0 _ _ l1 a2 t311 t312 _ ?side1 ?side2 A4.out).mono ?_); (case side1 => repeat (first | exact HR1.out | (with_reducible refine Kd.C_alloc ?_ _) | (with_reducible refine Kd.C_drewN ?_ _) | (with_reducible refine Kd.C_drew ?_))); (case side2 => exact HC1.out); rintro e w5 ⟨v313, rfl, ho0, hb⟩; refine ⟨_, rfl, ?_⟩; have n0_ := Aside0.mk (Kd.R_lower ho0 (below_size (by repeat (first | (with_reducible first | exact HB.out | apply below_alloc | apply pw_below_drewN | apply below_drew1) | exact HB.out)))); have n1_ := Aside0.mk (below_step (by repeat (first | (with_reducible first | exact HB.out | apply below_alloc | apply pw_below_drewN | apply below_drew1) | exact HB.out)) hb); clear HB; have HO314 := n0_; have HB := n1_; clear n0_ n1_; (try clear hb); (try clear hb2); (try clear hk); (try clear hi); (try clear ho0); obtain ⟨Ao6, co6, eo6⟩ := Kd.R_slice HO314.out; subst eo6))
  go_ret2
  exact ⟨by first | rfl | (simp [errW_none, errW_some] <;> rfl) | (simp [*, errW_none, errW_some] <;> rfl), by repeat (first | (with_reducible first | exact HB.out | apply below_alloc | apply pw_below_drewN | apply below_drew1) | exact HB.out)⟩
def node_Meet.f (k : Nat) (a0 : Int) (a1 : Int) (a2 : Int) : Option (Int × Int) := (node_both.f k a0 a1 a2).bind fun t315 => (if t315 = 0 then ((node_depth.f k a1).bind fun t316 => ((node_depth.f k a2).bind fun t317 => ((node_depth.f k a1).bind fun t318 => (if 0 ≤ (wrap64 (t318 - (mn t316 t317))) then ((node_depth.f k a2).bind fun t319 => (if 0 ≤ (wrap64 (t319 - (mn t316 t317))) then ((bits_Len64.f k (Go.bits .xor .u64 (shr .u64 a1 (wrap64 (t318 - (mn t316 t317)))) (shr .u64 a2 (wrap64 (t319 - (mn t316 t317)))))).bind fun t320 => (if 0 ≤ t320 then (some (shr .u64 (shr .u64 a1 (wrap64 (t318 - (mn t316 t317)))) t320, 0)) else (none))) else (none))) else (none))))) else (some (0, t315)))
set_option maxHeartbeats 8000000 in
set_option maxRecDepth 100000 in
theorem node_Meet.calls (k : Nat) (a0 : Int) (a1 : Int) (a2 : Int) (r1 : Int) (r2 : Int) (w : World) (h : node_Meet.f k a0 a1 a2 = some (r1, r2)) :
    Calls Try.prog 115 #[.int .i64 a0, .int .u64 a1, .int .u64 a2] w fun e w' => e = .returned (.tuple #[.int .u64 r1, .int .i64 r2]) ∧ Below w.heap.size w w' := by
  have HB := Aside0.mk (Below.refl w.heap.size w)
  have H : ((node_both.f k a0 a1 a2).bind fun t315 => (if t315 = 0 then ((node_depth.f k a1).bind fun t316 => ((node_depth.f k a2).bind fun t317 => ((node_depth.f k a1).bind fun t318 => (if 0 ≤ (wrap64 (t318 - (mn t316 t317))) then ((node_depth.f k a2).bind fun t319 => (if 0 ≤ (wrap64 (t319 - (mn t316 t317))) then ((bits_Len64.f k (Go.bits .xor .u64 (shr .u64 a1 (wrap64 (t318 - (mn t316 t317)))) (shr .u64 a2 (wrap64 (t319 - (mn t316 t317)))))).bind fun t320 => (if 0 ≤ t320 then (some (shr .u64 (shr .u64 a1 (wrap64 (t318 - (mn t316 t317)))) t320, 0)) else (none))) else (none))) else (none))))) else (some (0, t315)))) = some (r1, r2) := h
  clear h
  replace H := Option.bind_eq_some_iff.mp H
  obtain ⟨t315, A40, H⟩ := H
  replace H : (if t315 = 0 then ((node_depth.f k a1).bind fun t316 => ((node_depth.f k a2).bind fun t317 => ((node_depth.f k a1).bind fun t318 => (if 0 ≤ (wrap64 (t318 - (mn t316 t317))) then ((node_depth.f k a2).bind fun t319 => (if 0 ≤ (wrap64 (t319 - (mn t316 t317))) then ((bits_Len64.f k (Go.bits .xor .u64 (shr .u64 a1 (wrap64 (t318 - (mn t316 t317)))) (shr .u64 a2 (wrap64 (t319 - (mn t316 t317)))))).bind fun t320 => (if 0 ≤ t320 then (some (shr .u64 (shr .u64 a1 (wrap64 (t318 - (mn t316 t317)))) t320, 0)) else (none))) else (none))) else (none))))) else (some (0, t315))) = some (r1, r2) := H
  have A4 := Aside0.mk A40
  clear A40
  by_cases c5 : t315 = 0
  · rw [if_pos c5] at H
    have c5b0 : (t315 == 0) = true := beq_iff_eq.mpr c5
    have c5b1 : (t315 != 0) = false := bne_eq_false_iff_eq.mpr c5
    clear c5
    replace H := Option.bind_eq_some_iff.mp H
    obtain ⟨t316, A60, H⟩ := H
    replace H : ((node_depth.f k a2).bind fun t317 => ((node_depth.f k a1).bind fun t318 => (if 0 ≤ (wrap64 (t318 - (mn t316 t317))) then ((node_depth.f k a2).bind fun t319 => (if 0 ≤ (wrap64 (t319 - (mn t316 t317))) then ((bits_Len64.f k (Go.bits .xor .u64 (shr .u64 a1 (wrap64 (t318 - (mn t316 t317)))) (shr .u64 a2 (wrap64 (t319 - (mn t316 t317)))))).bind fun t320 => (if 0 ≤ t320 then (some (shr .u64 (shr .u64 a1 (wrap64 (t318 - (mn t316 t317)))) t320, 0)) else (none))) else (none))) else (none)))) = some (r1, r2) := H
    have A6 := Aside0.mk A60
    clear A60
    replace H := Option.bind_eq_some_iff.mp H
    obtain ⟨t317, A70, H⟩ := H
    replace H : ((node_depth.f k a1).bind fun t318 => (if 0 ≤ (wrap64 (t318 - (mn t316 t317))) then ((node_depth.f k a2).bind fun t319 => (if 0 ≤ (wrap64 (t319 - (mn t316 t317))) then ((bits_Len64.f k (Go.bits .xor .u64 (shr .u64 a1 (wrap64 (t318 - (mn t316 t317)))) (shr .u64 a2 (wrap64 (t319 - (mn t316 t317)))))).bind fun t320 => (if 0 ≤ t320 then (some (shr .u64 (shr .u64 a1 (wrap64 (t318 - (mn t316 t317)))) t320, 0)) else (none))) else (none))) else (none))) = some (r1, r2) := H
    have A7 := Aside0.mk A70
    clear A70
    obtain ⟨ji8, hji8⟩ : ∃ j_ : Int, (mn t316 t317) = j_ := ⟨_, rfl⟩
    replace H : ((node_depth.f k a1).bind fun t318 => (if 0 ≤ (wrap64 (t318 - (ji8))) then ((node_depth.f k a2).bind fun t319 => (if 0 ≤ (wrap64 (t319 - (ji8))) then ((bits_Len64.f k (Go.bits .xor .u64 (shr .u64 a1 (wrap64 (t318 - (ji8)))) (shr .u64 a2 (wrap64 (t319 - (ji8)))))).bind fun t320 => (if 0 ≤ t320 then (some (shr .u64 (shr .u64 a1 (wrap64 (t318 - (ji8)))) t320, 0)) else (none))) else (none))) else (none))) = some (r1, r2) := by first | (rw [hji8] at H; exact H) | (simp only [hji8] at H ⊢; exact H)
    (try rw [hji8] at A4)
    (try rw [hji8] at A6)
    (try rw [hji8] at A7)
    have hji8_ : (if t317 < t316 then t317 else t316) = ji8 := hji8
    replace H := Option.bind_eq_some_iff.mp H
    obtain ⟨t318, A90, H⟩ := H
    replace H : (if 0 ≤ (wrap64 (t318 - (ji8))) then ((node_depth.f k a2).bind fun t319 => (if 0 ≤ (wrap64 (t319 - (ji8))) then ((bits_Len64.f k (Go.bits .xor .u64 (shr .u64 a1 (wrap64 (t318 - (ji8)))) (shr .u64 a2 (wrap64 (t319 - (ji8)))))).bind fun t320 => (if 0 ≤ t320 then (some (shr .u64 (shr .u64 a1 (wrap64 (t318 - (ji8)))) t320, 0)) else (none))) else (none))) else (none)) = some (r1, r2) := H
    have A9 := Aside0.mk A90
    clear A90
    obtain ⟨ji10, hji10⟩ : ∃ j_ : Int, (wrap64 (t318 - (ji8))) = j_ := ⟨_, rfl⟩
    replace H : (if 0 ≤ (ji10) then ((node_depth.f k a2).bind fun t319 => (if 0 ≤ (wrap64 (t319 - (ji8))) then ((bits_Len64.f k (Go.bits .xor .u64 (shr .u64 a1 (ji10)) (shr .u64 a2 (wrap64 (t319 - (ji8)))))).bind fun t320 => (if 0 ≤ t320 then (some (shr .u64 (shr .u64 a1 (ji10)) t320, 0)) else (none))) else (none))) else (none)) = some (r1, r2) := by first | (rw [hji10] at H; exact H) | (simp only [hji10] at H ⊢; exact H)
    (try rw [hji10] at A4)
    (try rw [hji10] at A6)
    (try rw [hji10] at A7)
    (try rw [hji10] at A9)
    have hji10w : (IntKind.i64.wrap (t318 - (ji8))) = ji10 := (i64_w _).trans hji10
    by_cases c11 : 0 ≤ (ji10)
    · rw [if_pos c11] at H
      have c11b0 := eq_true c11
      have c11b1 : decide (0 ≤ (ji10)) = true := decide_eq_true c11
      clear c11
      obtain ⟨ji12, hji12⟩ : ∃ j_ : Int, (shr .u64 a1 (ji10)) = j_ := ⟨_, rfl⟩
      replace H : ((node_depth.f k a2).bind fun t319 => (if 0 ≤ (wrap64 (t319 - (ji8))) then ((bits_Len64.f k (Go.bits .xor .u64 (ji12) (shr .u64 a2 (wrap64 (t319 - (ji8)))))).bind fun t320 => (if 0 ≤ t320 then (some (shr .u64 (ji12) t320, 0)) else (none))) else (none))) = some (r1, r2) := by first | (rw [hji12] at H; exact H) | (simp only [hji12] at H ⊢; exact H)
      (try rw [hji12] at A4)
      (try rw [hji12] at A6)
      (try rw [hji12] at A7)
      (try rw [hji12] at A9)
      have hji12_ : (a1 / 2 ^ min (ji10).toNat 64) = ji12 := hji12
      have hji12z : (ji10) ≤ 64 → (a1 / 2 ^ (ji10).toNat) = ji12 := shr_small hji12
      replace H := Option.bind_eq_some_iff.mp H
      obtain ⟨t319, A130, H⟩ := H
      replace H : (if 0 ≤ (wrap64 (t319 - (ji8))) then ((bits_Len64.f k (Go.bits .xor .u64 (ji12) (shr .u64 a2 (wrap64 (t319 - (ji8)))))).bind fun t320 => (if 0 ≤ t320 then (some (shr .u64 (ji12) t320, 0)) else (none))) else (none)) = some (r1, r2) := H
      have A13 := Aside0.mk A130
      clear A130
      obtain ⟨ji14, hji14⟩ : ∃ j_ : Int, (wrap64 (t319 - (ji8))) = j_ := ⟨_, rfl⟩
      replace H : (if 0 ≤ (ji14) then ((bits_Len64.f k (Go.bits .xor .u64 (ji12) (shr .u64 a2 (ji14)))).bind fun t320 => (if 0 ≤ t320 then (some (shr .u64 (ji12) t320, 0)) else (none))) else (none)) = some (r1, r2) := by first | (rw [hji14] at H; exact H) | (simp only [hji14] at H ⊢; exact H)
      (try rw [hji14] at A4)
      (try rw [hji14] at A6)
      (try rw [hji14] at A7)
      (try rw [hji14] at A9)
      (try rw [hji14] at A13)
      have hji14w : (IntKind.i64.wrap (t319 - (ji8))) = ji14 := (i64_w _).trans hji14
      by_cases c15 : 0 ≤ (ji14)
      · rw [if_pos c15] at H
        have c15b0 := eq_true c15
        have c15b1 : decide (0 ≤ (ji14)) = true := decide_eq_true c15
        clear c15
        obtain ⟨ji16, hji16⟩ : ∃ j_ : Int, (shr .u64 a2 (ji14)) = j_ := ⟨_, rfl⟩
        replace H : ((bits_Len64.f k (Go.bits .xor .u64 (ji12) (ji16))).bind fun t320 => (if 0 ≤ t320 then (some (shr .u64 (ji12) t320, 0)) else (none))) = some (r1, r2) := by first | (rw [hji16] at H; exact H) | (simp only [hji16] at H ⊢; exact H)
        (try rw [hji16] at A4)
        (try rw [hji16] at A6)
        (try rw [hji16] at A7)
        (try rw [hji16] at A9)
        (try rw [hji16] at A13)
        have hji16_ : (a2 / 2 ^ min (ji14).toNat 64) = ji16 := hji16
        have hji16z : (ji14) ≤ 64 → (a2 / 2 ^ (ji14).toNat) = ji16 := shr_small hji16
        replace H := Option.bind_eq_some_iff.mp H
        obtain ⟨t320, A170, H⟩ := H
        replace H : (if 0 ≤ t320 then (some (shr .u64 (ji12) t320, 0)) else (none)) = some (r1, r2) := H
        have A17 := Aside0.mk A170
        clear A170
        by_cases c18 : 0 ≤ t320
        · rw [if_pos c18] at H
          have c18b0 := eq_true c18
          have c18b1 : decide (0 ≤ t320) = true := decide_eq_true c18
          clear c18
          obtain ⟨ji19, hji19⟩ : ∃ j_ : Int, (shr .u64 (ji12) t320) = j_ := ⟨_, rfl⟩
          replace H : (some (ji19, 0)) = some (r1, r2) := by first | (rw [hji19] at H; exact H) | (simp only [hji19] at H ⊢; exact H)
          (try rw [hji19] at A4)
          (try rw [hji19] at A6)
          (try rw [hji19] at A7)
          (try rw [hji19] at A9)
          (try rw [hji19] at A13)
          (try rw [hji19] at A17)
          have hji19_ : ((ji12) / 2 ^ min t320.toNat 64) = ji19 := hji19
          have hji19z : t320 ≤ 64 → ((ji12) / 2 ^ t320.toNat) = ji19 := shr_small hji19
          simp only [Option.some.injEq, Prod.mk.injEq] at H
          obtain ⟨rfl, rfl⟩ := H
          obtain rfl : t316 = t318 := Option.some.inj (A6.out.symm.trans A9.out)
          obtain rfl : t317 = t319 := Option.some.inj (A7.out.symm.trans A13.out)
          clear A9 A13
          go_enter Try.func115, Try.ntmps115
          go_wp2_with (first | (go_at_call 91; (with_reducible refine (node_both.calls k a0 a1 a2 t315 _ A4.out).mono ?_); rintro e w' ⟨rfl, ⟨nd, rfl⟩⟩; (try first | exact ⟨rfl, _, World.drewN_drewN _ _ _⟩ | exact ⟨rfl, _, Eq.trans (World.drewN_drewN _ _ _) (congrArg (World.drewN _) (Nat.add_assoc _ _ _))⟩)) | (go_at_call 61; (with_reducible refine (node_depth.calls k a1 t316 _ A6.out).mono ?_); rintro e w' ⟨rfl, ⟨nd, rfl⟩⟩; (try first | exact ⟨rfl, _, World.drewN_drewN _ _ _⟩ | exact ⟨rfl, _, Eq.trans (World.drewN_drewN _ _ _) (congrArg (World.drewN _) (Nat.add_assoc _ _ _))⟩)) | (go_at_call 61; (with_reducible refine (node_depth.calls k a2 t317 _ A7.out).mono ?_); rintro e w' ⟨rfl, ⟨nd, rfl⟩⟩; (try first | exact ⟨rfl, _, World.drewN_drewN _ _ _⟩ | exact ⟨rfl, _, Eq.trans (World.drewN_drewN _ _ _) (congrArg (World.drewN _) (Nat.add_assoc _ _ _))⟩)) | (go_at_call 61; (with_reducible refine (node_depth.calls k a1 t318 _ A9.out).mono ?_); rintro e w' ⟨rfl, ⟨nd, rfl⟩⟩; (try first | exact ⟨rfl, _, World.drewN_drewN _ _ _⟩ | exact ⟨rfl, _, Eq.trans (World.drewN_drewN _ _ _) (congrArg (World.drewN _) (Nat.add_assoc _ _ _))⟩)) | (go_at_call 61; (with_reducible refine (node_depth.calls k a2 t319 _ A13.out).mono ?_); rintro e w' ⟨rfl, ⟨nd, rfl⟩⟩; (try first | exact ⟨rfl, _, World.drewN_drewN _ _ _⟩ | exact ⟨rfl, _, Eq.trans (World.drewN_drewN _ _ _) (congrArg (World.drewN _) (Nat.add_assoc _ _ _))⟩)) | (go_at_call 72; (with_reducible refine (bits_Len64.calls k (Go.bits .xor .u64 (ji12) (ji16)) t320 _ A17.out).mono ?_); rintro e w' ⟨rfl, ⟨nd, rfl⟩⟩; (try first | exact ⟨rfl, _, World.drewN_drewN _ _ _⟩ | exact ⟨rfl, _, Eq.trans (World.drewN_drewN _ _ _) (congrArg (World.drewN _) (Nat.add_assoc _ _ _))⟩)))
          repeat (go_quiet (first | (go_at_call 91; (with_reducible refine (node_both.calls k a0 a1 a2 t315 _ A4.out).mono ?_); rintro e w' ⟨rfl, ⟨nd, rfl⟩⟩; (try first | exact ⟨rfl, _, World.drewN_drewN _ _ _⟩ | exact ⟨rfl, _, Eq.trans (World.drewN_drewN _ _ _) (congrArg (World.drewN _) (Nat.add_assoc _ _ _))⟩)) | (go_at_call 61; (with_reducible refine (node_depth.calls k a1 t316 _ A6.out).mono ?_); rintro e w' ⟨rfl, ⟨nd, rfl⟩⟩; (try first | exact ⟨rfl, _, World.drewN_drewN _ _ _⟩ | exact ⟨rfl, _, Eq.trans (World.drewN_drewN _ _ _) (congrArg (World.drewN _) (Nat.add_assoc _ _ _))⟩)) | (go_at_call 61; (with_reducible refine (node_depth.calls k a2 t317 _ A7.out).mono ?_); rintro e w' ⟨rfl, ⟨nd, rfl⟩⟩; (try first | exact ⟨rfl, _, World.drewN_drewN _ _ _⟩ | exact ⟨rfl, _, Eq.trans (World.drewN_drewN _ _ _) (congrArg (World.drewN _) (Nat.add_assoc _ _ _))⟩)) | (go_at_call 61; (with_reducible refine (node_depth.calls k a1 t318 _ A9.out).mono ?_); rintro e w' ⟨rfl, ⟨nd, rfl⟩⟩; (try first | exact ⟨rfl, _, World.drewN_drewN _ _ _⟩ | exact ⟨rfl, _, Eq.trans (World.drewN_drewN _ _ _) (congrArg (World.drewN _) (Nat.add_assoc _ _ _))⟩)) | (go_at_call 61; (with_reducible refine (node_depth.calls k a2 t319 _ A13.out).mono ?_); rintro e w' ⟨rfl, ⟨nd, rfl⟩⟩; (try first | exact ⟨rfl, _, World.drewN_drewN _ _ _⟩ | exact ⟨rfl, _, Eq.trans (World.drewN_drewN _ _ _) (congrArg (World.drewN _) (Nat.add_assoc _ _ _))⟩)) | (go_at_call 72; (with_reducible refine (bits_Len64.calls k (Go.bits .xor .u64 (ji12) (ji16)) t320 _ A17.out).mono ?_); rintro e w' ⟨rfl, ⟨nd, rfl⟩⟩; (try first | exact ⟨rfl, _, World.drewN_drewN _ _ _⟩ | exact ⟨rfl, _, Eq.trans (World.drewN_drewN _ _ _) (congrArg (World.drewN _) (Nat.add_assoc _ _ _))⟩))); try go_wp2_with (first | (go_at_call 91; (with_reducible refine (node_both.calls k a0 a1 a2 t315 _ A4.out).mono ?_); rintro e w' ⟨rfl, ⟨nd, rfl⟩⟩; (try first | exact ⟨rfl, _, World.drewN_drewN _ _ _⟩ | exact ⟨rfl, _, Eq.trans (World.drewN_drewN _ _ _) (congrArg (World.drewN _) (Nat.add_assoc _ _ _))⟩)) | (go_at_call 61; (with_reducible refine (node_depth.calls k a1 t316 _ A6.out).mono ?_); rintro e w' ⟨rfl, ⟨nd, rfl⟩⟩; (try first | exact ⟨rfl, _, World.drewN_drewN _ _ _⟩ | exact ⟨rfl, _, Eq.trans (World.drewN_drewN _ _ _) (congrArg (World.drewN _) (Nat.add_assoc _ _ _))⟩)) | (go_at_call 61; (with_reducible refine (node_depth.calls k a2 t317 _ A7.out).mono ?_); rintro e w' ⟨rfl, ⟨nd, rfl⟩⟩; (try first | exact ⟨rfl, _, World.drewN_drewN _ _ _⟩ | exact ⟨rfl, _, Eq.trans (World.drewN_drewN _ _ _) (congrArg (World.drewN _) (Nat.add_assoc _ _ _))⟩)) | (go_at_call 61; (with_reducible refine (node_depth.calls k a1 t318 _ A9.out).mono ?_); rintro e w' ⟨rfl, ⟨nd, rfl⟩⟩; (try first | exact ⟨rfl, _, World.drewN_drewN _ _ _⟩ | exact ⟨rfl, _, Eq.trans (World.drewN_drewN _ _ _) (congrArg (World.drewN _) (Nat.add_assoc _ _ _))⟩)) | (go_at_call 61; (with_reducible refine (node_depth.calls k a2 t319 _ A13.out).mono ?_); rintro e w' ⟨rfl, ⟨nd, rfl⟩⟩; (try first | exact ⟨rfl, _, World.drewN_drewN _ _ _⟩ | exact ⟨rfl, _, Eq.trans (World.drewN_drewN _ _ _) (congrArg (World.drewN _) (Nat.add_assoc _ _ _))⟩)) | (go_at_call 72; (with_reducible refine (bits_Len64.calls k (Go.bits .xor .u64 (ji12) (ji16)) t320 _ A17.out).mono ?_); rintro e w' ⟨rfl, ⟨nd, rfl⟩⟩; (try first | exact ⟨rfl, _, World.drewN_drewN _ _ _⟩ | exact ⟨rfl, _, Eq.trans (World.drewN_drewN _ _ _) (congrArg (World.drewN _) (Nat.add_assoc _ _ _))⟩))))
          go_ret2
          exact ⟨by first | rfl | (simp [errW_none, errW_some] <;> rfl) | (simp only [← hji8, ← hji10, ← hji12, ← hji14, ← hji16, ← hji19]; first | rfl | (simp [errW_none, errW_some] <;> rfl)) | (simp [*, errW_none, errW_some] <;> rfl), by repeat (first | (with_reducible first | exact HB.out | apply below_alloc | apply pw_below_drewN | apply below_drew1) | exact HB.out)⟩
        · rw [if_neg c18] at H
          exact absurd H (by simp)
      · rw [if_neg c15] at H
        exact absurd H (by simp)
    · rw [if_neg c11] at H
      exact absurd H (by simp)
  · rw [if_neg c5] at H
    have c5b0 : (t315 == 0) = false := beq_eq_false_iff_ne.mpr c5
    have c5b1 : (t315 != 0) = true := bne_iff_ne.mpr c5
    simp only [Option.some.injEq, Prod.mk.injEq] at H
    obtain ⟨rfl, rfl⟩ := H
    go_enter Try.func115, Try.ntmps115
    go_wp2_with (first | (go_at_call 91; (with_reducible refine (node_both.calls k a0 a1 a2 t315 _ A4.out).mono ?_); rintro e w' ⟨rfl, ⟨nd, rfl⟩⟩; (try first | exact ⟨rfl, _, World.drewN_drewN _ _ _⟩ | exact ⟨rfl, _, Eq.trans (World.drewN_drewN _ _ _) (congrArg (World.drewN _) (Nat.add_assoc _ _ _))⟩)))
    repeat (go_quiet (first | (go_at_call 91; (with_reducible refine (node_both.calls k a0 a1 a2 t315 _ A4.out).mono ?_); rintro e w' ⟨rfl, ⟨nd, rfl⟩⟩; (try first | exact ⟨rfl, _, World.drewN_drewN _ _ _⟩ | exact ⟨rfl, _, Eq.trans (World.drewN_drewN _ _ _) (congrArg (World.drewN _) (Nat.add_assoc _ _ _))⟩))); try go_wp2_with (first | (go_at_call 91; (with_reducible refine (node_both.calls k a0 a1 a2 t315 _ A4.out).mono ?_); rintro e w' ⟨rfl, ⟨nd, rfl⟩⟩; (try first | exact ⟨rfl, _, World.drewN_drewN _ _ _⟩ | exact ⟨rfl, _, Eq.trans (World.drewN_drewN _ _ _) (congrArg (World.drewN _) (Nat.add_assoc _ _ _))⟩))))
    go_ret2
    exact ⟨by first | rfl | (simp [errW_none, errW_some] <;> rfl) | (simp [*, errW_none, errW_some] <;> rfl), by repeat (first | (with_reducible first | exact HB.out | apply below_alloc | apply pw_below_drewN | apply below_drew1) | exact HB.out)⟩
def steiner_Down.f (k : Nat) (a0 : Int) (l1 : List Int) (a2 : Int) : Option (Int × Int) := (leaf_Below.f k a0 l1 a2).bind fun bt321 => (if bt321.2 = 0 then (if (bt321.1.length : Int) = 0 then (some (0, 4)) else (if 0 < (bt321.1.length : Int) then ((node_Leaf.f a0 (rd bt321.1 0)).bind fun bt326 => (if 0 ≤ (wrap64 ((bt321.1.length : Int) - 1)) then (if (wrap64 ((bt321.1.length : Int) - 1)) < (bt321.1.length : Int) then ((node_Leaf.f a0 (rd bt321.1 (wrap64 ((bt321.1.length : Int) - 1)))).bind fun bt329 => (if bt326.2 = 0 then (if bt329.2 = 0 then ((node_Meet.f k a0 bt326.1 bt329.1).bind fun bt331 => (some (bt331.1, bt331.2))) else (some (0, 1))) else (some (0, 1)))) else (none)) else (none))) else (none))) else (some (0, bt321.2)))
set_option maxHeartbeats 8000000 in
set_option maxRecDepth 100000 in
theorem steiner_Down.calls (k : Nat) (a0 : Int) (A1 : Option Addr) (c1 : Nat) (l1 : List Int) (a2 : Int) (r1 : Int) (r2 : Int) (w : World) (hr1 : Kd.C (Kd.int .u64) w A1 l1.length l1) (hc1 : l1.length ≤ c1) (h : steiner_Down.f k a0 l1 a2 = some (r1, r2)) :
    Calls Try.prog 104 #[.int .i64 a0, .slice A1 l1.length c1, .int .u64 a2] w fun e w' => e = .returned (.tuple #[.int .u64 r1, .int .i64 r2]) ∧ Below w.heap.size w w' := by
  have HR1 := Aside0.mk hr1
  have HC1 := Aside0.mk hc1
  clear hr1 hc1
  have HB := Aside0.mk (Below.refl w.heap.size w)
  have H : ((leaf_Below.f k a0 l1 a2).bind fun bt321 => (if bt321.2 = 0 then (if (bt321.1.length : Int) = 0 then (some (0, 4)) else (if 0 < (bt321.1.length : Int) then ((node_Leaf.f a0 (rd bt321.1 0)).bind fun bt326 => (if 0 ≤ (wrap64 ((bt321.1.length : Int) - 1)) then (if (wrap64 ((bt321.1.length : Int) - 1)) < (bt321.1.length : Int) then ((node_Leaf.f a0 (rd bt321.1 (wrap64 ((bt321.1.length : Int) - 1)))).bind fun bt329 => (if bt326.2 = 0 then (if bt329.2 = 0 then ((node_Meet.f k a0 bt326.1 bt329.1).bind fun bt331 => (some (bt331.1, bt331.2))) else (some (0, 1))) else (some (0, 1)))) else (none)) else (none))) else (none))) else (some (0, bt321.2)))) = some (r1, r2) := h
  clear h
  replace H := Option.bind_eq_some_iff.mp H
  obtain ⟨⟨t321, t322⟩, A40, H⟩ := H
  replace H : (if t322 = 0 then (if (t321.length : Int) = 0 then (some (0, 4)) else (if 0 < (t321.length : Int) then ((node_Leaf.f a0 (rd t321 0)).bind fun bt326 => (if 0 ≤ (wrap64 ((t321.length : Int) - 1)) then (if (wrap64 ((t321.length : Int) - 1)) < (t321.length : Int) then ((node_Leaf.f a0 (rd t321 (wrap64 ((t321.length : Int) - 1)))).bind fun bt329 => (if bt326.2 = 0 then (if bt329.2 = 0 then ((node_Meet.f k a0 bt326.1 bt329.1).bind fun bt331 => (some (bt331.1, bt331.2))) else (some (0, 1))) else (some (0, 1)))) else (none)) else (none))) else (none))) else (some (0, t322))) = some (r1, r2) := H
  have A4 := Aside0.mk A40
  clear A40
  by_cases c5 : t322 = 0
  · rw [if_pos c5] at H
    have c5b0 : (t322 == 0) = true := beq_iff_eq.mpr c5
    have c5b1 : (t322 != 0) = false := bne_eq_false_iff_eq.mpr c5
    clear c5
    by_cases c6 : (t321.length : Int) = 0
    · rw [if_pos c6] at H
      have c6b0 : ((t321.length : Int) == 0) = true := beq_iff_eq.mpr c6
      have c6b1 : ((t321.length : Int) != 0) = false := bne_eq_false_iff_eq.mpr c6
      clear c6
      simp only [Option.some.injEq, Prod.mk.injEq] at H
      obtain ⟨rfl, rfl⟩ := H
      go_enter Try.func104, Try.ntmps104
      go_wp2_with (first | ((with_reducible refine gate_callee (f := 103) rfl ?_); refine goesL_ (some 17) rfl rfl Try.func103 (by kernel_rfl) rfl #[.int .i64 a0, .slice A1 l1.length c1, .int .u64 a2] rfl (by (try simp only [List.map_toArray, List.map_cons, List.map_nil]); first | done | rfl | (simp only [List.length_drop, List.length_take]; rfl)) ?_; (with_reducible refine (leaf_Below.calls k a0 _ _ l1 a2 t321 t322 _ ?side1 ?side2 A4.out).mono ?_); (case side1 => repeat (first | exact HR1.out | (with_reducible refine Kd.C_alloc ?_ _) | (with_reducible refine Kd.C_drewN ?_ _) | (with_reducible refine Kd.C_drew ?_))); (case side2 => exact HC1.out); rintro e w7 ⟨v323, rfl, ho0, hb⟩; refine ⟨_, rfl, ?_⟩; have n0_ := Aside0.mk (Kd.R_lower ho0 (below_size (by repeat (first | (with_reducible first | exact HB.out | apply below_alloc | apply pw_below_drewN | apply below_drew1) | exact HB.out)))); have n1_ := Aside0.mk (below_step (by repeat (first | (with_reducible first | exact HB.out | apply below_alloc | apply pw_below_drewN | apply below_drew1) | exact HB.out)) hb); clear HB; have HO324 := n0_; have HB := n1_; clear n0_ n1_; (try clear hb); (try clear hb2); (try clear hk); (try clear hi); (try clear ho0); obtain ⟨Ao8, co8, eo8⟩ := Kd.R_slice HO324.out; subst eo8))
      go_ret2
      exact ⟨by first | rfl | (simp [errW_none, errW_some] <;> rfl) | (simp [*, errW_none, errW_some] <;> rfl), by repeat (first | (with_reducible first | exact HB.out | apply below_alloc | apply pw_below_drewN | apply below_drew1) | exact HB.out)⟩
    · rw [if_neg c6] at H
      have c6b0 : ((t321.length : Int) == 0) = false := beq_eq_false_iff_ne.mpr c6
      have c6b1 : ((t321.length : Int) != 0) = true := bne_iff_ne.mpr c6
      have c6b2 : ¬ (t321 = []) := fun h_ => c6 (by rw [h_]; rfl)
      by_cases c9 : 0 < (t321.length : Int)
      · rw [if_pos c9] at H
        have c9b0 : decide (0 < (t321.length : Int)) = true := decide_eq_true c9
        have c9b1 : decide (0 < t321.length) = true := decide_eq_true (by omega)
        clear c9
        replace H := Option.bind_eq_some_iff.mp H
        obtain ⟨⟨t326, t327⟩, A100, H⟩ := H
        replace H : (if 0 ≤ (wrap64 ((t321.length : Int) - 1)) then (if (wrap64 ((t321.length : Int) - 1)) < (t321.length : Int) then ((node_Leaf.f a0 (rd t321 (wrap64 ((t321.length : Int) - 1)))).bind fun bt329 => (if t327 = 0 then (if bt329.2 = 0 then ((node_Meet.f k a0 t326 bt329.1).bind fun bt331 => (some (bt331.1, bt331.2))) else (some (0, 1))) else (some (0, 1)))) else (none)) else (none)) = some (r1, r2) := H
        have A10 := Aside0.mk A100
        clear A100
        obtain ⟨ji11, hji11⟩ : ∃ j_ : Int, (wrap64 ((t321.length : Int) - 1)) = j_ := ⟨_, rfl⟩
        replace H : (if 0 ≤ (ji11) then (if (ji11) < (t321.length : Int) then ((node_Leaf.f a0 (rd t321 (ji11))).bind fun bt329 => (if t327 = 0 then (if bt329.2 = 0 then ((node_Meet.f k a0 t326 bt329.1).bind fun bt331 => (some (bt331.1, bt331.2))) else (some (0, 1))) else (some (0, 1)))) else (none)) else (none)) = some (r1, r2) := by first | (rw [hji11] at H; exact H) | (simp only [hji11] at H ⊢; exact H)
        (try rw [hji11] at A4)
        (try rw [hji11] at A10)
        have hji11w : (IntKind.i64.wrap ((t321.length : Int) - 1)) = ji11 := (i64_w _).trans hji11
        by_cases c12 : 0 ≤ (ji11)
        · rw [if_pos c12] at H
          have c12b0 : decide (0 ≤ (ji11)) = true := decide_eq_true c12
          clear c12
          by_cases c13 : (ji11) < (t321.length : Int)
          · rw [if_pos c13] at H
            have c13b0 : decide ((ji11) < (t321.length : Int)) = true := decide_eq_true c13
            clear c13
            replace H := Option.bind_eq_some_iff.mp H
            obtain ⟨⟨t329, t330⟩, A140, H⟩ := H
            replace H : (if t327 = 0 then (if t330 = 0 then ((node_Meet.f k a0 t326 t329).bind fun bt331 => (some (bt331.1, bt331.2))) else (some (0, 1))) else (some (0, 1))) = some (r1, r2) := H
            have A14 := Aside0.mk A140
            clear A140
            by_cases c15 : t327 = 0
            · rw [if_pos c15] at H
              have c15b0 : (t327 == 0) = true := beq_iff_eq.mpr c15
              have c15b1 : (t327 != 0) = false := bne_eq_false_iff_eq.mpr c15
              clear c15
              by_cases c16 : t330 = 0
              · rw [if_pos c16] at H
                have c16b0 : (t330 == 0) = true := beq_iff_eq.mpr c16
                have c16b1 : (t330 != 0) = false := bne_eq_false_iff_eq.mpr c16
                clear c16
                replace H := Option.bind_eq_some_iff.mp H
                obtain ⟨⟨t331, t332⟩, A170, H⟩ := H
                replace H : (some (t331, t332)) = some (r1, r2) := H
                have A17 := Aside0.mk A170
                clear A170
                simp only [Option.some.injEq, Prod.mk.injEq] at H
                obtain ⟨rfl, rfl⟩ := H
                go_enter Try.func104, Try.ntmps104
                go_wp2_with (first | ((with_reducible refine gate_callee (f := 103) rfl ?_); refine goesL_ (some 17) rfl rfl Try.func103 (by kernel_rfl) rfl #[.int .i64 a0, .slice A1 l1.length c1, .int .u64 a2] rfl (by (try simp only [List.map_toArray, List.map_cons, List.map_nil]); first | done | rfl | (simp only [List.length_drop, List.length_take]; rfl)) ?_; (with_reducible refine (leaf_Below.calls k a0 _ _ l1 a2 t321 t322 _ ?side1 ?side2 A4.out).mono ?_); (case side1 => repeat (first | exact HR1.out | (with_reducible refine Kd.C_alloc ?_ _) | (with_reducible refine Kd.C_drewN ?_ _) | (with_reducible refine Kd.C_drew ?_))); (case side2 => exact HC1.out); rintro e w18 ⟨v323, rfl, ho0, hb⟩; refine ⟨_, rfl, ?_⟩; have n0_ := Aside0.mk (Kd.R_lower ho0 (below_size (by repeat (first | (with_reducible first | exact HB.out | apply below_alloc | apply pw_below_drewN | apply below_drew1) | exact HB.out)))); have n1_ := Aside0.mk (below_step (by repeat (first | (with_reducible first | exact HB.out | apply below_alloc | apply pw_below_drewN | apply below_drew1) | exact HB.out)) hb); clear HB; have HO324 := n0_; have HB := n1_; clear n0_ n1_; (try clear hb); (try clear hb2); (try clear hk); (try clear hi); (try clear ho0); obtain ⟨Ao19, co19, eo19⟩ := Kd.R_slice HO324.out; subst eo19; have p325 : 0 ≤ (0 : Int) := (by omega); have q325 : 0 < (t321.length : Int) := of_decide_eq_true (by first | (with_reducible assumption) | assumption); obtain ⟨ad325, e325, hx325_0⟩ := Kd.at_int (Kd.R_reads' HO324.out).2.2 0 p325 q325; cases e325; have qi325 : (0 < t321.length) = True := eq_true (by omega); (try rw [show ((0 : Int)).toNat = 0 from rfl] at hx325_0); (try rw [Addr.add_zero'] at hx325_0); replace p325 := eq_true p325; replace q325 := eq_true q325) | ((with_reducible refine gate_callee (f := 64) rfl ?_); refine goesL_ (some 33) rfl rfl Try.func64 (by kernel_rfl) rfl #[.int .i64 a0, .int .u64 (rd t321 0)] rfl (by (try simp only [List.map_toArray, List.map_cons, List.map_nil]); first | done | rfl | (simp only [List.length_drop, List.length_take]; rfl)) ?_; (with_reducible refine (node_Leaf.calls a0 (rd t321 0) t326 t327 _ A10.out).mono ?_); rintro e w' ⟨rfl, ⟨nd, rfl⟩⟩; refine ⟨_, rfl, ?_⟩; have p328 : 0 ≤ ((ji11) : Int) := of_decide_eq_true (by first | (with_reducible assumption) | assumption); have q328 : (ji11) < (t321.length : Int) := of_decide_eq_true (by first | (with_reducible assumption) | assumption); obtain ⟨ad328, e328, hx328_0⟩ := Kd.at_int (Kd.R_reads' HO324.out).2.2 (ji11) p328 q328; obtain rfl : ad325 = ad328 := (by injection e328); replace p328 := eq_true p328; replace q328 := eq_true q328) | ((with_reducible refine gate_callee (f := 64) rfl ?_); refine goesL_ (some 44) rfl rfl Try.func64 (by kernel_rfl) rfl #[.int .i64 a0, .int .u64 (rd t321 (ji11))] rfl (by (try simp only [List.map_toArray, List.map_cons, List.map_nil]); first | done | (simp only [hji11]; rfl) | rfl | (simp only [List.length_drop, List.length_take]; rfl)) ?_; (with_reducible refine (node_Leaf.calls a0 (rd t321 (ji11)) t329 t330 _ A14.out).mono ?_); rintro e w' ⟨rfl, ⟨nd, rfl⟩⟩; refine ⟨_, rfl, ?_⟩) | ((with_reducible refine gate_callee (f := 115) rfl ?_); refine goesL_ (some 56) rfl rfl Try.func115 (by kernel_rfl) rfl #[.int .i64 a0, .int .u64 t326, .int .u64 t329] rfl (by (try simp only [List.map_toArray, List.map_cons, List.map_nil]); first | done | rfl | (simp only [List.length_drop, List.length_take]; rfl)) ?_; (with_reducible refine (node_Meet.calls k a0 t326 t329 t331 t332 _ A17.out).mono ?_); rintro e w20 ⟨rfl, hb⟩; refine ⟨_, rfl, ?_⟩; have n0_ := Aside0.mk (Kd.R_below (by (with_reducible repeat (first | apply Kd.R_alloc | apply Kd.R_drewN | apply Kd.R_drew)); exact HO324.out) hb); have n1_ := Aside0.mk (below_step (by repeat (first | (with_reducible first | exact HB.out | apply below_alloc | apply pw_below_drewN | apply below_drew1) | exact HB.out)) hb); clear HO324; clear HB; have HO324 := n0_; have HB := n1_; clear n0_ n1_; (try clear hb); (try clear hb2); (try clear hk); (try clear hi)))
                go_ret2
                exact ⟨by first | rfl | (simp [errW_none, errW_some] <;> rfl) | (simp only [← hji11]; first | rfl | (simp [errW_none, errW_some] <;> rfl)) | (simp [*, errW_none, errW_some] <;> rfl), by repeat (first | (with_reducible first | exact HB.out | apply below_alloc | apply pw_below_drewN | apply below_drew1) | exact HB.out)⟩
              · rw [if_neg c16] at H
                have c16b0 : (t330 == 0) = false := beq_eq_false_iff_ne.mpr c16
                have c16b1 : (t330 != 0) = true := bne_iff_ne.mpr c16
                simp only [Option.some.injEq, Prod.mk.injEq] at H
                obtain ⟨rfl, rfl⟩ := H
                go_enter Try.func104, Try.ntmps104
                go_wp2_with (first | ((with_reducible refine gate_callee (f := 103) rfl ?_); refine goesL_ (some 17) rfl rfl Try.func103 (by kernel_rfl) rfl #[.int .i64 a0, .slice A1 l1.length c1, .int .u64 a2] rfl (by (try simp only [List.map_toArray, List.map_cons, List.map_nil]); first | done | rfl | (simp only [List.length_drop, List.length_take]; rfl)) ?_; (with_reducible refine (leaf_Below.calls k a0 _ _ l1 a2 t321 t322 _ ?side1 ?side2 A4.out).mono ?_); (case side1 => repeat (first | exact HR1.out | (with_reducible refine Kd.C_alloc ?_ _) | (with_reducible refine Kd.C_drewN ?_ _) | (with_reducible refine Kd.C_drew ?_))); (case side2 => exact HC1.out); rintro e w21 ⟨v323, rfl, ho0, hb⟩; refine ⟨_, rfl, ?_⟩; have n0_ := Aside0.mk (Kd.R_lower ho0 (below_size (by repeat (first | (with_reducible first | exact HB.out | apply below_alloc | apply pw_below_drewN | apply below_drew1) | exact HB.out)))); have n1_ := Aside0.mk (below_step (by repeat (first | (with_reducible first | exact HB.out | apply below_alloc | apply pw_below_drewN | apply below_drew1) | exact HB.out)) hb); clear HB; have HO324 := n0_; have HB := n1_; clear n0_ n1_; (try clear hb); (try clear hb2); (try clear hk); (try clear hi); (try clear ho0); obtain ⟨Ao22, co22, eo22⟩ := Kd.R_slice HO324.out; subst eo22; have p325 : 0 ≤ (0 : Int) := (by omega); have q325 : 0 < (t321.length : Int) := of_decide_eq_true (by first | (with_reducible assumption) | assumption); obtain ⟨ad325, e325, hx325_0⟩ := Kd.at_int (Kd.R_reads' HO324.out).2.2 0 p325 q325; cases e325; have qi325 : (0 < t321.length) = True := eq_true (by omega); (try rw [show ((0 : Int)).toNat = 0 from rfl] at hx325_0); (try rw [Addr.add_zero'] at hx325_0); replace p325 := eq_true p325; replace q325 := eq_true q325) | ((with_reducible refine gate_callee (f := 64) rfl ?_); refine goesL_ (some 33) rfl rfl Try.func64 (by kernel_rfl) rfl #[.int .i64 a0, .int .u64 (rd t321 0)] rfl (by (try simp only [List.map_toArray, List.map_cons, List.map_nil]); first | done | rfl | (simp only [List.length_drop, List.length_take]; rfl)) ?_; (with_reducible refine (node_Leaf.calls a0 (rd t321 0) t326 t327 _ A10.out).mono ?_); rintro e w' ⟨rfl, ⟨nd, rfl⟩⟩; refine ⟨_, rfl, ?_⟩; have p328 : 0 ≤ ((ji11) : Int) := of_decide_eq_true (by first | (with_reducible assumption) | assumption); have q328 : (ji11) < (t321.length : Int) := of_decide_eq_true (by first | (with_reducible assumption) | assumption); obtain ⟨ad328, e328, hx328_0⟩ := Kd.at_int (Kd.R_reads' HO324.out).2.2 (ji11) p328 q328; obtain rfl : ad325 = ad328 := (by injection e328); replace p328 := eq_true p328; replace q328 := eq_true q328) | ((with_reducible refine gate_callee (f := 64) rfl ?_); refine goesL_ (some 44) rfl rfl Try.func64 (by kernel_rfl) rfl #[.int .i64 a0, .int .u64 (rd t321 (ji11))] rfl (by (try simp only [List.map_toArray, List.map_cons, List.map_nil]); first | done | (simp only [hji11]; rfl) | rfl | (simp only [List.length_drop, List.length_take]; rfl)) ?_; (with_reducible refine (node_Leaf.calls a0 (rd t321 (ji11)) t329 t330 _ A14.out).mono ?_); rintro e w' ⟨rfl, ⟨nd, rfl⟩⟩; refine ⟨_, rfl, ?_⟩))
                go_ret2
                exact ⟨by first | rfl | (simp [errW_none, errW_some] <;> rfl) | (simp only [← hji11]; first | rfl | (simp [errW_none, errW_some] <;> rfl)) | (simp [*, errW_none, errW_some] <;> rfl), by repeat (first | (with_reducible first | exact HB.out | apply below_alloc | apply pw_below_drewN | apply below_drew1) | exact HB.out)⟩
            · rw [if_neg c15] at H
              have c15b0 : (t327 == 0) = false := beq_eq_false_iff_ne.mpr c15
              have c15b1 : (t327 != 0) = true := bne_iff_ne.mpr c15
              simp only [Option.some.injEq, Prod.mk.injEq] at H
              obtain ⟨rfl, rfl⟩ := H
              go_enter Try.func104, Try.ntmps104
              go_wp2_with (first | ((with_reducible refine gate_callee (f := 103) rfl ?_); refine goesL_ (some 17) rfl rfl Try.func103 (by kernel_rfl) rfl #[.int .i64 a0, .slice A1 l1.length c1, .int .u64 a2] rfl (by (try simp only [List.map_toArray, List.map_cons, List.map_nil]); first | done | rfl | (simp only [List.length_drop, List.length_take]; rfl)) ?_; (with_reducible refine (leaf_Below.calls k a0 _ _ l1 a2 t321 t322 _ ?side1 ?side2 A4.out).mono ?_); (case side1 => repeat (first | exact HR1.out | (with_reducible refine Kd.C_alloc ?_ _) | (with_reducible refine Kd.C_drewN ?_ _) | (with_reducible refine Kd.C_drew ?_))); (case side2 => exact HC1.out); rintro e w23 ⟨v323, rfl, ho0, hb⟩; refine ⟨_, rfl, ?_⟩; have n0_ := Aside0.mk (Kd.R_lower ho0 (below_size (by repeat (first | (with_reducible first | exact HB.out | apply below_alloc | apply pw_below_drewN | apply below_drew1) | exact HB.out)))); have n1_ := Aside0.mk (below_step (by repeat (first | (with_reducible first | exact HB.out | apply below_alloc | apply pw_below_drewN | apply below_drew1) | exact HB.out)) hb); clear HB; have HO324 := n0_; have HB := n1_; clear n0_ n1_; (try clear hb); (try clear hb2); (try clear hk); (try clear hi); (try clear ho0); obtain ⟨Ao24, co24, eo24⟩ := Kd.R_slice HO324.out; subst eo24; have p325 : 0 ≤ (0 : Int) := (by omega); have q325 : 0 < (t321.length : Int) := of_decide_eq_true (by first | (with_reducible assumption) | assumption); obtain ⟨ad325, e325, hx325_0⟩ := Kd.at_int (Kd.R_reads' HO324.out).2.2 0 p325 q325; cases e325; have qi325 : (0 < t321.length) = True := eq_true (by omega); (try rw [show ((0 : Int)).toNat = 0 from rfl] at hx325_0); (try rw [Addr.add_zero'] at hx325_0); replace p325 := eq_true p325; replace q325 := eq_true q325) | ((with_reducible refine gate_callee (f := 64) rfl ?_); refine goesL_ (some 33) rfl rfl Try.func64 (by kernel_rfl) rfl #[.int .i64 a0, .int .u64 (rd t321 0)] rfl (by (try simp only [List.map_toArray, List.map_cons, List.map_nil]); first | done | rfl | (simp only [List.length_drop, List.length_take]; rfl)) ?_; (with_reducible refine (node_Leaf.calls a0 (rd t321 0) t326 t327 _ A10.out).mono ?_); rintro e w' ⟨rfl, ⟨nd, rfl⟩⟩; refine ⟨_, rfl, ?_⟩; have p328 : 0 ≤ ((ji11) : Int) := of_decide_eq_true (by first | (with_reducible assumption) | assumption); have q328 : (ji11) < (t321.length : Int) := of_decide_eq_true (by first | (with_reducible assumption) | assumption); obtain ⟨ad328, e328, hx328_0⟩ := Kd.at_int (Kd.R_reads' HO324.out).2.2 (ji11) p328 q328; obtain rfl : ad325 = ad328 := (by injection e328); replace p328 := eq_true p328; replace q328 := eq_true q328) | ((with_reducible refine gate_callee (f := 64) rfl ?_); refine goesL_ (some 44) rfl rfl Try.func64 (by kernel_rfl) rfl #[.int .i64 a0, .int .u64 (rd t321 (ji11))] rfl (by (try simp only [List.map_toArray, List.map_cons, List.map_nil]); first | done | (simp only [hji11]; rfl) | rfl | (simp only [List.length_drop, List.length_take]; rfl)) ?_; (with_reducible refine (node_Leaf.calls a0 (rd t321 (ji11)) t329 t330 _ A14.out).mono ?_); rintro e w' ⟨rfl, ⟨nd, rfl⟩⟩; refine ⟨_, rfl, ?_⟩))
              go_ret2
              exact ⟨by first | rfl | (simp [errW_none, errW_some] <;> rfl) | (simp only [← hji11]; first | rfl | (simp [errW_none, errW_some] <;> rfl)) | (simp [*, errW_none, errW_some] <;> rfl), by repeat (first | (with_reducible first | exact HB.out | apply below_alloc | apply pw_below_drewN | apply below_drew1) | exact HB.out)⟩
          · rw [if_neg c13] at H
            exact absurd H (by simp)
        · rw [if_neg c12] at H
          exact absurd H (by simp)
      · rw [if_neg c9] at H
        exact absurd H (by simp)
  · rw [if_neg c5] at H
    have c5b0 : (t322 == 0) = false := beq_eq_false_iff_ne.mpr c5
    have c5b1 : (t322 != 0) = true := bne_iff_ne.mpr c5
    simp only [Option.some.injEq, Prod.mk.injEq] at H
    obtain ⟨rfl, rfl⟩ := H
    go_enter Try.func104, Try.ntmps104
    go_wp2_with (first | ((with_reducible refine gate_callee (f := 103) rfl ?_); refine goesL_ (some 17) rfl rfl Try.func103 (by kernel_rfl) rfl #[.int .i64 a0, .slice A1 l1.length c1, .int .u64 a2] rfl (by (try simp only [List.map_toArray, List.map_cons, List.map_nil]); first | done | rfl | (simp only [List.length_drop, List.length_take]; rfl)) ?_; (with_reducible refine (leaf_Below.calls k a0 _ _ l1 a2 t321 t322 _ ?side1 ?side2 A4.out).mono ?_); (case side1 => repeat (first | exact HR1.out | (with_reducible refine Kd.C_alloc ?_ _) | (with_reducible refine Kd.C_drewN ?_ _) | (with_reducible refine Kd.C_drew ?_))); (case side2 => exact HC1.out); rintro e w25 ⟨v323, rfl, ho0, hb⟩; refine ⟨_, rfl, ?_⟩; have n0_ := Aside0.mk (Kd.R_lower ho0 (below_size (by repeat (first | (with_reducible first | exact HB.out | apply below_alloc | apply pw_below_drewN | apply below_drew1) | exact HB.out)))); have n1_ := Aside0.mk (below_step (by repeat (first | (with_reducible first | exact HB.out | apply below_alloc | apply pw_below_drewN | apply below_drew1) | exact HB.out)) hb); clear HB; have HO324 := n0_; have HB := n1_; clear n0_ n1_; (try clear hb); (try clear hb2); (try clear hk); (try clear hi); (try clear ho0)))
    go_ret2
    exact ⟨by first | rfl | (simp [errW_none, errW_some] <;> rfl) | (simp [*, errW_none, errW_some] <;> rfl), by repeat (first | (with_reducible first | exact HB.out | apply below_alloc | apply pw_below_drewN | apply below_drew1) | exact HB.out)⟩
def cmp_Or_int.l0 : Nat → Int → List Int → Int → Int → Option (Int)
  | 0, _, _, _, _ => none
  | k + 1, x3, x6, x7, x8 => if x8 < x7 then (if 0 ≤ x8 then (if x8 < (x6.length : Int) then (if (rd x6 x8) = x3 then (cmp_Or_int.l0 k x3 x6 x7 (wrap64 (x8 + 1))) else (some (rd x6 x8))) else (none)) else (none)) else (some x3)
def cmp_Or_int.f (k : Nat) (l0 : List Int) : Option (Int) := cmp_Or_int.l0 k 0 l0 (l0.length : Int) 0
set_option maxHeartbeats 8000000 in
set_option maxRecDepth 100000 in
theorem cmp_Or_int.calls (k : Nat) (A0 : Option Addr) (c0 : Nat) (l0 : List Int) (r : Int) (w : World) (hr0 : Kd.C (Kd.int .i64) w A0 l0.length l0) (hc0 : l0.length ≤ c0) (h : cmp_Or_int.f k l0 = some r) :
    Calls Try.prog 89 #[.slice A0 l0.length c0] w fun e w' => e = .returned (.int .i64 r) ∧ Drawn0 w w' := by
  have HR0 := Aside0.mk hr0
  have HC0 := Aside0.mk hc0
  clear hr0 hc0
  have H : (cmp_Or_int.l0 k 0 l0 (l0.length : Int) 0) = some r := h
  clear h
  have H' := Aside0.mk H
  clear H
  go_enter Try.func89, Try.ntmps89
  go_wp2
  go_loopg [8] k (fun kq v8 w' => ∃ (x8_1 : Int), v8 = .int .i64 x8_1 ∧ Aside0 (cmp_Or_int.l0 kq 0 l0 (l0.length : Int) x8_1 = some r) ∧ Aside0 (kq ≤ k) ∧ Drawn0 w w')
  case atStart => exact ⟨(0), (by first | rfl | (simp; done) | (simp [*]; done)), H', ⟨Nat.le_refl _⟩, by repeat (first | exact Drawn0.refl _ | apply Drawn0.step)⟩
  case round =>
    clear H'
    obtain ⟨x8_1, rfl, HA, HK1, ⟨m1, rfl⟩⟩ := hrel
    cases gk with
    | zero => exact absurd HA.out (by simp [cmp_Or_int.l0])
    | succ k1 =>
      have H := HA.out
      clear HA
      simp only [cmp_Or_int.l0] at H
      by_cases c2 : x8_1 < (l0.length : Int)
      · rw [if_pos c2] at H
        have c2b0 : decide (x8_1 < (l0.length : Int)) = true := decide_eq_true c2
        clear c2
        by_cases c3 : 0 ≤ x8_1
        · rw [if_pos c3] at H
          have c3b0 : decide (0 ≤ x8_1) = true := decide_eq_true c3
          clear c3
          by_cases c4 : x8_1 < (l0.length : Int)
          · rw [if_pos c4] at H
            have c4b0 : decide (x8_1 < (l0.length : Int)) = true := decide_eq_true c4
            clear c4
            by_cases c5 : (rd l0 x8_1) = 0
            · rw [if_pos c5] at H
              have c5b0 : ((rd l0 x8_1) == 0) = true := beq_iff_eq.mpr c5
              have c5b1 : ((rd l0 x8_1) != 0) = false := bne_eq_false_iff_eq.mpr c5
              clear c5
              have H' := Aside0.mk H
              clear H
              have p337 : 0 ≤ (x8_1 : Int) := of_decide_eq_true (by first | (with_reducible assumption) | assumption)
              have q337 : x8_1 < (l0.length : Int) := of_decide_eq_true (by first | (with_reducible assumption) | assumption)
              obtain ⟨ad337, e337, hx337_0⟩ := Kd.at_int HR0.out x8_1 p337 q337
              cases e337
              replace p337 := eq_true p337
              replace q337 := eq_true q337
              go_wp2
              go_roundg k1
              case measure => have := HK1.out; omega
              case rel => exact ⟨(wrap64 (x8_1 + 1)), (by first | rfl | (simp; done) | (simp [*]; done)), H', ⟨by have := HK1.out; omega⟩, by repeat (first | exact Drawn0.refl _ | apply Drawn0.step)⟩
            · rw [if_neg c5] at H
              have c5b0 : ((rd l0 x8_1) == 0) = false := beq_eq_false_iff_ne.mpr c5
              have c5b1 : ((rd l0 x8_1) != 0) = true := bne_iff_ne.mpr c5
              obtain rfl := Option.some.inj H
              have p337 : 0 ≤ (x8_1 : Int) := of_decide_eq_true (by first | (with_reducible assumption) | assumption)
              have q337 : x8_1 < (l0.length : Int) := of_decide_eq_true (by first | (with_reducible assumption) | assumption)
              obtain ⟨ad337, e337, hx337_0⟩ := Kd.at_int HR0.out x8_1 p337 q337
              cases e337
              replace p337 := eq_true p337
              replace q337 := eq_true q337
              go_wp2
              go_ret
              exact ⟨by first | rfl | (simp; done) | (simp [*]; done), by repeat (first | exact Drawn0.refl _ | apply Drawn0.step)⟩
          · rw [if_neg c4] at H
            exact absurd H (by simp)
        · rw [if_neg c3] at H
          exact absurd H (by simp)
      · rw [if_neg c2] at H
        have c2b0 : decide (x8_1 < (l0.length : Int)) = false := decide_eq_false c2
        clear c2
        obtain rfl := Option.some.inj H
        go_wp2
        go_ret
        exact ⟨by first | rfl | (simp; done) | (simp [*]; done), by repeat (first | exact Drawn0.refl _ | apply Drawn0.step)⟩
def cmp_Compare_uint64.f (a0 : Int) (a1 : Int) : Option (Int) := (cmp_isNaN_uint64.f a0).bind fun t338 => ((cmp_isNaN_uint64.f a1).bind fun t339 => (if t338 = true then (if t339 = true then (some 0) else (some (-1))) else (if t339 = true then (some 1) else (if a0 < a1 then (some (-1)) else (if a0 > a1 then (some 1) else (some 0))))))
set_option maxHeartbeats 8000000 in
set_option maxRecDepth 100000 in
theorem cmp_Compare_uint64.calls (a0 : Int) (a1 : Int) (r : Int) (w : World) (h : cmp_Compare_uint64.f a0 a1 = some r) :
    Calls Try.prog 90 #[.int .u64 a0, .int .u64 a1] w fun e w' => e = .returned (.int .i64 r) ∧ Drawn0 w w' := by
  have H : ((cmp_isNaN_uint64.f a0).bind fun t338 => ((cmp_isNaN_uint64.f a1).bind fun t339 => (if t338 = true then (if t339 = true then (some 0) else (some (-1))) else (if t339 = true then (some 1) else (if a0 < a1 then (some (-1)) else (if a0 > a1 then (some 1) else (some 0))))))) = some r := h
  clear h
  replace H := Option.bind_eq_some_iff.mp H
  obtain ⟨t338, A30, H⟩ := H
  replace H : ((cmp_isNaN_uint64.f a1).bind fun t339 => (if t338 = true then (if t339 = true then (some 0) else (some (-1))) else (if t339 = true then (some 1) else (if a0 < a1 then (some (-1)) else (if a0 > a1 then (some 1) else (some 0)))))) = some r := H
  have A3 := Aside0.mk A30
  clear A30
  replace H := Option.bind_eq_some_iff.mp H
  obtain ⟨t339, A40, H⟩ := H
  replace H : (if t338 = true then (if t339 = true then (some 0) else (some (-1))) else (if t339 = true then (some 1) else (if a0 < a1 then (some (-1)) else (if a0 > a1 then (some 1) else (some 0))))) = some r := H
  have A4 := Aside0.mk A40
  clear A40
  by_cases c5 : t338 = true
  · subst c5
    have H1 : (if t339 = true then (some 0) else (some (-1))) = some r := by rw [if_pos rfl] at H; exact H
    clear H
    have H := H1
    clear H1
    by_cases c6 : t339 = true
    · subst c6
      have H1 : (some 0) = some r := by rw [if_pos rfl] at H; exact H
      clear H
      have H := H1
      clear H1
      obtain rfl := Option.some.inj H
      go_enter Try.func90, Try.ntmps90
      go_wp2_with (first | ((with_reducible refine gate_callee (f := 109) rfl ?_); refine goesL_ (some 8) rfl rfl Try.func109 (by kernel_rfl) rfl #[.int .u64 a0] rfl (by (try simp only [List.map_toArray, List.map_cons, List.map_nil]); first | done | rfl | (simp only [List.length_drop, List.length_take]; rfl)) ?_; (with_reducible refine (cmp_isNaN_uint64.calls a0 true _ A3.out).mono ?_); rintro e w' ⟨rfl, ⟨nd, rfl⟩⟩; refine ⟨_, rfl, ?_⟩) | ((with_reducible refine gate_callee (f := 109) rfl ?_); refine goesL_ (some 10) rfl rfl Try.func109 (by kernel_rfl) rfl #[.int .u64 a1] rfl (by (try simp only [List.map_toArray, List.map_cons, List.map_nil]); first | done | rfl | (simp only [List.length_drop, List.length_take]; rfl)) ?_; (with_reducible refine (cmp_isNaN_uint64.calls a1 true _ A4.out).mono ?_); rintro e w' ⟨rfl, ⟨nd, rfl⟩⟩; refine ⟨_, rfl, ?_⟩))
      go_ret
      exact ⟨by first | rfl | (simp; done) | (simp [*]; done), by repeat (first | exact Drawn0.refl _ | apply Drawn0.step)⟩
    · replace c6 := Bool.eq_false_iff.mpr c6
      subst c6
      have H1 : (some (-1)) = some r := by rw [if_neg (show ¬ (false = true) by decide)] at H; exact H
      clear H
      have H := H1
      clear H1
      obtain rfl := Option.some.inj H
      go_enter Try.func90, Try.ntmps90
      go_wp2_with (first | ((with_reducible refine gate_callee (f := 109) rfl ?_); refine goesL_ (some 8) rfl rfl Try.func109 (by kernel_rfl) rfl #[.int .u64 a0] rfl (by (try simp only [List.map_toArray, List.map_cons, List.map_nil]); first | done | rfl | (simp only [List.length_drop, List.length_take]; rfl)) ?_; (with_reducible refine (cmp_isNaN_uint64.calls a0 true _ A3.out).mono ?_); rintro e w' ⟨rfl, ⟨nd, rfl⟩⟩; refine ⟨_, rfl, ?_⟩) | ((with_reducible refine gate_callee (f := 109) rfl ?_); refine goesL_ (some 10) rfl rfl Try.func109 (by kernel_rfl) rfl #[.int .u64 a1] rfl (by (try simp only [List.map_toArray, List.map_cons, List.map_nil]); first | done | rfl | (simp only [List.length_drop, List.length_take]; rfl)) ?_; (with_reducible refine (cmp_isNaN_uint64.calls a1 false _ A4.out).mono ?_); rintro e w' ⟨rfl, ⟨nd, rfl⟩⟩; refine ⟨_, rfl, ?_⟩))
      go_ret
      exact ⟨by first | rfl | (simp; done) | (simp [*]; done), by repeat (first | exact Drawn0.refl _ | apply Drawn0.step)⟩
  · replace c5 := Bool.eq_false_iff.mpr c5
    subst c5
    have H1 : (if t339 = true then (some 1) else (if a0 < a1 then (some (-1)) else (if a0 > a1 then (some 1) else (some 0)))) = some r := by rw [if_neg (show ¬ (false = true) by decide)] at H; exact H
    clear H
    have H := H1
    clear H1
    by_cases c7 : t339 = true
    · subst c7
      have H1 : (some 1) = some r := by rw [if_pos rfl] at H; exact H
      clear H
      have H := H1
      clear H1
      obtain rfl := Option.some.inj H
      go_enter Try.func90, Try.ntmps90
      go_wp2_with (first | ((with_reducible refine gate_callee (f := 109) rfl ?_); refine goesL_ (some 8) rfl rfl Try.func109 (by kernel_rfl) rfl #[.int .u64 a0] rfl (by (try simp only [List.map_toArray, List.map_cons, List.map_nil]); first | done | rfl | (simp only [List.length_drop, List.length_take]; rfl)) ?_; (with_reducible refine (cmp_isNaN_uint64.calls a0 false _ A3.out).mono ?_); rintro e w' ⟨rfl, ⟨nd, rfl⟩⟩; refine ⟨_, rfl, ?_⟩) | ((with_reducible refine gate_callee (f := 109) rfl ?_); refine goesL_ (some 10) rfl rfl Try.func109 (by kernel_rfl) rfl #[.int .u64 a1] rfl (by (try simp only [List.map_toArray, List.map_cons, List.map_nil]); first | done | rfl | (simp only [List.length_drop, List.length_take]; rfl)) ?_; (with_reducible refine (cmp_isNaN_uint64.calls a1 true _ A4.out).mono ?_); rintro e w' ⟨rfl, ⟨nd, rfl⟩⟩; refine ⟨_, rfl, ?_⟩))
      go_ret
      exact ⟨by first | rfl | (simp; done) | (simp [*]; done), by repeat (first | exact Drawn0.refl _ | apply Drawn0.step)⟩
    · replace c7 := Bool.eq_false_iff.mpr c7
      subst c7
      have H1 : (if a0 < a1 then (some (-1)) else (if a0 > a1 then (some 1) else (some 0))) = some r := by rw [if_neg (show ¬ (false = true) by decide)] at H; exact H
      clear H
      have H := H1
      clear H1
      by_cases c8 : a0 < a1
      · rw [if_pos c8] at H
        have c8b0 : decide (a0 < a1) = true := decide_eq_true c8
        clear c8
        obtain rfl := Option.some.inj H
        go_enter Try.func90, Try.ntmps90
        go_wp2_with (first | ((with_reducible refine gate_callee (f := 109) rfl ?_); refine goesL_ (some 8) rfl rfl Try.func109 (by kernel_rfl) rfl #[.int .u64 a0] rfl (by (try simp only [List.map_toArray, List.map_cons, List.map_nil]); first | done | rfl | (simp only [List.length_drop, List.length_take]; rfl)) ?_; (with_reducible refine (cmp_isNaN_uint64.calls a0 false _ A3.out).mono ?_); rintro e w' ⟨rfl, ⟨nd, rfl⟩⟩; refine ⟨_, rfl, ?_⟩) | ((with_reducible refine gate_callee (f := 109) rfl ?_); refine goesL_ (some 10) rfl rfl Try.func109 (by kernel_rfl) rfl #[.int .u64 a1] rfl (by (try simp only [List.map_toArray, List.map_cons, List.map_nil]); first | done | rfl | (simp only [List.length_drop, List.length_take]; rfl)) ?_; (with_reducible refine (cmp_isNaN_uint64.calls a1 false _ A4.out).mono ?_); rintro e w' ⟨rfl, ⟨nd, rfl⟩⟩; refine ⟨_, rfl, ?_⟩))
        go_ret
        exact ⟨by first | rfl | (simp; done) | (simp [*]; done), by repeat (first | exact Drawn0.refl _ | apply Drawn0.step)⟩
      · rw [if_neg c8] at H
        have c8b0 : decide (a0 < a1) = false := decide_eq_false c8
        clear c8
        by_cases c9 : a0 > a1
        · rw [if_pos c9] at H
          have c9b0 : decide (a1 < a0) = true := decide_eq_true c9
          clear c9
          obtain rfl := Option.some.inj H
          go_enter Try.func90, Try.ntmps90
          go_wp2_with (first | ((with_reducible refine gate_callee (f := 109) rfl ?_); refine goesL_ (some 8) rfl rfl Try.func109 (by kernel_rfl) rfl #[.int .u64 a0] rfl (by (try simp only [List.map_toArray, List.map_cons, List.map_nil]); first | done | rfl | (simp only [List.length_drop, List.length_take]; rfl)) ?_; (with_reducible refine (cmp_isNaN_uint64.calls a0 false _ A3.out).mono ?_); rintro e w' ⟨rfl, ⟨nd, rfl⟩⟩; refine ⟨_, rfl, ?_⟩) | ((with_reducible refine gate_callee (f := 109) rfl ?_); refine goesL_ (some 10) rfl rfl Try.func109 (by kernel_rfl) rfl #[.int .u64 a1] rfl (by (try simp only [List.map_toArray, List.map_cons, List.map_nil]); first | done | rfl | (simp only [List.length_drop, List.length_take]; rfl)) ?_; (with_reducible refine (cmp_isNaN_uint64.calls a1 false _ A4.out).mono ?_); rintro e w' ⟨rfl, ⟨nd, rfl⟩⟩; refine ⟨_, rfl, ?_⟩))
          go_ret
          exact ⟨by first | rfl | (simp; done) | (simp [*]; done), by repeat (first | exact Drawn0.refl _ | apply Drawn0.step)⟩
        · rw [if_neg c9] at H
          have c9b0 : decide (a1 < a0) = false := decide_eq_false c9
          clear c9
          obtain rfl := Option.some.inj H
          go_enter Try.func90, Try.ntmps90
          go_wp2_with (first | ((with_reducible refine gate_callee (f := 109) rfl ?_); refine goesL_ (some 8) rfl rfl Try.func109 (by kernel_rfl) rfl #[.int .u64 a0] rfl (by (try simp only [List.map_toArray, List.map_cons, List.map_nil]); first | done | rfl | (simp only [List.length_drop, List.length_take]; rfl)) ?_; (with_reducible refine (cmp_isNaN_uint64.calls a0 false _ A3.out).mono ?_); rintro e w' ⟨rfl, ⟨nd, rfl⟩⟩; refine ⟨_, rfl, ?_⟩) | ((with_reducible refine gate_callee (f := 109) rfl ?_); refine goesL_ (some 10) rfl rfl Try.func109 (by kernel_rfl) rfl #[.int .u64 a1] rfl (by (try simp only [List.map_toArray, List.map_cons, List.map_nil]); first | done | rfl | (simp only [List.length_drop, List.length_take]; rfl)) ?_; (with_reducible refine (cmp_isNaN_uint64.calls a1 false _ A4.out).mono ?_); rintro e w' ⟨rfl, ⟨nd, rfl⟩⟩; refine ⟨_, rfl, ?_⟩))
          go_ret
          exact ⟨by first | rfl | (simp; done) | (simp [*]; done), by repeat (first | exact Drawn0.refl _ | apply Drawn0.step)⟩
mutual
def diff_cut.f : Nat → Int → List Int → Int → List S24 → Option (List S24 × Int)
  | 0, _, _, _, _ => none
  | k + 1, h, l, top, out => (steiner_Down.f k h l top).bind fun d => if d.2 = 0 then (if d.1 = top then diff_cut.g k h l d.1 0 out else if out.length < 8796093022207 then diff_cut.g k h l d.1 0 (out ++ [⟨top, d.1⟩]) else none) else some (out, d.2)
def diff_cut.g : Nat → Int → List Int → Int → Int → List S24 → Option (List S24 × Int)
  | 0, _, _, _, _, _ => none
  | k + 1, h, l, d, t, out => if t < 2 then ((node_Child.f k h d t).bind fun n => if n.2 = 4 then some (out, 0) else if n.2 = 0 then ((diff_cut.f k h l n.1 out).bind fun r => if r.2 = 0 then diff_cut.g k h l d (wrap64 (t + 1)) r.1 else some r) else some (out, n.2)) else some (out, 0)
end
theorem cu_cells {W : World} {b T : Nat} {x y z : Value} (h : W.heap[b]? = some (.cells #[x, y, z] T (0, 0))) : W.cell? ⟨b, 0, none⟩ = some x ∧ W.cell? ⟨b, 1, none⟩ = some y ∧ W.cell? ⟨b, 2, none⟩ = some z ∧ W.frozen? ⟨b, 2, none⟩ = false := by
  simp [World.cell?, World.frozen?, h]
theorem cu_grown {W w1 : World} {g : Nat} {o : Obj} {row : Option Nat} (h : W.heap[g]? = some o) (hg : W.grownBy w1 row) (hne : some g ≠ row) : w1.heap[g]? = some o := (hg.5 g (blk_lt h) (by first | exact hne | exact fun e => hne e.symm)).trans h
theorem cu_set {W : World} {b T : Nat} {x y z : Value} (h : W.heap[b]? = some (.cells #[x, y, z] T (0, 0))) (u : Value) : (W.setCell ⟨b, 2, none⟩ u).heap[b]? = some (.cells #[x, y, u] T (0, 0)) := by
  simp [World.setCell, Array.getElem?_modify, h]
theorem cu_R {W : World} {e base b T : Nat} {ok : Nat → Prop} {v u : Value} {xs : List S24} {cs : Array Value} (h : Kd.R k24 e W base ok v xs) (hx : W.heap[b]? = some (.cells cs T (0, 0))) (hT : e ≠ T) : Kd.R k24 e (W.setCell ⟨b, 2, none⟩ u) base ok v xs := by
  refine Kd.R_mono (Kd.R_move (Kd.R_bound h) ?_) (fun k_ hk => hk.1)
  rintro k_ ⟨_, _, _, q, hq, cells, hc⟩
  refine Below.heap_setCell W _ u k_ ?_
  rintro rfl
  rw [hx] at hc
  simp only [Option.some.injEq, Obj.cells.injEq] at hc
  simp [k24, Kd.iso, Kd.pair, Kd.int, Kd.scalar] at hq
  exact hT (hq.symm.trans hc.2.1.symm)
set_option maxHeartbeats 8000000 in
set_option maxRecDepth 100000 in
theorem diff_cut.calls (k : Nat) : ∀ (a0 : Int) (A : Option Addr) (c : Nat) (l : List Int) (out : List S24) (top r : Int) (out' : List S24) (w W : World) (v : Value) (hr : Kd.C (Kd.int .u64) w A l.length l) (hc : l.length ≤ c) (hB : Below w.heap.size w W) (hx : W.heap[w.heap.size]? = some (.cells #[.int .i64 a0, .slice A l.length c, v] 116 (0, 0))) (hv : Kd.R k24 24 W w.heap.size (fun _ => True) v out) (h : diff_cut.f k a0 l top out = some (out', r)),
    Calls Try.prog 83 #[.pointer (some ⟨w.heap.size, 0, none⟩), .int .u64 top] W fun e W' => e = .returned (.int .i64 r) ∧ ∃ v' : Value, W'.heap[w.heap.size]? = some (.cells #[.int .i64 a0, .slice A l.length c, v'] 116 (0, 0)) ∧ Kd.R k24 24 W' w.heap.size (fun _ => True) v' out' ∧ Below w.heap.size w W' := by
  induction k using Nat.strongRecOn with
  | ind k ih =>
  intro a0 A c l out top r out' w W v hr hc hB hx hv h
  cases k with
  | zero => exact absurd h (by simp [diff_cut.f])
  | succ k =>
  rw [diff_cut.f] at h
  obtain ⟨⟨d, e1⟩, A30, H⟩ := Option.bind_eq_some_iff.mp h
  clear h
  dsimp only at H
  have A3 := Aside0.mk A30
  have HR := Aside0.mk hr
  have HC := Aside0.mk hc
  have HB := Aside0.mk hB
  have HX := Aside0.mk hx
  have HV := Aside0.mk hv
  have IH := Aside0.mk ih
  obtain ⟨x0, x1, x2, xf⟩ := cu_cells hx
  clear A30 hr hc hB hv ih
  have hu85 := Try.underlying116
  by_cases c1 : e1 = 0
  · rw [if_pos c1] at H
    subst c1
    by_cases c2 : d = top
    · rw [if_pos c2] at H
      subst c2
      have H' := Aside0.mk H
      clear H
      go_enter Try.func83, Try.ntmps83
      go_wp2
      go_region_held3 (fun w' => w'.cell? ⟨w.heap.size, 0, none⟩ = some (.int .i64 a0) ∧ w'.cell? ⟨w.heap.size, 1, none⟩ = some (.slice A l.length c)) (go_keep)
        (first | (go_at_call 104; refine (steiner_Down.calls k a0 A c l d d 0 _ ?side1 HC.out A3.out).mono ?_; (case side1 => repeat (first | exact Kd.C_below HR.out HB.out | (with_reducible refine Kd.C_drewN ?_ _) | (with_reducible refine Kd.C_drew ?_))); rintro e w5 ⟨rfl, hb⟩; have n0_ := Aside0.mk (blk_below (by (with_reducible repeat (first | refine blk_drewN ?_ _ | refine blk_drew ?_)); exact HX.out) hb); have n1_ := Aside0.mk (Kd.R_below (by (with_reducible repeat (first | apply Kd.R_drewN | apply Kd.R_drew)); exact HV.out) hb); have n2_ := Aside0.mk (below_step (by repeat (first | (with_reducible first | exact HB.out | apply pw_below_drewN | apply below_drew1) | exact HB.out)) hb); obtain ⟨y0, y1, y2, yf⟩ := cu_cells n0_.out; clear HX HV HB; have HX := n0_; have HV := n1_; have HB := n2_; clear n0_ n1_ n2_ hb))
      clear x0 x1 x2 xf hx
      go_wp2
      go_loopg [41] k (fun kq v41 w' => ∃ (t : Int) (o : List S24) (u : Value), v41 = .int .i64 t ∧ Aside0 (diff_cut.g kq a0 l d t o = some (out', r)) ∧ Aside0 (kq ≤ k) ∧ Aside0 (w'.heap[w.heap.size]? = some (.cells #[.int .i64 a0, .slice A l.length c, u] 116 (0, 0))) ∧ Aside0 (Kd.R k24 24 w' w.heap.size (fun _ => True) u o) ∧ Aside0 (Below w.heap.size w w'))
      case atStart => exact ⟨0, out, v, rfl, H', ⟨Nat.le_refl _⟩, ⟨(by (with_reducible repeat (first | refine blk_drewN ?_ _ | refine blk_drew ?_ | refine blk_alloc ?_ _)); exact HX.out)⟩, ⟨(by (with_reducible repeat (first | apply Kd.R_alloc | apply Kd.R_drewN | apply Kd.R_drew)); exact HV.out)⟩, ⟨(by repeat (first | (with_reducible first | exact HB.out | apply below_alloc | apply pw_below_drewN | apply below_drew1) | exact HB.out))⟩⟩
      case round =>
        clear H' HX HV HB
        try clear y0 y1 y2 yf
        obtain ⟨t, o, u, rfl, HA, HK1, HX, HV, HB⟩ := hrel
        cases gk with
        | zero => exact absurd HA.out (by simp [diff_cut.g])
        | succ k2 =>
          have H := HA.out
          clear HA
          rw [diff_cut.g] at H
          obtain ⟨x0, x1, x2, xf⟩ := cu_cells HX.out
          by_cases c5 : t < 2
          · rw [if_pos c5] at H
            have c5b0 : decide (t < 2) = true := decide_eq_true c5
            clear c5
            obtain ⟨⟨n1, n2⟩, A110, H⟩ := Option.bind_eq_some_iff.mp H
            dsimp only at H
            have A11 := Aside0.mk A110
            clear A110
            by_cases c6 : n2 = 4
            · rw [if_pos c6] at H
              subst c6
              simp only [Option.some.injEq, Prod.mk.injEq] at H
              obtain ⟨rfl, rfl⟩ := H
              go_wp2_with (first | ((with_reducible refine gate_callee (f := 105) rfl ?_); refine goesL_ (some 51) rfl rfl Try.func105 (by kernel_rfl) rfl #[.int .i64 a0, .int .u64 d, .int .i64 t] rfl (by (try simp only [List.map_toArray, List.map_cons, List.map_nil]); first | done | rfl) ?_; (with_reducible refine (node_Child.calls k2 a0 d t n1 4 _ A11.out).mono ?_); rintro e w' ⟨rfl, ⟨nd, rfl⟩⟩; refine ⟨_, rfl, ?_⟩))
              go_ret
              exact ⟨rfl, u, (by (with_reducible repeat (first | refine blk_drewN ?_ _ | refine blk_drew ?_ | refine blk_alloc ?_ _)); exact HX.out), (by (with_reducible repeat (first | apply Kd.R_alloc | apply Kd.R_drewN | apply Kd.R_drew)); exact HV.out), (by repeat (first | (with_reducible first | exact HB.out | apply below_alloc | apply pw_below_drewN | apply below_drew1) | exact HB.out))⟩
            · rw [if_neg c6] at H
              have c6b0 : (n2 == 4) = false := beq_eq_false_iff_ne.mpr c6
              clear c6
              by_cases c7 : n2 = 0
              · rw [if_pos c7] at H
                subst c7
                obtain ⟨⟨q1, q2⟩, A130, H⟩ := Option.bind_eq_some_iff.mp H
                dsimp only at H
                have A13 := Aside0.mk A130
                clear A130
                by_cases c8 : q2 = 0
                · rw [if_pos c8] at H
                  subst c8
                  have H' := Aside0.mk H
                  clear H
                  go_wp2_with (first | ((with_reducible refine gate_callee (f := 105) rfl ?_); refine goesL_ (some 51) rfl rfl Try.func105 (by kernel_rfl) rfl #[.int .i64 a0, .int .u64 d, .int .i64 t] rfl (by (try simp only [List.map_toArray, List.map_cons, List.map_nil]); first | done | rfl) ?_; (with_reducible refine (node_Child.calls k2 a0 d t n1 0 _ A11.out).mono ?_); rintro e w' ⟨rfl, ⟨nd, rfl⟩⟩; refine ⟨_, rfl, ?_⟩) | ((with_reducible refine gate_callee (f := 83) rfl ?_); refine goesL_ (some 61) rfl rfl Try.func83 (by kernel_rfl) rfl #[.pointer (some ⟨w.heap.size, 0, none⟩), .int .u64 n1] rfl (by (try simp only [List.map_toArray, List.map_cons, List.map_nil]); first | done | rfl) ?_; refine (IH.out k2 ?lt a0 A c l o n1 0 q1 w _ u HR.out HC.out ?sB ?sX ?sV A13.out).mono ?_; (case lt => have := HK1.out; omega); (case sB => exact (by repeat (first | (with_reducible first | exact HB.out | apply below_alloc | apply pw_below_drewN | apply below_drew1) | exact HB.out))); (case sX => exact (by (with_reducible repeat (first | refine blk_drewN ?_ _ | refine blk_drew ?_ | refine blk_alloc ?_ _)); exact HX.out)); (case sV => exact (by (with_reducible repeat (first | apply Kd.R_alloc | apply Kd.R_drewN | apply Kd.R_drew)); exact HV.out)); rintro e w9 ⟨rfl, v9, hx9, ho9, hb9⟩; refine ⟨_, rfl, ?_⟩; have n0_ := Aside0.mk hx9; have n1_ := Aside0.mk ho9; have n2_ := Aside0.mk hb9; obtain ⟨z0, z1, z2, zf⟩ := cu_cells hx9; clear hx9 ho9 hb9; clear HX HV HB; have HX := n0_; have HV := n1_; have HB := n2_; clear n0_ n1_ n2_))
                  go_roundg k2
                  case measure => have := HK1.out; omega
                  case rel => exact ⟨(wrap64 (t + 1)), q1, v9, (by first | rfl | (simp; done) | (simp [*]; done)), H', ⟨by have := HK1.out; omega⟩, ⟨(by (with_reducible repeat (first | refine blk_drewN ?_ _ | refine blk_drew ?_ | refine blk_alloc ?_ _)); exact HX.out)⟩, ⟨(by (with_reducible repeat (first | apply Kd.R_alloc | apply Kd.R_drewN | apply Kd.R_drew)); exact HV.out)⟩, ⟨(by repeat (first | (with_reducible first | exact HB.out | apply below_alloc | apply pw_below_drewN | apply below_drew1) | exact HB.out))⟩⟩
                · rw [if_neg c8] at H
                  have c8b0 : (q2 != 0) = true := bne_iff_ne.mpr c8
                  clear c8
                  simp only [Option.some.injEq, Prod.mk.injEq] at H
                  obtain ⟨rfl, rfl⟩ := H
                  go_wp2_with (first | ((with_reducible refine gate_callee (f := 105) rfl ?_); refine goesL_ (some 51) rfl rfl Try.func105 (by kernel_rfl) rfl #[.int .i64 a0, .int .u64 d, .int .i64 t] rfl (by (try simp only [List.map_toArray, List.map_cons, List.map_nil]); first | done | rfl) ?_; (with_reducible refine (node_Child.calls k2 a0 d t n1 0 _ A11.out).mono ?_); rintro e w' ⟨rfl, ⟨nd, rfl⟩⟩; refine ⟨_, rfl, ?_⟩) | ((with_reducible refine gate_callee (f := 83) rfl ?_); refine goesL_ (some 61) rfl rfl Try.func83 (by kernel_rfl) rfl #[.pointer (some ⟨w.heap.size, 0, none⟩), .int .u64 n1] rfl (by (try simp only [List.map_toArray, List.map_cons, List.map_nil]); first | done | rfl) ?_; refine (IH.out k2 ?lt a0 A c l o n1 q2 q1 w _ u HR.out HC.out ?sB ?sX ?sV A13.out).mono ?_; (case lt => have := HK1.out; omega); (case sB => exact (by repeat (first | (with_reducible first | exact HB.out | apply below_alloc | apply pw_below_drewN | apply below_drew1) | exact HB.out))); (case sX => exact (by (with_reducible repeat (first | refine blk_drewN ?_ _ | refine blk_drew ?_ | refine blk_alloc ?_ _)); exact HX.out)); (case sV => exact (by (with_reducible repeat (first | apply Kd.R_alloc | apply Kd.R_drewN | apply Kd.R_drew)); exact HV.out)); rintro e w9 ⟨rfl, v9, hx9, ho9, hb9⟩; refine ⟨_, rfl, ?_⟩; have n0_ := Aside0.mk hx9; have n1_ := Aside0.mk ho9; have n2_ := Aside0.mk hb9; obtain ⟨z0, z1, z2, zf⟩ := cu_cells hx9; clear hx9 ho9 hb9; clear HX HV HB; have HX := n0_; have HV := n1_; have HB := n2_; clear n0_ n1_ n2_))
                  go_ret
                  exact ⟨rfl, v9, (by (with_reducible repeat (first | refine blk_drewN ?_ _ | refine blk_drew ?_ | refine blk_alloc ?_ _)); exact HX.out), (by (with_reducible repeat (first | apply Kd.R_alloc | apply Kd.R_drewN | apply Kd.R_drew)); exact HV.out), (by repeat (first | (with_reducible first | exact HB.out | apply below_alloc | apply pw_below_drewN | apply below_drew1) | exact HB.out))⟩
              · rw [if_neg c7] at H
                have c7b0 : (n2 != 0) = true := bne_iff_ne.mpr c7
                clear c7
                simp only [Option.some.injEq, Prod.mk.injEq] at H
                obtain ⟨rfl, rfl⟩ := H
                go_wp2_with (first | ((with_reducible refine gate_callee (f := 105) rfl ?_); refine goesL_ (some 51) rfl rfl Try.func105 (by kernel_rfl) rfl #[.int .i64 a0, .int .u64 d, .int .i64 t] rfl (by (try simp only [List.map_toArray, List.map_cons, List.map_nil]); first | done | rfl) ?_; (with_reducible refine (node_Child.calls k2 a0 d t n1 n2 _ A11.out).mono ?_); rintro e w' ⟨rfl, ⟨nd, rfl⟩⟩; refine ⟨_, rfl, ?_⟩))
                go_ret
                exact ⟨rfl, u, (by (with_reducible repeat (first | refine blk_drewN ?_ _ | refine blk_drew ?_ | refine blk_alloc ?_ _)); exact HX.out), (by (with_reducible repeat (first | apply Kd.R_alloc | apply Kd.R_drewN | apply Kd.R_drew)); exact HV.out), (by repeat (first | (with_reducible first | exact HB.out | apply below_alloc | apply pw_below_drewN | apply below_drew1) | exact HB.out))⟩
          · rw [if_neg c5] at H
            have c5b0 : decide (t < 2) = false := decide_eq_false c5
            clear c5
            simp only [Option.some.injEq, Prod.mk.injEq] at H
            obtain ⟨rfl, rfl⟩ := H
            go_wp2
            go_ret
            exact ⟨rfl, u, (by (with_reducible repeat (first | refine blk_drewN ?_ _ | refine blk_drew ?_ | refine blk_alloc ?_ _)); exact HX.out), (by (with_reducible repeat (first | apply Kd.R_alloc | apply Kd.R_drewN | apply Kd.R_drew)); exact HV.out), (by repeat (first | (with_reducible first | exact HB.out | apply below_alloc | apply pw_below_drewN | apply below_drew1) | exact HB.out))⟩
    · rw [if_neg c2] at H
      have c2b0 : (d != top) = true := bne_iff_ne.mpr c2
      clear c2
      by_cases c3 : out.length < 8796093022207
      · rw [if_pos c3] at H
        have HL := Aside0.mk c3
        have H' := Aside0.mk H
        clear H c3
        go_enter Try.func83, Try.ntmps83
        go_wp2
        go_region_held3 (fun w' => w'.cell? ⟨w.heap.size, 0, none⟩ = some (.int .i64 a0) ∧ w'.cell? ⟨w.heap.size, 1, none⟩ = some (.slice A l.length c)) (go_keep)
          (first | (go_at_call 104; refine (steiner_Down.calls k a0 A c l top d 0 _ ?side1 HC.out A3.out).mono ?_; (case side1 => repeat (first | exact Kd.C_below HR.out HB.out | (with_reducible refine Kd.C_drewN ?_ _) | (with_reducible refine Kd.C_drew ?_))); rintro e w5 ⟨rfl, hb⟩; have n0_ := Aside0.mk (blk_below (by (with_reducible repeat (first | refine blk_drewN ?_ _ | refine blk_drew ?_)); exact HX.out) hb); have n1_ := Aside0.mk (Kd.R_below (by (with_reducible repeat (first | apply Kd.R_drewN | apply Kd.R_drew)); exact HV.out) hb); have n2_ := Aside0.mk (below_step (by repeat (first | (with_reducible first | exact HB.out | apply pw_below_drewN | apply below_drew1) | exact HB.out)) hb); obtain ⟨y0, y1, y2, yf⟩ := cu_cells n0_.out; clear HX HV HB; have HX := n0_; have HV := n1_; have HB := n2_; clear n0_ n1_ n2_ hb))
        clear x0 x1 x2 xf hx
        have HNE := Aside0.mk (Kd.R_ne HV.out HX.out (by decide))
        go_wp2_with (first | (at_builtin; refine Kd.R_append k24 (w0 := w) w.heap.size rfl (.tmp 33) (.tmp 37) 26 24 (.agg #[(.int .u64 0), (.int .u64 0)]) 16 rfl Try.underlying26 info24 rfl (by decide) (by omega) v out (⟨top, d⟩ : S24) [.int .u64 top, .int .u64 d] (fun _ => True) (fun _ => False) rfl rfl ?aP (fun _ hk => hk.elim) ?aF ?aO ?aB ?aS ?aL ?_; (case aP => exact k24_mkM _ _ _ (⟨top, d⟩ : S24)); (case aB => exact (by repeat (first | (with_reducible first | exact HB.out | apply below_alloc | apply pw_below_drewN | apply below_drew1) | exact HB.out))); (case aF => exact (fun _ _ => trivial)); (case aO => exact (by (with_reducible repeat (first | apply Kd.R_alloc | apply Kd.R_drewN | apply Kd.R_drew)); exact HV.out)); (case aS => exact below_size (by repeat (first | (with_reducible first | exact HB.out | apply below_alloc | apply pw_below_drewN | apply below_drew1) | exact HB.out))); (case aL => have := HL.out; omega); intro v1 w1 ho hb hg hat; have hx1 := cu_grown (by (with_reducible repeat (first | refine blk_drewN ?_ _ | refine blk_drew ?_ | refine blk_alloc ?_ _)); exact HX.out) hg (by have := HNE.out; first | exact this | exact fun e => this e); obtain ⟨y0, y1, y2, yf⟩ := cu_cells hx1; have HX1 := Aside0.mk hx1; have HV1 := Aside0.mk ho; have HB1 := Aside0.mk hb; clear ho hb hg hat hx1; obtain ⟨A1, cc1, e1_⟩ := Kd.R_slice HV1.out; have e2_ : v1 = .slice A1 (out.length + 1) cc1 := (by rw [e1_, List.length_append]; rfl); clear e1_; subst e2_))
        have n0_ := Aside0.mk (cu_set HX1.out (.slice A1 (out.length + 1) cc1))
        have n1_ := Aside0.mk (cu_R (u := .slice A1 (out.length + 1) cc1) HV1.out HX1.out (by decide))
        have n2_ := Aside0.mk (HB1.out.setCell (p := ⟨w.heap.size, 2, none⟩) (Nat.le_refl w.heap.size) (.slice A1 (out.length + 1) cc1))
        clear HX HV HB HX1 HV1 HB1
        have HX := n0_
        have HV := n1_
        have HB := n2_
        clear n0_ n1_ n2_
        go_loopg [41] k (fun kq v41 w' => ∃ (t : Int) (o : List S24) (u : Value), v41 = .int .i64 t ∧ Aside0 (diff_cut.g kq a0 l d t o = some (out', r)) ∧ Aside0 (kq ≤ k) ∧ Aside0 (w'.heap[w.heap.size]? = some (.cells #[.int .i64 a0, .slice A l.length c, u] 116 (0, 0))) ∧ Aside0 (Kd.R k24 24 w' w.heap.size (fun _ => True) u o) ∧ Aside0 (Below w.heap.size w w'))
        case atStart => exact ⟨0, (out ++ [⟨top, d⟩]), .slice A1 (out.length + 1) cc1, rfl, H', ⟨Nat.le_refl _⟩, ⟨(by (with_reducible repeat (first | refine blk_drewN ?_ _ | refine blk_drew ?_ | refine blk_alloc ?_ _)); exact HX.out)⟩, ⟨(by (with_reducible repeat (first | apply Kd.R_alloc | apply Kd.R_drewN | apply Kd.R_drew)); exact HV.out)⟩, ⟨(by repeat (first | (with_reducible first | exact HB.out | apply below_alloc | apply pw_below_drewN | apply below_drew1) | exact HB.out))⟩⟩
        case round =>
          clear H' HX HV HB
          try clear y0 y1 y2 yf
          obtain ⟨t, o, u, rfl, HA, HK1, HX, HV, HB⟩ := hrel
          cases gk with
          | zero => exact absurd HA.out (by simp [diff_cut.g])
          | succ k2 =>
            have H := HA.out
            clear HA
            rw [diff_cut.g] at H
            obtain ⟨x0, x1, x2, xf⟩ := cu_cells HX.out
            by_cases c5 : t < 2
            · rw [if_pos c5] at H
              have c5b0 : decide (t < 2) = true := decide_eq_true c5
              clear c5
              obtain ⟨⟨n1, n2⟩, A110, H⟩ := Option.bind_eq_some_iff.mp H
              dsimp only at H
              have A11 := Aside0.mk A110
              clear A110
              by_cases c6 : n2 = 4
              · rw [if_pos c6] at H
                subst c6
                simp only [Option.some.injEq, Prod.mk.injEq] at H
                obtain ⟨rfl, rfl⟩ := H
                go_wp2_with (first | ((with_reducible refine gate_callee (f := 105) rfl ?_); refine goesL_ (some 51) rfl rfl Try.func105 (by kernel_rfl) rfl #[.int .i64 a0, .int .u64 d, .int .i64 t] rfl (by (try simp only [List.map_toArray, List.map_cons, List.map_nil]); first | done | rfl) ?_; (with_reducible refine (node_Child.calls k2 a0 d t n1 4 _ A11.out).mono ?_); rintro e w' ⟨rfl, ⟨nd, rfl⟩⟩; refine ⟨_, rfl, ?_⟩))
                go_ret
                exact ⟨rfl, u, (by (with_reducible repeat (first | refine blk_drewN ?_ _ | refine blk_drew ?_ | refine blk_alloc ?_ _)); exact HX.out), (by (with_reducible repeat (first | apply Kd.R_alloc | apply Kd.R_drewN | apply Kd.R_drew)); exact HV.out), (by repeat (first | (with_reducible first | exact HB.out | apply below_alloc | apply pw_below_drewN | apply below_drew1) | exact HB.out))⟩
              · rw [if_neg c6] at H
                have c6b0 : (n2 == 4) = false := beq_eq_false_iff_ne.mpr c6
                clear c6
                by_cases c7 : n2 = 0
                · rw [if_pos c7] at H
                  subst c7
                  obtain ⟨⟨q1, q2⟩, A130, H⟩ := Option.bind_eq_some_iff.mp H
                  dsimp only at H
                  have A13 := Aside0.mk A130
                  clear A130
                  by_cases c8 : q2 = 0
                  · rw [if_pos c8] at H
                    subst c8
                    have H' := Aside0.mk H
                    clear H
                    go_wp2_with (first | ((with_reducible refine gate_callee (f := 105) rfl ?_); refine goesL_ (some 51) rfl rfl Try.func105 (by kernel_rfl) rfl #[.int .i64 a0, .int .u64 d, .int .i64 t] rfl (by (try simp only [List.map_toArray, List.map_cons, List.map_nil]); first | done | rfl) ?_; (with_reducible refine (node_Child.calls k2 a0 d t n1 0 _ A11.out).mono ?_); rintro e w' ⟨rfl, ⟨nd, rfl⟩⟩; refine ⟨_, rfl, ?_⟩) | ((with_reducible refine gate_callee (f := 83) rfl ?_); refine goesL_ (some 61) rfl rfl Try.func83 (by kernel_rfl) rfl #[.pointer (some ⟨w.heap.size, 0, none⟩), .int .u64 n1] rfl (by (try simp only [List.map_toArray, List.map_cons, List.map_nil]); first | done | rfl) ?_; refine (IH.out k2 ?lt a0 A c l o n1 0 q1 w _ u HR.out HC.out ?sB ?sX ?sV A13.out).mono ?_; (case lt => have := HK1.out; omega); (case sB => exact (by repeat (first | (with_reducible first | exact HB.out | apply below_alloc | apply pw_below_drewN | apply below_drew1) | exact HB.out))); (case sX => exact (by (with_reducible repeat (first | refine blk_drewN ?_ _ | refine blk_drew ?_ | refine blk_alloc ?_ _)); exact HX.out)); (case sV => exact (by (with_reducible repeat (first | apply Kd.R_alloc | apply Kd.R_drewN | apply Kd.R_drew)); exact HV.out)); rintro e w9 ⟨rfl, v9, hx9, ho9, hb9⟩; refine ⟨_, rfl, ?_⟩; have n0_ := Aside0.mk hx9; have n1_ := Aside0.mk ho9; have n2_ := Aside0.mk hb9; obtain ⟨z0, z1, z2, zf⟩ := cu_cells hx9; clear hx9 ho9 hb9; clear HX HV HB; have HX := n0_; have HV := n1_; have HB := n2_; clear n0_ n1_ n2_))
                    go_roundg k2
                    case measure => have := HK1.out; omega
                    case rel => exact ⟨(wrap64 (t + 1)), q1, v9, (by first | rfl | (simp; done) | (simp [*]; done)), H', ⟨by have := HK1.out; omega⟩, ⟨(by (with_reducible repeat (first | refine blk_drewN ?_ _ | refine blk_drew ?_ | refine blk_alloc ?_ _)); exact HX.out)⟩, ⟨(by (with_reducible repeat (first | apply Kd.R_alloc | apply Kd.R_drewN | apply Kd.R_drew)); exact HV.out)⟩, ⟨(by repeat (first | (with_reducible first | exact HB.out | apply below_alloc | apply pw_below_drewN | apply below_drew1) | exact HB.out))⟩⟩
                  · rw [if_neg c8] at H
                    have c8b0 : (q2 != 0) = true := bne_iff_ne.mpr c8
                    clear c8
                    simp only [Option.some.injEq, Prod.mk.injEq] at H
                    obtain ⟨rfl, rfl⟩ := H
                    go_wp2_with (first | ((with_reducible refine gate_callee (f := 105) rfl ?_); refine goesL_ (some 51) rfl rfl Try.func105 (by kernel_rfl) rfl #[.int .i64 a0, .int .u64 d, .int .i64 t] rfl (by (try simp only [List.map_toArray, List.map_cons, List.map_nil]); first | done | rfl) ?_; (with_reducible refine (node_Child.calls k2 a0 d t n1 0 _ A11.out).mono ?_); rintro e w' ⟨rfl, ⟨nd, rfl⟩⟩; refine ⟨_, rfl, ?_⟩) | ((with_reducible refine gate_callee (f := 83) rfl ?_); refine goesL_ (some 61) rfl rfl Try.func83 (by kernel_rfl) rfl #[.pointer (some ⟨w.heap.size, 0, none⟩), .int .u64 n1] rfl (by (try simp only [List.map_toArray, List.map_cons, List.map_nil]); first | done | rfl) ?_; refine (IH.out k2 ?lt a0 A c l o n1 q2 q1 w _ u HR.out HC.out ?sB ?sX ?sV A13.out).mono ?_; (case lt => have := HK1.out; omega); (case sB => exact (by repeat (first | (with_reducible first | exact HB.out | apply below_alloc | apply pw_below_drewN | apply below_drew1) | exact HB.out))); (case sX => exact (by (with_reducible repeat (first | refine blk_drewN ?_ _ | refine blk_drew ?_ | refine blk_alloc ?_ _)); exact HX.out)); (case sV => exact (by (with_reducible repeat (first | apply Kd.R_alloc | apply Kd.R_drewN | apply Kd.R_drew)); exact HV.out)); rintro e w9 ⟨rfl, v9, hx9, ho9, hb9⟩; refine ⟨_, rfl, ?_⟩; have n0_ := Aside0.mk hx9; have n1_ := Aside0.mk ho9; have n2_ := Aside0.mk hb9; obtain ⟨z0, z1, z2, zf⟩ := cu_cells hx9; clear hx9 ho9 hb9; clear HX HV HB; have HX := n0_; have HV := n1_; have HB := n2_; clear n0_ n1_ n2_))
                    go_ret
                    exact ⟨rfl, v9, (by (with_reducible repeat (first | refine blk_drewN ?_ _ | refine blk_drew ?_ | refine blk_alloc ?_ _)); exact HX.out), (by (with_reducible repeat (first | apply Kd.R_alloc | apply Kd.R_drewN | apply Kd.R_drew)); exact HV.out), (by repeat (first | (with_reducible first | exact HB.out | apply below_alloc | apply pw_below_drewN | apply below_drew1) | exact HB.out))⟩
                · rw [if_neg c7] at H
                  have c7b0 : (n2 != 0) = true := bne_iff_ne.mpr c7
                  clear c7
                  simp only [Option.some.injEq, Prod.mk.injEq] at H
                  obtain ⟨rfl, rfl⟩ := H
                  go_wp2_with (first | ((with_reducible refine gate_callee (f := 105) rfl ?_); refine goesL_ (some 51) rfl rfl Try.func105 (by kernel_rfl) rfl #[.int .i64 a0, .int .u64 d, .int .i64 t] rfl (by (try simp only [List.map_toArray, List.map_cons, List.map_nil]); first | done | rfl) ?_; (with_reducible refine (node_Child.calls k2 a0 d t n1 n2 _ A11.out).mono ?_); rintro e w' ⟨rfl, ⟨nd, rfl⟩⟩; refine ⟨_, rfl, ?_⟩))
                  go_ret
                  exact ⟨rfl, u, (by (with_reducible repeat (first | refine blk_drewN ?_ _ | refine blk_drew ?_ | refine blk_alloc ?_ _)); exact HX.out), (by (with_reducible repeat (first | apply Kd.R_alloc | apply Kd.R_drewN | apply Kd.R_drew)); exact HV.out), (by repeat (first | (with_reducible first | exact HB.out | apply below_alloc | apply pw_below_drewN | apply below_drew1) | exact HB.out))⟩
            · rw [if_neg c5] at H
              have c5b0 : decide (t < 2) = false := decide_eq_false c5
              clear c5
              simp only [Option.some.injEq, Prod.mk.injEq] at H
              obtain ⟨rfl, rfl⟩ := H
              go_wp2
              go_ret
              exact ⟨rfl, u, (by (with_reducible repeat (first | refine blk_drewN ?_ _ | refine blk_drew ?_ | refine blk_alloc ?_ _)); exact HX.out), (by (with_reducible repeat (first | apply Kd.R_alloc | apply Kd.R_drewN | apply Kd.R_drew)); exact HV.out), (by repeat (first | (with_reducible first | exact HB.out | apply below_alloc | apply pw_below_drewN | apply below_drew1) | exact HB.out))⟩
      · rw [if_neg c3] at H
        cases H
  · rw [if_neg c1] at H
    have c1b0 : (e1 != 0) = true := bne_iff_ne.mpr c1
    clear c1
    simp only [Option.some.injEq, Prod.mk.injEq] at H
    obtain ⟨rfl, rfl⟩ := H
    go_enter Try.func83, Try.ntmps83
    go_wp2
    go_region_held3 (fun w' => w'.cell? ⟨w.heap.size, 0, none⟩ = some (.int .i64 a0) ∧ w'.cell? ⟨w.heap.size, 1, none⟩ = some (.slice A l.length c)) (go_keep)
      (first | (go_at_call 104; refine (steiner_Down.calls k a0 A c l top d e1 _ ?side1 HC.out A3.out).mono ?_; (case side1 => repeat (first | exact Kd.C_below HR.out HB.out | (with_reducible refine Kd.C_drewN ?_ _) | (with_reducible refine Kd.C_drew ?_))); rintro e w5 ⟨rfl, hb⟩; have n0_ := Aside0.mk (blk_below (by (with_reducible repeat (first | refine blk_drewN ?_ _ | refine blk_drew ?_)); exact HX.out) hb); have n1_ := Aside0.mk (Kd.R_below (by (with_reducible repeat (first | apply Kd.R_drewN | apply Kd.R_drew)); exact HV.out) hb); have n2_ := Aside0.mk (below_step (by repeat (first | (with_reducible first | exact HB.out | apply pw_below_drewN | apply below_drew1) | exact HB.out)) hb); obtain ⟨y0, y1, y2, yf⟩ := cu_cells n0_.out; clear HX HV HB; have HX := n0_; have HV := n1_; have HB := n2_; clear n0_ n1_ n2_ hb))
    go_wp2
    go_ret
    exact ⟨rfl, v, HX.out, HV.out, HB.out⟩
open Go.Shelf Go.Lib Go.Sort in
shelf_lay_g SlLaysF0.n6 Slsf 6 at Try 84 as Try.laySortFunc
def Grew (W w' : World) : Prop := ∃ q os, w' = Go.Sort.grow (W.drewN q) os
theorem Grew.refl (W : World) : Grew W W := ⟨0, #[], by simp [Go.Sort.grow, World.drewN]⟩
theorem Grew.drewN {W w' : World} (h : Grew W w') (n : Nat) : Grew W (w'.drewN n) := by
  obtain ⟨q, os, rfl⟩ := h
  exact ⟨q + n, os, by simp [Go.Sort.grow, World.drewN, Nat.add_assoc]⟩
theorem Grew.drew {W w' : World} (h : Grew W w') : Grew W w'.drew := by
  obtain ⟨q, os, rfl⟩ := h
  exact ⟨q + 1, os, by simp [Go.Sort.grow, World.drewN, World.drew, Nat.add_assoc]⟩
theorem Grew.alloc {W w' : World} (h : Grew W w') (o : Obj) : Grew W (w'.alloc o) := by
  obtain ⟨q, os, rfl⟩ := h
  refine ⟨q, os.push o, ?_⟩
  show ({ heap := (W.heap ++ os).push o, .. } : World) = _
  unfold Go.Sort.grow
  rw [Array.append_push]; rfl
theorem C_two (W : World) (a b : Int) : Kd.C (Kd.int .i64) (W.alloc (.cells #[.int .i64 a, .int .i64 b] 3)) (some ⟨W.heap.size, 0, none⟩) 2 [a, b] := by
  have h := World.ownsRow_lit (base := 0) (e := 3) (size := 1) W #[.int .i64 a, .int .i64 b] 2 (Nat.zero_le _) (by simp only [maxLen]; omega) rfl
  exact (Kd.R_reads' (Kd.R_of_own (enc := Value.int .i64) (h1 := fun _ => rfl) (xs := [a, b]) (ok := fun _ => True) h (fun _ _ => trivial))).2.2
theorem cu_al {W : World} {o : Obj} {a : Addr} {v : Value} (h : W.cell? a = some v) : (W.alloc o).cell? a = some v := by
  have hb : a.block < W.heap.size := World.block_lt_of_cell? _ _ h
  rw [World.cell?] at h ⊢
  have : (W.alloc o).heap[a.block]? = W.heap[a.block]? := by
    show (W.heap.push o)[a.block]? = _
    rw [Array.getElem?_push_lt hb, Array.getElem?_eq_getElem hb]
  rw [this]; exact h
def ordf (x y : S24) : Int := if x.f0 < y.f0 then -1 else if x.f0 > y.f0 then 1 else if x.f1 < y.f1 then -1 else if x.f1 > y.f1 then 1 else 0
theorem cmp_eq (a b : Int) : cmp_Compare_uint64.f a b = some (if a < b then -1 else if a > b then 1 else 0) := by
  unfold cmp_Compare_uint64.f cmp_isNaN_uint64.f
  simp
  split
  · rfl
  · split <;> rfl
theorem or_eq (a b : Int) : cmp_Or_int.f 10 [a, b] = some (if a = 0 then b else a) := by
  unfold cmp_Or_int.f
  have r0 : rd [a, b] 0 = a := rfl
  have r1 : rd [a, b] 1 = b := rfl
  have w1 : wrap64 (0 + 1) = 1 := by unfold wrap64; omega
  have w2 : wrap64 (1 + 1) = 2 := by unfold wrap64; omega
  rw [cmp_Or_int.l0, if_pos (by simp), if_pos (by omega), if_pos (by simp), r0, w1]
  by_cases c : a = 0
  · rw [if_pos c, if_pos c, cmp_Or_int.l0, if_pos (by simp), if_pos (by omega), if_pos (by simp), r1, w2]
    by_cases d : b = 0
    · rw [if_pos d, cmp_Or_int.l0, if_neg (by simp), d]
    · rw [if_neg d]
  · rw [if_neg c, if_neg c]
set_option maxHeartbeats 8000000 in
set_option maxRecDepth 100000 in
theorem diff_order.grew (x y : S24) (W : World) : Calls Try.prog 85 #[.agg #[.int .u64 x.f0, .int .u64 x.f1], .agg #[.int .u64 y.f0, .int .u64 y.f1]] W fun e w' => e = .returned (.int .i64 (ordf x y)) ∧ Grew W w' := by
  have hu34 := Try.underlying24
  obtain ⟨c0, h0⟩ : ∃ c, c = (if x.f0 < y.f0 then -1 else if x.f0 > y.f0 then 1 else (0 : Int)) := ⟨_, rfl⟩
  obtain ⟨c1, h1⟩ : ∃ c, c = (if x.f1 < y.f1 then -1 else if x.f1 > y.f1 then 1 else (0 : Int)) := ⟨_, rfl⟩
  have e : ordf x y = if c0 = 0 then c1 else c0 := by
    subst h0 h1
    unfold ordf
    by_cases a : x.f0 < y.f0
    · simp [a]
    · by_cases b : x.f0 > y.f0
      · simp [a, b]
      · simp [a, b]
  have A1 := Aside0.mk (show cmp_Compare_uint64.f x.f0 y.f0 = some c0 by rw [cmp_eq, h0])
  have A2 := Aside0.mk (show cmp_Compare_uint64.f x.f1 y.f1 = some c1 by rw [cmp_eq, h1])
  have A3 := Aside0.mk (show cmp_Or_int.f 10 [c0, c1] = some (ordf x y) by rw [or_eq, e])
  clear h0 h1 e
  generalize ordf x y = r at A3 ⊢
  obtain ⟨W2, hW2⟩ : ∃ W2, W2 = (W.alloc (.cells #[.int .u64 x.f0, .int .u64 x.f1] 24)).alloc (.cells #[.int .u64 y.f0, .int .u64 y.f1] 24) := ⟨_, rfl⟩
  have HG := Aside0.mk (show Grew W W2 by rw [hW2]; exact ((Grew.refl W).alloc _).alloc _)
  have b1 : W2.heap[W.heap.size]? = some (.cells #[.int .u64 x.f0, .int .u64 x.f1] 24 (0, 0)) := by
    rw [hW2]; exact blk_below (blk_new W _) (below_alloc (Below.refl _ _) _)
  have b2 : W2.heap[W.heap.size + 1]? = some (.cells #[.int .u64 y.f0, .int .u64 y.f1] 24 (0, 0)) := by
    have h : (W.alloc (.cells #[.int .u64 x.f0, .int .u64 x.f1] 24)).heap.size = W.heap.size + 1 := Array.size_push ..
    rw [hW2, ← h]; exact blk_new _ _
  have y0 : W2.cell? ⟨W.heap.size, 0, none⟩ = some (.int .u64 x.f0) := by simp [World.cell?, b1]
  have y1 : W2.cell? ⟨W.heap.size, 1, none⟩ = some (.int .u64 x.f1) := by simp [World.cell?, b1]
  have y2 : W2.cell? ⟨W.heap.size + 1, 0, none⟩ = some (.int .u64 y.f0) := by simp [World.cell?, b2]
  have y3 : W2.cell? ⟨W.heap.size + 1, 1, none⟩ = some (.int .u64 y.f1) := by simp [World.cell?, b2]
  have OR : ∀ W', Kd.C (Kd.int .i64) W' (some ⟨W2.heap.size, 0, none⟩) 2 [c0, c1] → Calls Try.prog 89 #[.slice (some ⟨W2.heap.size, 0, none⟩) 2 2] W' fun e w' => e = .returned (.int .i64 r) ∧ Drawn0 W' w' := fun W' h => cmp_Or_int.calls 10 _ 2 [c0, c1] r W' h (by simp) A3.out
  go_enter Try.func85, Try.ntmps85
  go_wp2
  rw [← hW2]
  clear hW2 b1 b2
  go_region_held3 (fun w' => w'.cell? ⟨W.heap.size, 0, none⟩ = some (.int .u64 x.f0) ∧ w'.cell? ⟨W.heap.size, 1, none⟩ = some (.int .u64 x.f1) ∧ w'.cell? ⟨W.heap.size + 1, 0, none⟩ = some (.int .u64 y.f0) ∧ w'.cell? ⟨W.heap.size + 1, 1, none⟩ = some (.int .u64 y.f1)) (first | exact ⟨y0, y1, y2, y3⟩ | exact ⟨cu_al y0, cu_al y1, cu_al y2, cu_al y3⟩)
    (first | (go_at_call 90; with_reducible refine (cmp_Compare_uint64.calls x.f0 y.f0 c0 _ A1.out).mono ?_; rintro e w' ⟨rfl, ⟨nd, rfl⟩⟩) | (go_at_call 90; with_reducible refine (cmp_Compare_uint64.calls x.f1 y.f1 c1 _ A2.out).mono ?_; rintro e w' ⟨rfl, ⟨nd2, rfl⟩⟩) | (go_at_call 89; with_reducible refine (OR _ ?s1).mono ?_; (case s1 => have h_ := C_two (W2.drewN (1 + nd + nd2)) c0 c1; rw [show (W2.drewN (1 + nd + nd2)).heap.size = W2.heap.size from by simp [World.drewN]] at h_; exact h_); rintro e w' ⟨rfl, ⟨nd3, rfl⟩⟩))
  all_goals
    go_wp2
    go_ret
    exact ⟨rfl, by repeat (first | exact HG.out | apply Grew.alloc | apply Grew.drewN | apply Grew.drew)⟩
section
open Go.Sort Go.Lib Go.Shelf
instance instInhS : Inhabited S24 := ⟨⟨0, 0⟩⟩
def encS (x : S24) : List Value := [.int .u64 x.f0, .int .u64 x.f1]
def leS (x y : S24) : Bool := !(ltOf ordf) y x
def sortS (xs : List S24) : List S24 := xs.mergeSort leS
theorem ltS_eq (x y : S24) : ltOf ordf x y = decide (x.f0 < y.f0 ∨ (x.f0 = y.f0 ∧ x.f1 < y.f1)) := by
  unfold ltOf ordf
  by_cases a : x.f0 < y.f0
  · simp [a]
  · by_cases b : x.f0 > y.f0
    · have : ¬ (x.f0 = y.f0) := by omega
      simp [a, b, this]
    · have e : x.f0 = y.f0 := by omega
      by_cases c : x.f1 < y.f1
      · simp [a, b, c, e]
      · by_cases d : x.f1 > y.f1
        · simp [a, b, c, d, e]
        · simp [a, b, c, d, e]
theorem swoS : SWO (ltOf ordf) where
  irrefl x := by rw [ltS_eq]; simp
  trans x y z h1 h2 := by rw [ltS_eq] at *; simp at *; omega
  ntrans x y z h1 h2 := by rw [ltS_eq] at *; simp at *; omega
theorem totS (x y : S24) (h1 : ltOf ordf x y = false) (h2 : ltOf ordf y x = false) : x = y := by
  rw [ltS_eq] at h1 h2
  obtain ⟨a, b⟩ := x
  obtain ⟨c, d⟩ := y
  simp at *
  omega
theorem reps_flat (w : World) (base : Nat) (ok : Nat → Prop) (xs : List S24) : Reps (k24.M w base ok) 2 xs (flatK encS 2 xs.toArray).toList := by
  refine ⟨by simp, fun j p hj => ?_⟩
  have hl : j < xs.length := (List.getElem?_eq_some_iff.1 hj).1
  have hp : xs[j]! = p := by rw [getElem!_pos _ j hl]; exact (List.getElem?_eq_some_iff.1 hj).2
  have e : ((flatK encS 2 xs.toArray).toList.drop (j * 2)).take 2 = [.int .u64 p.f0, .int .u64 p.f1] := by
    have g : ∀ c, c < 2 → (flatK encS 2 xs.toArray)[j * 2 + c]! = (encS p)[c]! := fun c hc => by
      rw [get_flatK _ _ _ _ (by simp; omega)]
      have h1 : (j * 2 + c) / 2 = j := by omega
      have h2 : (j * 2 + c) % 2 = c := by omega
      rw [h1, h2]
      have : xs.toArray[j]! = p := by rw [← hp]; simp
      rw [this]
    have hs : (flatK encS 2 xs.toArray).size = xs.length * 2 := by simp
    apply List.ext_getElem
    · simp; omega
    · intro i hi1 hi2
      have hi : i < 2 := by simpa using hi2
      have := g i hi
      rw [getElem!_pos _ _ (by omega)] at this
      simp only [List.getElem_take, List.getElem_drop, Array.getElem_toList, this]
      match i, hi with
      | 0, _ => rfl
      | 1, _ => rfl
  rw [e]
  exact k24_mkM w base ok p
theorem reps_unique {w : World} {base : Nat} {ok : Nat → Prop} {xs : List S24} {a b : List Value} (ha : Reps (k24.M w base ok) 2 xs a) (hb : Reps (k24.M w base ok) 2 xs b) : a = b := by
  apply List.ext_getElem
  · rw [ha.1, hb.1]
  · intro i hi1 hi2
    have hl : i / 2 < xs.length := by have := ha.1; omega
    have h1 := k24_openM (ha.2 (i / 2) _ (List.getElem?_eq_getElem hl))
    have h2 := k24_openM (hb.2 (i / 2) _ (List.getElem?_eq_getElem hl))
    have h3 : ((a.drop (i / 2 * 2)).take 2)[i % 2]? = ((b.drop (i / 2 * 2)).take 2)[i % 2]? := by rw [h1, h2]
    have h4 : i % 2 < 2 := by omega
    have h5 : i / 2 * 2 + i % 2 = i := by omega
    rw [List.getElem?_take_of_lt h4, List.getElem?_take_of_lt h4, List.getElem?_drop, List.getElem?_drop, h5, List.getElem?_eq_getElem hi1, List.getElem?_eq_getElem hi2] at h3
    exact Option.some.inj h3
set_option maxHeartbeats 4000000 in
theorem sort_any (cf : Nat) (eg : ∀ args w, (callFunc cf args).run Try.prog w = .ok (.enter cf args) w) (hcf : ∀ (x y : S24) (W : World), Calls Try.prog cf #[.agg #[.int .u64 x.f0, .int .u64 x.f1], .agg #[.int .u64 y.f0, .int .u64 y.f1]] W fun e w' => e = .returned (.int .i64 (ordf x y)) ∧ Grew W w') (xs : List S24) (w0 W : World) (base : Nat) (v : Value) (hB : Below w0.heap.size w0 W) (hb0 : w0.heap.size ≤ base) (h : Kd.R k24 24 W base (fun _ => True) v xs) (hl : xs.length < 4611686018427387904) :
    Calls Try.prog 84 #[v, .func (.func cf) #[] #[]] W fun e W' => e = .returned (.tuple #[]) ∧ Kd.R k24 24 W' base (fun _ => True) v (sortS xs) ∧ Below w0.heap.size w0 W' ∧ (∀ k, k < W.heap.size → some k ≠ v.ownBlock → W'.heap[k]? = W.heap[k]?) := by
  obtain ⟨h0, inner, ⟨h1, h2⟩, hr⟩ := h
  rcases h2 with ⟨rfl, h2⟩ | ⟨g, cap, cur, rfl, hb, hh, hn, hc, hs, ht⟩
  · obtain rfl : xs = [] := List.length_eq_zero_iff.1 h2
    refine (show Calls Try.prog 84 _ W _ from AnyF.slices_SortFunc_none Try.laySortFunc none 0 _ W).mono ?_
    rintro e w' ⟨rfl, rfl⟩
    exact ⟨rfl, by rw [show sortS [] = [] from by unfold sortS; exact List.mergeSort_nil]; exact Kd.R_nil _ _ _ _ _, hB, fun _ _ _ => rfl⟩
  · have hin : inner = (flatK encS 2 xs.toArray).toList := reps_unique hr (reps_flat _ _ _ xs)
    have hsz2 : (flatK encS 2 xs.toArray).size = xs.length * 2 := by simp
    have hsz : k24.sz = 2 := rfl
    rw [hsz] at hs ht
    have hH : HoldsK encS 2 W g 0 xs.toArray := by
      intro j hj
      have hj' : j < xs.length * 2 := by rw [← hsz2]; exact hj
      have hjc : j < cur.size := by have := Nat.mul_le_mul_right 2 hn; omega
      have e1 : cur[j]? = some (flatK encS 2 xs.toArray)[j]! := by
        have e2 : (cur.toList.take (xs.length * 2))[j]? = (flatK encS 2 xs.toArray).toList[j]? := by rw [ht, hin]
        rw [List.getElem?_take_of_lt hj', Array.getElem?_toList, Array.getElem?_toList, Array.getElem?_eq_getElem hj] at e2
        rw [e2, getElem!_pos _ j hj]
      refine ⟨?_, ?_⟩
      · simp only [World.cell?, hh, Nat.zero_add]
        first | exact e1 | (simp [e1]; done) | (rw [e1]; rfl)
      · simp [World.frozen?, hh]
    have hblk : g < W.heap.size := by
      rcases Nat.lt_or_ge g W.heap.size with h | h
      · exact h
      · rw [Array.getElem?_eq_none h] at hh; cases hh
    have hcon := AnyQ.slices_SortFunc_total Try.laySortFunc 2 (by first | exact Try.isAgg24 | (intro w; rfl)) (by first | exact Try.sizeOf24 | (intro w; rfl)) encS (fun _ => rfl) (fun x v hv => by simp [encS] at hv; rcases hv with rfl | rfl <;> rfl) ordf swoS cf #[] g 0 cap xs.toArray W eg (fun m os dk _ x y => hcf x y _) hH hblk (by simpa using hl) totS
    have e3 : (xs.toArray.toList.mergeSort fun x y => !(ltOf ordf) y x).toArray = (sortS xs).toArray := rfl
    rw [e3, show xs.toArray.size = xs.length from by simp] at hcon
    refine (show Calls Try.prog 84 _ W _ from hcon).mono ?_
    have hls : (sortS xs).length = xs.length := List.length_mergeSort ..
    generalize sortS xs = ys at hls
    rintro e w' ⟨rfl, n, os, rfl⟩
    have hsz3 : (flatK encS 2 ys.toArray).size = xs.length * 2 := by simp [hls]
    have hcell : (sortWorldK encS 2 W g 0 n ys.toArray os).heap[g]? = some (.cells (putCells id 0 (flatK encS 2 ys.toArray) cur) 24 (0, 0)) := by
      simp only [sortWorldK, putRowK, putRow, grow, mapBlock, Go.Sort.ahead]
      rw [Array.getElem?_append_left (by simpa using hblk), Array.getElem?_modify, hh]
      simp [onCells]
    have hother : ∀ k, k < W.heap.size → k ≠ g → (sortWorldK encS 2 W g 0 n ys.toArray os).heap[k]? = W.heap[k]? := by
      intro k hk hne
      simp only [sortWorldK, putRowK, putRow, grow, mapBlock, Go.Sort.ahead]
      rw [Array.getElem?_append_left (by simpa using hk), Array.getElem?_modify, if_neg (fun e => hne e.symm)]
    have htk : (putCells id 0 (flatK encS 2 ys.toArray) cur).toList.take (ys.length * 2) = (flatK encS 2 ys.toArray).toList := by
      have := Nat.mul_le_mul_right 2 hn
      apply List.ext_getElem
      · simp [putCells, hls]; omega
      · intro i hi1 hi2
        have hi : i < ys.length * 2 := by simpa using hi2
        have hi3 : i < (flatK encS 2 ys.toArray).size := by simpa using hi
        simp [putCells, hi]
    have hrep := reps_flat (sortWorldK encS 2 W g 0 n ys.toArray os) base (fun k => True ∧ some k ≠ (Value.slice (some ⟨g, 0, none⟩) xs.length cap).ownBlock) ys
    refine ⟨rfl, ⟨fun _ _ => trivial, _, ⟨by rw [hrep.1]; rfl, .inr ⟨g, cap, _, by rw [hls], hb, hcell, by omega, hc, ?_, ?_⟩⟩, hrep⟩, ?_, ?_⟩
    · rw [hsz]; simpa [putCells] using hs
    · rw [hsz]; exact htk
    · refine ⟨(show (sortWorldK encS 2 W g 0 n ys.toArray os).os = W.os from rfl).trans hB.os, (show (sortWorldK encS 2 W g 0 n ys.toArray os).tape = W.tape from rfl).trans hB.tape, (show (sortWorldK encS 2 W g 0 n ys.toArray os).output = W.output from rfl).trans hB.output, ?_, ?_⟩
      · have h1 := hB.size
        have h2 : W.heap.size ≤ (sortWorldK encS 2 W g 0 n ys.toArray os).heap.size := by simp [sortWorldK, putRowK, putRow, grow, mapBlock, Go.Sort.ahead]
        omega
      · intro k hk
        have h1 := hB.size
        exact (hother k (by omega) (by omega)).trans (hB.block k hk)
    · intro k hk hne
      exact hother k hk (fun e => hne (by simp [Value.ownBlock, e]))
end
theorem eg46 : ∀ args w, (callFunc 85 args).run Try.prog w = .ok (.enter 85 args) w := enters_of Try.func85 (by kernel_rfl) rfl
def diff_Cover.f (k : Nat) (a0 : Int) (l1 : List Int) : Option (List S24 × Int) := (steiner_Is.f k a0 l1 1).bind fun s => if s.2 = 0 then (if s.1 = true then ((diff_cut.f k a0 l1 1 []).bind fun r => if r.2 = 0 then (if r.1.length < 4611686018427387904 then some (sortS r.1, 0) else none) else some ([], r.2)) else some ([⟨1, 0⟩], 0)) else some ([], s.2)
theorem diff_cut.box (k : Nat) (a0 : Int) (A : Option Addr) (c : Nat) (l : List Int) (o : List S24) (r : Int) (W0 W : World) (g : Nat) (hg : g = W0.heap.size) (hr : Kd.C (Kd.int .u64) W0 A l.length l) (hc : l.length ≤ c) (hx : W.heap[g]? = some (.cells #[.int .i64 a0, .slice A l.length c, .slice none 0 0] 116 (0, 0))) (hB : Below W0.heap.size W0 W) (h : diff_cut.f k a0 l 1 [] = some (o, r)) :
    Calls Try.prog 83 #[.pointer (some ⟨g, 0, none⟩), .int .u64 1] W fun e W' => e = .returned (.int .i64 r) ∧ ∃ (A' : Option Addr) (c' : Nat), W'.heap[g]? = some (.cells #[.int .i64 a0, .slice A l.length c, .slice A' o.length c'] 116 (0, 0)) ∧ Kd.R k24 24 W' g (fun _ => True) (.slice A' o.length c') o ∧ Below W0.heap.size W0 W' := by
  subst hg
  refine (diff_cut.calls k a0 A c l [] 1 r o W0 W (.slice none 0 0) hr hc hB hx (Kd.R_nil _ _ _ _ _) h).mono ?_
  rintro e w' ⟨rfl, v', hx', hv', hb'⟩
  obtain ⟨A', c', rfl⟩ := Kd.R_slice hv'
  exact ⟨rfl, A', c', hx', hv', hb'⟩
theorem sort_box (xs : List S24) (W0 W : World) (g : Nat) (A : Option Addr) (c n : Nat) (a0 : Int) (A1 : Option Addr) (c1 : Nat) (hg : g = W0.heap.size) (hB : Below W0.heap.size W0 W) (h : Kd.R k24 24 W g (fun _ => True) (.slice A xs.length c) xs) (hl : xs.length < 4611686018427387904) (hx : W.heap[g]? = some (.cells #[.int .i64 a0, .slice A1 n c1, .slice A xs.length c] 116 (0, 0))) :
    Calls Try.prog 84 #[.slice A xs.length c, .func (.func 85) #[] #[]] W fun e W' => e = .returned (.tuple #[]) ∧ W'.heap[g]? = some (.cells #[.int .i64 a0, .slice A1 n c1, .slice A xs.length c] 116 (0, 0)) ∧ Kd.R k24 24 W' g (fun _ => True) (.slice A xs.length c) (sortS xs) ∧ Below W0.heap.size W0 W' := by
  refine (sort_any 85 eg46 diff_order.grew xs W0 W g _ hB (by omega) h hl).mono ?_
  rintro e w' ⟨rfl, h1, h2, h3⟩
  exact ⟨rfl, (h3 g (blk_lt hx) (Kd.R_ne h hx (by decide))).trans hx, h1, h2⟩
set_option maxHeartbeats 8000000 in
set_option maxRecDepth 100000 in
theorem diff_Cover.calls (k : Nat) (a0 : Int) (A1 : Option Addr) (c1 : Nat) (l1 : List Int) (r1 : List S24) (r2 : Int) (w : World) (hr1 : Kd.C (Kd.int .u64) w A1 l1.length l1) (hc1 : l1.length ≤ c1) (h : diff_Cover.f k a0 l1 = some (r1, r2)) :
    Calls Try.prog 58 #[.int .i64 a0, .slice A1 l1.length c1] w fun e w' => ∃ v0_ : Value, e = .returned (.tuple #[v0_, .int .i64 r2]) ∧ Kd.R k24 24 w' w.heap.size (fun _ => True) v0_ r1 ∧ Below w.heap.size w w' := by
  have HR1 := Aside0.mk hr1
  have HC1 := Aside0.mk hc1
  clear hr1 hc1
  have HB := Aside0.mk (Below.refl w.heap.size w)
  have hu85 := Try.underlying116
  unfold diff_Cover.f at h
  obtain ⟨⟨s, e1⟩, A0, H⟩ := Option.bind_eq_some_iff.mp h
  dsimp only at H
  have AI := Aside0.mk A0
  clear h A0
  by_cases d1 : e1 = 0
  · rw [if_pos d1] at H
    subst d1
    by_cases d2 : s = true
    · rw [if_pos d2] at H
      subst d2
      obtain ⟨⟨o, e2⟩, A2, H⟩ := Option.bind_eq_some_iff.mp H
      dsimp only at H
      have AC := Aside0.mk A2
      clear A2
      by_cases d3 : e2 = 0
      · rw [if_pos d3] at H
        subst d3
        by_cases d4 : o.length < 4611686018427387904
        · rw [if_pos d4] at H
          simp only [Option.some.injEq, Prod.mk.injEq] at H
          obtain ⟨rfl, rfl⟩ := H
          have HL := Aside0.mk d4
          clear d4
          go_enter Try.func58, Try.ntmps58
          go_wp2_with (first
            | ((with_reducible refine gate_callee (f := 82) rfl ?_); refine goesL_ (some 13) rfl rfl Try.func82 (by kernel_rfl) rfl #[.int .i64 a0, .slice A1 l1.length c1, .int .u64 1] rfl (by (try simp only [List.map_toArray, List.map_cons, List.map_nil]); first | done | rfl) ?_; refine (steiner_Is.calls k a0 A1 c1 l1 1 true 0 _ ?sa HC1.out AI.out).mono ?_; (case sa => repeat (first | exact HR1.out | (with_reducible refine Kd.C_drewN ?_ _) | (with_reducible refine Kd.C_drew ?_))); rintro e w5 ⟨rfl, hb⟩; refine ⟨_, rfl, ?_⟩; have n2_ := Aside0.mk (below_step (by repeat (first | (with_reducible first | exact HB.out | apply pw_below_drewN | apply below_drew1) | exact HB.out)) hb); clear HB; have HB := n2_; clear n2_ hb)
            | ((with_reducible refine gate_dst (N := 28) rfl ?_); refine box_event ?hg (N := 28) ?hd (cs := #[.int .i64 a0, .slice A1 l1.length c1, .slice none 0 0]) (t := 116) ?hr ?_; (case hd => rfl); (case hg => rfl); (case hr => first | (go_simp; done) | (go_simp; rfl)); intro gb hg w6 hbox hb; have n0_ : ∃ W0 : World, gb = W0.heap.size ∧ Below w.heap.size w W0 ∧ Kd.C (Kd.int .u64) W0 A1 l1.length l1 ∧ Below W0.heap.size W0 w6 := ⟨_, hg, (by repeat (first | (with_reducible first | exact HB.out | apply pw_below_drewN | apply below_drew1) | exact HB.out)), Kd.C_below HR1.out (by repeat (first | (with_reducible first | exact HB.out | apply pw_below_drewN | apply below_drew1) | exact HB.out)), hb⟩; obtain ⟨W0, hg0, hB0, hR0, hBW⟩ := n0_; have HG := Aside0.mk hg0; have HB0 := Aside0.mk hB0; have HR0 := Aside0.mk hR0; have HX := Aside0.mk hbox; clear HB; have HB := Aside0.mk hBW; clear hg0 hB0 hR0 hBW hbox hb hg)
            | ((with_reducible refine gate_callee (f := 83) rfl ?_); refine goesL_ (some 30) rfl rfl Try.func83 (by kernel_rfl) rfl #[.pointer (some ⟨gb, 0, none⟩), .int .u64 1] rfl (by (try simp only [List.map_toArray, List.map_cons, List.map_nil]); first | done | rfl) ?_; refine (diff_cut.box k a0 A1 c1 l1 o 0 W0 _ gb HG.out HR0.out HC1.out ?sX ?sB AC.out).mono ?_; (case sB => exact (by repeat (first | (with_reducible first | exact HB.out | apply below_alloc | apply pw_below_drewN | apply below_drew1) | exact HB.out))); (case sX => exact (by (with_reducible repeat (first | refine blk_drewN ?_ _ | refine blk_drew ?_ | refine blk_alloc ?_ _)); exact HX.out)); rintro e w9 ⟨rfl, A9, c9, hx9, ho9, hb9⟩; refine ⟨_, rfl, ?_⟩; obtain ⟨z0, z1, z2, zf⟩ := cu_cells hx9; clear HX HB; have HX := Aside0.mk hx9; have HV := Aside0.mk ho9; have HB := Aside0.mk hb9; clear hx9 ho9 hb9)
            | ((with_reducible refine gate_callee (f := 84) rfl ?_); refine goesL_ (some 38) rfl rfl Try.func84 (by kernel_rfl) rfl #[.slice A9 o.length c9, .func (.func 85) #[] #[]] rfl (by (try simp only [List.map_toArray, List.map_cons, List.map_nil]); first | done | rfl) ?_; refine (sort_box o W0 _ gb A9 c9 l1.length a0 A1 c1 HG.out ?sB ?sV HL.out ?sX).mono ?_; (case sB => exact (by repeat (first | (with_reducible first | exact HB.out | apply below_alloc | apply pw_below_drewN | apply below_drew1) | exact HB.out))); (case sX => exact (by (with_reducible repeat (first | refine blk_drewN ?_ _ | refine blk_drew ?_ | refine blk_alloc ?_ _)); exact HX.out)); (case sV => exact (by (with_reducible repeat (first | apply Kd.R_alloc | apply Kd.R_drewN | apply Kd.R_drew)); exact HV.out)); rintro e w10 ⟨rfl, hx9, ho9, hb9⟩; refine ⟨_, rfl, ?_⟩; clear z0 z1 z2 zf; obtain ⟨y0, y1, y2, yf⟩ := cu_cells hx9; clear HX HB HV; have HX := Aside0.mk hx9; have HV := Aside0.mk ho9; have HB := Aside0.mk hb9; clear hx9 ho9 hb9))
          go_ret2
          exact ⟨_, rfl, Kd.R_lower (by (with_reducible repeat (first | apply Kd.R_alloc | apply Kd.R_drewN | apply Kd.R_drew)); exact HV.out) (by rw [HG.out]; exact HB0.out.size), below_step HB0.out (by repeat (first | (with_reducible first | exact HB.out | apply below_alloc | apply pw_below_drewN | apply below_drew1) | exact HB.out))⟩
        · rw [if_neg d4] at H
          cases H
      · rw [if_neg d3] at H
        simp only [Option.some.injEq, Prod.mk.injEq] at H
        obtain ⟨rfl, rfl⟩ := H
        have d3b0 : (e2 != 0) = true := bne_iff_ne.mpr d3
        clear d3
        go_enter Try.func58, Try.ntmps58
        go_wp2_with (first
            | ((with_reducible refine gate_callee (f := 82) rfl ?_); refine goesL_ (some 13) rfl rfl Try.func82 (by kernel_rfl) rfl #[.int .i64 a0, .slice A1 l1.length c1, .int .u64 1] rfl (by (try simp only [List.map_toArray, List.map_cons, List.map_nil]); first | done | rfl) ?_; refine (steiner_Is.calls k a0 A1 c1 l1 1 true 0 _ ?sa HC1.out AI.out).mono ?_; (case sa => repeat (first | exact HR1.out | (with_reducible refine Kd.C_drewN ?_ _) | (with_reducible refine Kd.C_drew ?_))); rintro e w5 ⟨rfl, hb⟩; refine ⟨_, rfl, ?_⟩; have n2_ := Aside0.mk (below_step (by repeat (first | (with_reducible first | exact HB.out | apply pw_below_drewN | apply below_drew1) | exact HB.out)) hb); clear HB; have HB := n2_; clear n2_ hb)
            | ((with_reducible refine gate_dst (N := 28) rfl ?_); refine box_event ?hg (N := 28) ?hd (cs := #[.int .i64 a0, .slice A1 l1.length c1, .slice none 0 0]) (t := 116) ?hr ?_; (case hd => rfl); (case hg => rfl); (case hr => first | (go_simp; done) | (go_simp; rfl)); intro gb hg w6 hbox hb; have n0_ : ∃ W0 : World, gb = W0.heap.size ∧ Below w.heap.size w W0 ∧ Kd.C (Kd.int .u64) W0 A1 l1.length l1 ∧ Below W0.heap.size W0 w6 := ⟨_, hg, (by repeat (first | (with_reducible first | exact HB.out | apply pw_below_drewN | apply below_drew1) | exact HB.out)), Kd.C_below HR1.out (by repeat (first | (with_reducible first | exact HB.out | apply pw_below_drewN | apply below_drew1) | exact HB.out)), hb⟩; obtain ⟨W0, hg0, hB0, hR0, hBW⟩ := n0_; have HG := Aside0.mk hg0; have HB0 := Aside0.mk hB0; have HR0 := Aside0.mk hR0; have HX := Aside0.mk hbox; clear HB; have HB := Aside0.mk hBW; clear hg0 hB0 hR0 hBW hbox hb hg)
            | ((with_reducible refine gate_callee (f := 83) rfl ?_); refine goesL_ (some 30) rfl rfl Try.func83 (by kernel_rfl) rfl #[.pointer (some ⟨gb, 0, none⟩), .int .u64 1] rfl (by (try simp only [List.map_toArray, List.map_cons, List.map_nil]); first | done | rfl) ?_; refine (diff_cut.box k a0 A1 c1 l1 o e2 W0 _ gb HG.out HR0.out HC1.out ?sX ?sB AC.out).mono ?_; (case sB => exact (by repeat (first | (with_reducible first | exact HB.out | apply below_alloc | apply pw_below_drewN | apply below_drew1) | exact HB.out))); (case sX => exact (by (with_reducible repeat (first | refine blk_drewN ?_ _ | refine blk_drew ?_ | refine blk_alloc ?_ _)); exact HX.out)); rintro e w9 ⟨rfl, A9, c9, hx9, ho9, hb9⟩; refine ⟨_, rfl, ?_⟩; clear HX HB; have HB := Aside0.mk hb9; clear hx9 ho9 hb9))
        go_ret2
        exact ⟨_, rfl, Kd.R_nil _ _ _ _ _, below_step HB0.out (by repeat (first | (with_reducible first | exact HB.out | apply below_alloc | apply pw_below_drewN | apply below_drew1) | exact HB.out))⟩
    · rw [if_neg d2] at H
      obtain rfl : s = false := by simpa using d2
      clear d2
      simp only [Option.some.injEq, Prod.mk.injEq] at H
      obtain ⟨rfl, rfl⟩ := H
      go_enter Try.func58, Try.ntmps58
      go_wp2_with (first
            | ((with_reducible refine gate_callee (f := 82) rfl ?_); refine goesL_ (some 13) rfl rfl Try.func82 (by kernel_rfl) rfl #[.int .i64 a0, .slice A1 l1.length c1, .int .u64 1] rfl (by (try simp only [List.map_toArray, List.map_cons, List.map_nil]); first | done | rfl) ?_; refine (steiner_Is.calls k a0 A1 c1 l1 1 false 0 _ ?sa HC1.out AI.out).mono ?_; (case sa => repeat (first | exact HR1.out | (with_reducible refine Kd.C_drewN ?_ _) | (with_reducible refine Kd.C_drew ?_))); rintro e w5 ⟨rfl, hb⟩; refine ⟨_, rfl, ?_⟩; have n2_ := Aside0.mk (below_step (by repeat (first | (with_reducible first | exact HB.out | apply pw_below_drewN | apply below_drew1) | exact HB.out)) hb); clear HB; have HB := n2_; clear n2_ hb)
            | ((with_reducible refine gate_dst (N := 24) rfl ?_); refine Kd.R_lit k24 _ 24 ?hg (N := 24) ?hd (xs := ([(⟨1, 0⟩ : S24)] : List (S24))) (inner := [.int .u64 1, .int .u64 0]) (ok := fun _ => True) (okp := fun _ => True) ?hr ?hp (fun _ hk => hk) trivial (Below.refl _ _) (Nat.le_refl _) (by simp) ?_; (case hd => rfl); (case hg => rfl); (case hr => first | (go_simp; done) | (go_simp; rfl)); (case hp => exact (Reps.c2 (show Kd.M k24 _ _ _ (⟨1, 0⟩ : S24) [.int .u64 1, .int .u64 0] from (k24_mkM _ _ _ (⟨1, 0⟩ : S24) )) (Reps.none _ _))); intro v7 w7 ho hb hg_ hnew_; clear hg_ hnew_; have n0_ := Aside0.mk (Kd.R_lower ho (below_size (by repeat (first | (with_reducible first | exact HB.out | apply below_alloc | apply pw_below_drewN | apply below_drew1) | exact HB.out)))); have n2_ := Aside0.mk (below_step (by repeat (first | (with_reducible first | exact HB.out | apply below_alloc | apply pw_below_drewN | apply below_drew1) | exact HB.out)) hb); clear HB; have HB := n2_; have HV := n0_; clear n0_ n2_ ho hb))
      go_ret2
      exact ⟨_, rfl, (by (with_reducible repeat (first | apply Kd.R_alloc | apply Kd.R_drewN | apply Kd.R_drew)); exact HV.out), (by repeat (first | (with_reducible first | exact HB.out | apply below_alloc | apply pw_below_drewN | apply below_drew1) | exact HB.out))⟩
  · rw [if_neg d1] at H
    simp only [Option.some.injEq, Prod.mk.injEq] at H
    obtain ⟨rfl, rfl⟩ := H
    have d1b0 : (e1 != 0) = true := bne_iff_ne.mpr d1
    clear d1
    go_enter Try.func58, Try.ntmps58
    go_wp2_with (first
            | ((with_reducible refine gate_callee (f := 82) rfl ?_); refine goesL_ (some 13) rfl rfl Try.func82 (by kernel_rfl) rfl #[.int .i64 a0, .slice A1 l1.length c1, .int .u64 1] rfl (by (try simp only [List.map_toArray, List.map_cons, List.map_nil]); first | done | rfl) ?_; refine (steiner_Is.calls k a0 A1 c1 l1 1 s e1 _ ?sa HC1.out AI.out).mono ?_; (case sa => repeat (first | exact HR1.out | (with_reducible refine Kd.C_drewN ?_ _) | (with_reducible refine Kd.C_drew ?_))); rintro e w5 ⟨rfl, hb⟩; refine ⟨_, rfl, ?_⟩; have n2_ := Aside0.mk (below_step (by repeat (first | (with_reducible first | exact HB.out | apply pw_below_drewN | apply below_drew1) | exact HB.out)) hb); clear HB; have HB := n2_; clear n2_ hb))
    go_ret2
    exact ⟨_, rfl, Kd.R_nil _ _ _ _ _, (by repeat (first | (with_reducible first | exact HB.out | apply below_alloc | apply pw_below_drewN | apply below_drew1) | exact HB.out))⟩
def sub_Split.f (k : Nat) (a0 : Int) (a1_0 : Int) (a1_1 : Int) : Option ((List (S24)) × Int) := (sub_Useful.f k a0 a1_0 a1_1).bind fun bt349 => (if bt349.2 = 0 then (if bt349.1 = true then (some ((([(⟨a1_0, a1_1⟩ : S24)] : List (S24))), 0)) else (if a1_1 = 0 then (some ((([(⟨a1_0, a1_1⟩ : S24)] : List (S24))), 0)) else ((sub_depths.f k a0 a1_0 a1_1).bind fun bt357 => (if bt357.2.2.2.2 = 0 then ((node_Up.f k a0 a1_1 bt357.2.2.1).bind fun bt362 => (some ((([(⟨a1_0, bt362.1⟩ : S24), (⟨bt362.1, a1_1⟩ : S24)] : List (S24))), bt362.2))) else (some (([] : List (S24)), bt357.2.2.2.2)))))) else (some (([] : List (S24)), bt349.2)))
set_option maxHeartbeats 8000000 in
set_option maxRecDepth 100000 in
theorem sub_Split.calls (k : Nat) (a0 : Int) (a1_0 : Int) (a1_1 : Int) (r1 : List (S24)) (r2 : Int) (w : World) (h : sub_Split.f k a0 a1_0 a1_1 = some (r1, r2)) :
    Calls Try.prog 59 #[.int .i64 a0, .agg #[.int .u64 a1_0, .int .u64 a1_1]] w fun e w' => ∃ v0_ : Value, e = .returned (.tuple #[v0_, .int .i64 r2]) ∧ Kd.R k24 24 w' w.heap.size (fun _ => True) v0_ r1 ∧ Below w.heap.size w w' := by
  have hu24 := Try.underlying24
  have HB := Aside0.mk (Below.refl w.heap.size w)
  have H : ((sub_Useful.f k a0 a1_0 a1_1).bind fun bt349 => (if bt349.2 = 0 then (if bt349.1 = true then (some ((([(⟨a1_0, a1_1⟩ : S24)] : List (S24))), 0)) else (if a1_1 = 0 then (some ((([(⟨a1_0, a1_1⟩ : S24)] : List (S24))), 0)) else ((sub_depths.f k a0 a1_0 a1_1).bind fun bt357 => (if bt357.2.2.2.2 = 0 then ((node_Up.f k a0 a1_1 bt357.2.2.1).bind fun bt362 => (some ((([(⟨a1_0, bt362.1⟩ : S24), (⟨bt362.1, a1_1⟩ : S24)] : List (S24))), bt362.2))) else (some (([] : List (S24)), bt357.2.2.2.2)))))) else (some (([] : List (S24)), bt349.2)))) = some (r1, r2) := h
  clear h
  replace H := Option.bind_eq_some_iff.mp H
  obtain ⟨⟨t349, t350⟩, A30, H⟩ := H
  replace H : (if t350 = 0 then (if t349 = true then (some ((([(⟨a1_0, a1_1⟩ : S24)] : List (S24))), 0)) else (if a1_1 = 0 then (some ((([(⟨a1_0, a1_1⟩ : S24)] : List (S24))), 0)) else ((sub_depths.f k a0 a1_0 a1_1).bind fun bt357 => (if bt357.2.2.2.2 = 0 then ((node_Up.f k a0 a1_1 bt357.2.2.1).bind fun bt362 => (some ((([(⟨a1_0, bt362.1⟩ : S24), (⟨bt362.1, a1_1⟩ : S24)] : List (S24))), bt362.2))) else (some (([] : List (S24)), bt357.2.2.2.2)))))) else (some (([] : List (S24)), t350))) = some (r1, r2) := H
  have A3 := Aside0.mk A30
  clear A30
  by_cases c4 : t350 = 0
  · rw [if_pos c4] at H
    have c4b0 : (t350 == 0) = true := beq_iff_eq.mpr c4
    have c4b1 : (t350 != 0) = false := bne_eq_false_iff_eq.mpr c4
    clear c4
    by_cases c5 : t349 = true
    · subst c5
      have H1 : (some ((([(⟨a1_0, a1_1⟩ : S24)] : List (S24))), 0)) = some (r1, r2) := by rw [if_pos rfl] at H; exact H
      clear H
      have H := H1
      clear H1
      obtain ⟨y351, hy351⟩ : ∃ y_ : List (S24), y_ = (([(⟨a1_0, a1_1⟩ : S24)] : List (S24))) := ⟨_, rfl⟩
      replace H : (some (y351, 0)) = some (r1, r2) := by first | (rw [hy351]; with_reducible exact H) | (have H2_ := (Option.bind_some _ _).symm.trans H; rw [hy351]; with_reducible exact H2_) | (have H2_ := (Option.bind_some _ _).symm.trans H; with_reducible exact H2_) | with_reducible exact H | (rw [hy351]; exact H) | exact H
      have Ny351 := Aside0.mk hy351
      clear hy351
      simp only [Option.some.injEq, Prod.mk.injEq] at H
      obtain ⟨rfl, rfl⟩ := H
      go_enter Try.func59, Try.ntmps59
      go_wp2_with (first | ((with_reducible refine gate_dst (N := 3) rfl ?_); refine box_event ?hg (N := 3) ?hd (cs := #[.int .u64 a1_0, .int .u64 a1_1]) (t := 24) ?hr ?_; (case hd => rfl); (case hg => rfl); (case hr => first | (go_simp; done) | (go_simp; rfl)); intro gb348 hg w6 hbox hb; have n0_ := Aside0.mk (below_step (by repeat (first | (with_reducible first | exact HB.out | apply below_alloc | apply pw_below_drewN | apply below_drew1) | exact HB.out)) hb); have n1_ := Aside0.mk (hbox); have n2_ := Aside0.mk ((by rw [hg]; exact (below_size (by repeat (first | (with_reducible first | exact HB.out | apply below_alloc | apply pw_below_drewN | apply below_drew1) | exact HB.out))) : w.heap.size ≤ gb348)); have n3_ := Aside0.mk ((by rw [hg]; exact (below_size (by repeat (first | (with_reducible first | exact HB.out | apply below_alloc | apply pw_below_drewN | apply below_drew1) | exact HB.out))) : w.heap.size ≤ gb348)); clear HB; have HB := n0_; have BK348 := n1_; have GW348 := n2_; have GE348 := n3_; clear n0_ n1_ n2_ n3_; clear hb hbox hg; have hcz7_0 : w6.cell? ⟨gb348, 0, none⟩ = some (.int .u64 a1_0) := (blk_cell BK348.out 0).trans rfl; have hcz7_1 : w6.cell? ⟨gb348, 1, none⟩ = some (.int .u64 a1_1) := (blk_cell BK348.out 1).trans rfl; have hfz7_0 := blk_frozen BK348.out 0; have hfz7_1 := blk_frozen BK348.out 1) | ((with_reducible refine gate_callee (f := 39) rfl ?_); refine goesL_ (some 16) rfl rfl Try.func39 (by kernel_rfl) rfl #[.int .i64 a0, .agg #[.int .u64 a1_0, .int .u64 a1_1]] rfl (by (try simp only [List.map_toArray, List.map_cons, List.map_nil]); first | done | rfl | (simp only [List.length_drop, List.length_take]; rfl)) ?_; (with_reducible refine (sub_Useful.calls k a0 a1_0 a1_1 true t350 _ A3.out).mono ?_); rintro e w8 ⟨rfl, hb⟩; refine ⟨_, rfl, ?_⟩; have n0_ := Aside0.mk (blk_below (g := gb348) (o := .cells #[.int .u64 a1_0, .int .u64 a1_1] 24 (0, 0)) (by (with_reducible repeat (first | refine blk_drewN ?_ _ | refine blk_drew ?_ | refine blk_alloc ?_ _)); exact BK348.out) hb); have n1_ := Aside0.mk (below_step (by repeat (first | (with_reducible first | exact HB.out | apply below_alloc | apply pw_below_drewN | apply below_drew1 | refine below_set ?_ GE348.out) | exact HB.out)) hb); clear BK348; clear HB; have BK348 := n0_; have HB := n1_; clear n0_ n1_; (try clear hb); (try clear hb2); (try clear hk); (try clear hi); have hcz9_0 : w8.cell? ⟨gb348, 0, none⟩ = some (.int .u64 a1_0) := (blk_cell BK348.out 0).trans rfl; have hcz9_1 : w8.cell? ⟨gb348, 1, none⟩ = some (.int .u64 a1_1) := (blk_cell BK348.out 1).trans rfl; have hfz9_0 := blk_frozen BK348.out 0; have hfz9_1 := blk_frozen BK348.out 1) | ((with_reducible refine gate_dst (N := 31) rfl ?_); refine Kd.R_lit k24 _ 24 ?hg (N := 31) ?hd (xs := ([(⟨a1_0, a1_1⟩ : S24)] : List (S24))) (inner := [.int .u64 a1_0, .int .u64 a1_1]) (ok := fun _ => True) (okp := fun _ => True) ?hr ?hp (fun _ hk => hk) trivial (Below.refl _ _) (Nat.le_refl _) (by simp) ?_; (case hd => rfl); (case hg => rfl); (case hr => first | (go_simp; done) | (go_simp; rfl)); (case hp => exact (Reps.c2 (show Kd.M k24 _ _ _ (⟨a1_0, a1_1⟩ : S24) [.int .u64 a1_0, .int .u64 a1_1] from (k24_mkM _ _ _ (⟨a1_0, a1_1⟩ : S24) )) (Reps.none _ _))); intro v352 w10 ho11 hb hg_ hnew_; clear hg_ hnew_; (first | rw [← Ny351.out] at ho11 | (simp only [Int.reduceToNat] at ho11; rw [← Ny351.out] at ho11)); have n0_ := Aside0.mk (Kd.R_lower (Kd.R_newB ho11 (g := gb348) (o := .cells #[.int .u64 a1_0, .int .u64 a1_1] 24 (0, 0)) (by (with_reducible repeat (first | refine blk_drewN ?_ _ | refine blk_drew ?_ | refine blk_alloc ?_ _)); exact BK348.out)) (below_size (by repeat (first | (with_reducible first | exact HB.out | apply below_alloc | apply pw_below_drewN | apply below_drew1 | refine below_set ?_ GE348.out) | exact HB.out)))); have n1_ := Aside0.mk (blk_below (g := gb348) (o := .cells #[.int .u64 a1_0, .int .u64 a1_1] 24 (0, 0)) (by (with_reducible repeat (first | refine blk_drewN ?_ _ | refine blk_drew ?_ | refine blk_alloc ?_ _)); exact BK348.out) hb); have n2_ := Aside0.mk (below_step (by repeat (first | (with_reducible first | exact HB.out | apply below_alloc | apply pw_below_drewN | apply below_drew1 | refine below_set ?_ GE348.out) | exact HB.out)) hb); clear BK348; clear HB; have HO353 := n0_; have BK348 := n1_; have HB := n2_; clear n0_ n1_ n2_; clear hb ho11))
      go_ret2
      exact ⟨_, by first | rfl | (simp [errW_none, errW_some] <;> rfl) | (simp [*, errW_none, errW_some] <;> rfl), by (with_reducible repeat (first | apply Kd.R_alloc | apply Kd.R_drewN | apply Kd.R_drew)); exact Kd.R_mono HO353.out (fun _ hk => trivial), by repeat (first | (with_reducible first | exact HB.out | apply below_alloc | apply pw_below_drewN | apply below_drew1 | refine below_set ?_ GE348.out) | exact HB.out)⟩
    · replace c5 := Bool.eq_false_iff.mpr c5
      subst c5
      have H1 : (if a1_1 = 0 then (some ((([(⟨a1_0, a1_1⟩ : S24)] : List (S24))), 0)) else ((sub_depths.f k a0 a1_0 a1_1).bind fun bt357 => (if bt357.2.2.2.2 = 0 then ((node_Up.f k a0 a1_1 bt357.2.2.1).bind fun bt362 => (some ((([(⟨a1_0, bt362.1⟩ : S24), (⟨bt362.1, a1_1⟩ : S24)] : List (S24))), bt362.2))) else (some (([] : List (S24)), bt357.2.2.2.2))))) = some (r1, r2) := by rw [if_neg (show ¬ (false = true) by decide)] at H; exact H
      clear H
      have H := H1
      clear H1
      by_cases c12 : a1_1 = 0
      · rw [if_pos c12] at H
        have c12b0 : (a1_1 == 0) = true := beq_iff_eq.mpr c12
        have c12b1 : (a1_1 != 0) = false := bne_eq_false_iff_eq.mpr c12
        clear c12
        obtain ⟨y354, hy354⟩ : ∃ y_ : List (S24), y_ = (([(⟨a1_0, a1_1⟩ : S24)] : List (S24))) := ⟨_, rfl⟩
        replace H : (some (y354, 0)) = some (r1, r2) := by first | (rw [hy354]; with_reducible exact H) | (have H2_ := (Option.bind_some _ _).symm.trans H; rw [hy354]; with_reducible exact H2_) | (have H2_ := (Option.bind_some _ _).symm.trans H; with_reducible exact H2_) | with_reducible exact H | (rw [hy354]; exact H) | exact H
        have Ny354 := Aside0.mk hy354
        clear hy354
        simp only [Option.some.injEq, Prod.mk.injEq] at H
        obtain ⟨rfl, rfl⟩ := H
        go_enter Try.func59, Try.ntmps59
        go_wp2_with (first | ((with_reducible refine gate_dst (N := 3) rfl ?_); refine box_event ?hg (N := 3) ?hd (cs := #[.int .u64 a1_0, .int .u64 a1_1]) (t := 24) ?hr ?_; (case hd => rfl); (case hg => rfl); (case hr => first | (go_simp; done) | (go_simp; rfl)); intro gb348 hg w13 hbox hb; have n0_ := Aside0.mk (below_step (by repeat (first | (with_reducible first | exact HB.out | apply below_alloc | apply pw_below_drewN | apply below_drew1) | exact HB.out)) hb); have n1_ := Aside0.mk (hbox); have n2_ := Aside0.mk ((by rw [hg]; exact (below_size (by repeat (first | (with_reducible first | exact HB.out | apply below_alloc | apply pw_below_drewN | apply below_drew1) | exact HB.out))) : w.heap.size ≤ gb348)); have n3_ := Aside0.mk ((by rw [hg]; exact (below_size (by repeat (first | (with_reducible first | exact HB.out | apply below_alloc | apply pw_below_drewN | apply below_drew1) | exact HB.out))) : w.heap.size ≤ gb348)); clear HB; have HB := n0_; have BK348 := n1_; have GW348 := n2_; have GE348 := n3_; clear n0_ n1_ n2_ n3_; clear hb hbox hg; have hcz14_0 : w13.cell? ⟨gb348, 0, none⟩ = some (.int .u64 a1_0) := (blk_cell BK348.out 0).trans rfl; have hcz14_1 : w13.cell? ⟨gb348, 1, none⟩ = some (.int .u64 a1_1) := (blk_cell BK348.out 1).trans rfl; have hfz14_0 := blk_frozen BK348.out 0; have hfz14_1 := blk_frozen BK348.out 1) | ((with_reducible refine gate_callee (f := 39) rfl ?_); refine goesL_ (some 16) rfl rfl Try.func39 (by kernel_rfl) rfl #[.int .i64 a0, .agg #[.int .u64 a1_0, .int .u64 a1_1]] rfl (by (try simp only [List.map_toArray, List.map_cons, List.map_nil]); first | done | rfl | (simp only [List.length_drop, List.length_take]; rfl)) ?_; (with_reducible refine (sub_Useful.calls k a0 a1_0 a1_1 false t350 _ A3.out).mono ?_); rintro e w15 ⟨rfl, hb⟩; refine ⟨_, rfl, ?_⟩; have n0_ := Aside0.mk (blk_below (g := gb348) (o := .cells #[.int .u64 a1_0, .int .u64 a1_1] 24 (0, 0)) (by (with_reducible repeat (first | refine blk_drewN ?_ _ | refine blk_drew ?_ | refine blk_alloc ?_ _)); exact BK348.out) hb); have n1_ := Aside0.mk (below_step (by repeat (first | (with_reducible first | exact HB.out | apply below_alloc | apply pw_below_drewN | apply below_drew1 | refine below_set ?_ GE348.out) | exact HB.out)) hb); clear BK348; clear HB; have BK348 := n0_; have HB := n1_; clear n0_ n1_; (try clear hb); (try clear hb2); (try clear hk); (try clear hi); have hcz16_0 : w15.cell? ⟨gb348, 0, none⟩ = some (.int .u64 a1_0) := (blk_cell BK348.out 0).trans rfl; have hcz16_1 : w15.cell? ⟨gb348, 1, none⟩ = some (.int .u64 a1_1) := (blk_cell BK348.out 1).trans rfl; have hfz16_0 := blk_frozen BK348.out 0; have hfz16_1 := blk_frozen BK348.out 1) | ((with_reducible refine gate_dst (N := 31) rfl ?_); refine Kd.R_lit k24 _ 24 ?hg (N := 31) ?hd (xs := ([(⟨a1_0, a1_1⟩ : S24)] : List (S24))) (inner := [.int .u64 a1_0, .int .u64 a1_1]) (ok := fun _ => True) (okp := fun _ => True) ?hr ?hp (fun _ hk => hk) trivial (Below.refl _ _) (Nat.le_refl _) (by simp) ?_; (case hd => rfl); (case hg => rfl); (case hr => first | (go_simp; done) | (go_simp; rfl)); (case hp => exact (Reps.c2 (show Kd.M k24 _ _ _ (⟨a1_0, a1_1⟩ : S24) [.int .u64 a1_0, .int .u64 a1_1] from (k24_mkM _ _ _ (⟨a1_0, a1_1⟩ : S24) )) (Reps.none _ _))); intro v355 w17 ho18 hb hg_ hnew_; clear hg_ hnew_; (first | rw [← Ny354.out] at ho18 | (simp only [Int.reduceToNat] at ho18; rw [← Ny354.out] at ho18)); have n0_ := Aside0.mk (Kd.R_lower (Kd.R_newB ho18 (g := gb348) (o := .cells #[.int .u64 a1_0, .int .u64 a1_1] 24 (0, 0)) (by (with_reducible repeat (first | refine blk_drewN ?_ _ | refine blk_drew ?_ | refine blk_alloc ?_ _)); exact BK348.out)) (below_size (by repeat (first | (with_reducible first | exact HB.out | apply below_alloc | apply pw_below_drewN | apply below_drew1 | refine below_set ?_ GE348.out) | exact HB.out)))); have n1_ := Aside0.mk (blk_below (g := gb348) (o := .cells #[.int .u64 a1_0, .int .u64 a1_1] 24 (0, 0)) (by (with_reducible repeat (first | refine blk_drewN ?_ _ | refine blk_drew ?_ | refine blk_alloc ?_ _)); exact BK348.out) hb); have n2_ := Aside0.mk (below_step (by repeat (first | (with_reducible first | exact HB.out | apply below_alloc | apply pw_below_drewN | apply below_drew1 | refine below_set ?_ GE348.out) | exact HB.out)) hb); clear BK348; clear HB; have HO356 := n0_; have BK348 := n1_; have HB := n2_; clear n0_ n1_ n2_; clear hb ho18))
        go_ret2
        exact ⟨_, by first | rfl | (simp [errW_none, errW_some] <;> rfl) | (simp [*, errW_none, errW_some] <;> rfl), by (with_reducible repeat (first | apply Kd.R_alloc | apply Kd.R_drewN | apply Kd.R_drew)); exact Kd.R_mono HO356.out (fun _ hk => trivial), by repeat (first | (with_reducible first | exact HB.out | apply below_alloc | apply pw_below_drewN | apply below_drew1 | refine below_set ?_ GE348.out) | exact HB.out)⟩
      · rw [if_neg c12] at H
        have c12b0 : (a1_1 == 0) = false := beq_eq_false_iff_ne.mpr c12
        have c12b1 : (a1_1 != 0) = true := bne_iff_ne.mpr c12
        replace H := Option.bind_eq_some_iff.mp H
        obtain ⟨⟨t357, t358, t359, t360, t361⟩, A190, H⟩ := H
        replace H : (if t361 = 0 then ((node_Up.f k a0 a1_1 t359).bind fun bt362 => (some ((([(⟨a1_0, bt362.1⟩ : S24), (⟨bt362.1, a1_1⟩ : S24)] : List (S24))), bt362.2))) else (some (([] : List (S24)), t361))) = some (r1, r2) := H
        have A19 := Aside0.mk A190
        clear A190
        by_cases c20 : t361 = 0
        · rw [if_pos c20] at H
          have c20b0 : (t361 == 0) = true := beq_iff_eq.mpr c20
          have c20b1 : (t361 != 0) = false := bne_eq_false_iff_eq.mpr c20
          clear c20
          replace H := Option.bind_eq_some_iff.mp H
          obtain ⟨⟨t362, t363⟩, A210, H⟩ := H
          replace H : (some ((([(⟨a1_0, t362⟩ : S24), (⟨t362, a1_1⟩ : S24)] : List (S24))), t363)) = some (r1, r2) := H
          have A21 := Aside0.mk A210
          clear A210
          obtain ⟨y364, hy364⟩ : ∃ y_ : List (S24), y_ = (([(⟨a1_0, t362⟩ : S24), (⟨t362, a1_1⟩ : S24)] : List (S24))) := ⟨_, rfl⟩
          replace H : (some (y364, t363)) = some (r1, r2) := by first | (rw [hy364]; with_reducible exact H) | (have H2_ := (Option.bind_some _ _).symm.trans H; rw [hy364]; with_reducible exact H2_) | (have H2_ := (Option.bind_some _ _).symm.trans H; with_reducible exact H2_) | with_reducible exact H | (rw [hy364]; exact H) | exact H
          have Ny364 := Aside0.mk hy364
          clear hy364
          simp only [Option.some.injEq, Prod.mk.injEq] at H
          obtain ⟨rfl, rfl⟩ := H
          go_enter Try.func59, Try.ntmps59
          go_wp2_with (first | ((with_reducible refine gate_dst (N := 3) rfl ?_); refine box_event ?hg (N := 3) ?hd (cs := #[.int .u64 a1_0, .int .u64 a1_1]) (t := 24) ?hr ?_; (case hd => rfl); (case hg => rfl); (case hr => first | (go_simp; done) | (go_simp; rfl)); intro gb348 hg w22 hbox hb; have n0_ := Aside0.mk (below_step (by repeat (first | (with_reducible first | exact HB.out | apply below_alloc | apply pw_below_drewN | apply below_drew1) | exact HB.out)) hb); have n1_ := Aside0.mk (hbox); have n2_ := Aside0.mk ((by rw [hg]; exact (below_size (by repeat (first | (with_reducible first | exact HB.out | apply below_alloc | apply pw_below_drewN | apply below_drew1) | exact HB.out))) : w.heap.size ≤ gb348)); have n3_ := Aside0.mk ((by rw [hg]; exact (below_size (by repeat (first | (with_reducible first | exact HB.out | apply below_alloc | apply pw_below_drewN | apply below_drew1) | exact HB.out))) : w.heap.size ≤ gb348)); clear HB; have HB := n0_; have BK348 := n1_; have GW348 := n2_; have GE348 := n3_; clear n0_ n1_ n2_ n3_; clear hb hbox hg; have hcz23_0 : w22.cell? ⟨gb348, 0, none⟩ = some (.int .u64 a1_0) := (blk_cell BK348.out 0).trans rfl; have hcz23_1 : w22.cell? ⟨gb348, 1, none⟩ = some (.int .u64 a1_1) := (blk_cell BK348.out 1).trans rfl; have hfz23_0 := blk_frozen BK348.out 0; have hfz23_1 := blk_frozen BK348.out 1) | ((with_reducible refine gate_callee (f := 39) rfl ?_); refine goesL_ (some 16) rfl rfl Try.func39 (by kernel_rfl) rfl #[.int .i64 a0, .agg #[.int .u64 a1_0, .int .u64 a1_1]] rfl (by (try simp only [List.map_toArray, List.map_cons, List.map_nil]); first | done | rfl | (simp only [List.length_drop, List.length_take]; rfl)) ?_; (with_reducible refine (sub_Useful.calls k a0 a1_0 a1_1 false t350 _ A3.out).mono ?_); rintro e w24 ⟨rfl, hb⟩; refine ⟨_, rfl, ?_⟩; have n0_ := Aside0.mk (blk_below (g := gb348) (o := .cells #[.int .u64 a1_0, .int .u64 a1_1] 24 (0, 0)) (by (with_reducible repeat (first | refine blk_drewN ?_ _ | refine blk_drew ?_ | refine blk_alloc ?_ _)); exact BK348.out) hb); have n1_ := Aside0.mk (below_step (by repeat (first | (with_reducible first | exact HB.out | apply below_alloc | apply pw_below_drewN | apply below_drew1 | refine below_set ?_ GE348.out) | exact HB.out)) hb); clear BK348; clear HB; have BK348 := n0_; have HB := n1_; clear n0_ n1_; (try clear hb); (try clear hb2); (try clear hk); (try clear hi); have hcz25_0 : w24.cell? ⟨gb348, 0, none⟩ = some (.int .u64 a1_0) := (blk_cell BK348.out 0).trans rfl; have hcz25_1 : w24.cell? ⟨gb348, 1, none⟩ = some (.int .u64 a1_1) := (blk_cell BK348.out 1).trans rfl; have hfz25_0 := blk_frozen BK348.out 0; have hfz25_1 := blk_frozen BK348.out 1) | ((with_reducible refine gate_callee (f := 66) rfl ?_); refine goesL_ (some 35) rfl rfl Try.func66 (by kernel_rfl) rfl #[.int .i64 a0, .agg #[.int .u64 a1_0, .int .u64 a1_1]] rfl (by (try simp only [List.map_toArray, List.map_cons, List.map_nil]); first | done | rfl | (simp only [List.length_drop, List.length_take]; rfl)) ?_; (with_reducible refine (sub_depths.calls k a0 a1_0 a1_1 t357 t358 t359 t360 t361 _ A19.out).mono ?_); rintro e w26 ⟨rfl, hb⟩; refine ⟨_, rfl, ?_⟩; have n0_ := Aside0.mk (blk_below (g := gb348) (o := .cells #[.int .u64 a1_0, .int .u64 a1_1] 24 (0, 0)) (by (with_reducible repeat (first | refine blk_drewN ?_ _ | refine blk_drew ?_ | refine blk_alloc ?_ _)); exact BK348.out) hb); have n1_ := Aside0.mk (below_step (by repeat (first | (with_reducible first | exact HB.out | apply below_alloc | apply pw_below_drewN | apply below_drew1 | refine below_set ?_ GE348.out) | exact HB.out)) hb); clear BK348; clear HB; have BK348 := n0_; have HB := n1_; clear n0_ n1_; (try clear hb); (try clear hb2); (try clear hk); (try clear hi); have hcz27_0 : w26.cell? ⟨gb348, 0, none⟩ = some (.int .u64 a1_0) := (blk_cell BK348.out 0).trans rfl; have hcz27_1 : w26.cell? ⟨gb348, 1, none⟩ = some (.int .u64 a1_1) := (blk_cell BK348.out 1).trans rfl; have hfz27_0 := blk_frozen BK348.out 0; have hfz27_1 := blk_frozen BK348.out 1) | ((with_reducible refine gate_callee (f := 31) rfl ?_); refine goesL_ (some 49) rfl rfl Try.func31 (by kernel_rfl) rfl #[.int .i64 a0, .int .u64 a1_1, .int .i64 t359] rfl (by (try simp only [List.map_toArray, List.map_cons, List.map_nil]); first | done | rfl | (simp only [List.length_drop, List.length_take]; rfl)) ?_; (with_reducible refine (node_Up.calls k a0 a1_1 t359 t362 t363 _ A21.out).mono ?_); rintro e w' ⟨rfl, ⟨nd, rfl⟩⟩; refine ⟨_, rfl, ?_⟩) | ((with_reducible refine gate_dst (N := 60) rfl ?_); refine Kd.R_lit k24 _ 24 ?hg (N := 60) ?hd (xs := ([(⟨a1_0, t362⟩ : S24), (⟨t362, a1_1⟩ : S24)] : List (S24))) (inner := [.int .u64 a1_0, .int .u64 t362, .int .u64 t362, .int .u64 a1_1]) (ok := fun _ => True) (okp := fun _ => True) ?hr ?hp (fun _ hk => hk) trivial (Below.refl _ _) (Nat.le_refl _) (by simp) ?_; (case hd => rfl); (case hg => rfl); (case hr => first | (go_simp; done) | (go_simp; rfl)); (case hp => exact (Reps.c2 (show Kd.M k24 _ _ _ (⟨a1_0, t362⟩ : S24) [.int .u64 a1_0, .int .u64 t362] from (k24_mkM _ _ _ (⟨a1_0, t362⟩ : S24) )) (Reps.c2 (show Kd.M k24 _ _ _ (⟨t362, a1_1⟩ : S24) [.int .u64 t362, .int .u64 a1_1] from (k24_mkM _ _ _ (⟨t362, a1_1⟩ : S24) )) (Reps.none _ _)))); intro v365 w28 ho29 hb hg_ hnew_; clear hg_ hnew_; (first | rw [← Ny364.out] at ho29 | (simp only [Int.reduceToNat] at ho29; rw [← Ny364.out] at ho29)); have n0_ := Aside0.mk (Kd.R_lower (Kd.R_newB ho29 (g := gb348) (o := .cells #[.int .u64 a1_0, .int .u64 a1_1] 24 (0, 0)) (by (with_reducible repeat (first | refine blk_drewN ?_ _ | refine blk_drew ?_ | refine blk_alloc ?_ _)); exact BK348.out)) (below_size (by repeat (first | (with_reducible first | exact HB.out | apply below_alloc | apply pw_below_drewN | apply below_drew1 | refine below_set ?_ GE348.out) | exact HB.out)))); have n1_ := Aside0.mk (blk_below (g := gb348) (o := .cells #[.int .u64 a1_0, .int .u64 a1_1] 24 (0, 0)) (by (with_reducible repeat (first | refine blk_drewN ?_ _ | refine blk_drew ?_ | refine blk_alloc ?_ _)); exact BK348.out) hb); have n2_ := Aside0.mk (below_step (by repeat (first | (with_reducible first | exact HB.out | apply below_alloc | apply pw_below_drewN | apply below_drew1 | refine below_set ?_ GE348.out) | exact HB.out)) hb); clear BK348; clear HB; have HO366 := n0_; have BK348 := n1_; have HB := n2_; clear n0_ n1_ n2_; clear hb ho29))
          go_ret2
          exact ⟨_, by first | rfl | (simp [errW_none, errW_some] <;> rfl) | (simp [*, errW_none, errW_some] <;> rfl), by (with_reducible repeat (first | apply Kd.R_alloc | apply Kd.R_drewN | apply Kd.R_drew)); exact Kd.R_mono HO366.out (fun _ hk => trivial), by repeat (first | (with_reducible first | exact HB.out | apply below_alloc | apply pw_below_drewN | apply below_drew1 | refine below_set ?_ GE348.out) | exact HB.out)⟩
        · rw [if_neg c20] at H
          have c20b0 : (t361 == 0) = false := beq_eq_false_iff_ne.mpr c20
          have c20b1 : (t361 != 0) = true := bne_iff_ne.mpr c20
          simp only [Option.some.injEq, Prod.mk.injEq] at H
          obtain ⟨rfl, rfl⟩ := H
          go_enter Try.func59, Try.ntmps59
          go_wp2_with (first | ((with_reducible refine gate_dst (N := 3) rfl ?_); refine box_event ?hg (N := 3) ?hd (cs := #[.int .u64 a1_0, .int .u64 a1_1]) (t := 24) ?hr ?_; (case hd => rfl); (case hg => rfl); (case hr => first | (go_simp; done) | (go_simp; rfl)); intro gb348 hg w30 hbox hb; have n0_ := Aside0.mk (below_step (by repeat (first | (with_reducible first | exact HB.out | apply below_alloc | apply pw_below_drewN | apply below_drew1) | exact HB.out)) hb); have n1_ := Aside0.mk (hbox); have n2_ := Aside0.mk ((by rw [hg]; exact (below_size (by repeat (first | (with_reducible first | exact HB.out | apply below_alloc | apply pw_below_drewN | apply below_drew1) | exact HB.out))) : w.heap.size ≤ gb348)); have n3_ := Aside0.mk ((by rw [hg]; exact (below_size (by repeat (first | (with_reducible first | exact HB.out | apply below_alloc | apply pw_below_drewN | apply below_drew1) | exact HB.out))) : w.heap.size ≤ gb348)); clear HB; have HB := n0_; have BK348 := n1_; have GW348 := n2_; have GE348 := n3_; clear n0_ n1_ n2_ n3_; clear hb hbox hg; have hcz31_0 : w30.cell? ⟨gb348, 0, none⟩ = some (.int .u64 a1_0) := (blk_cell BK348.out 0).trans rfl; have hcz31_1 : w30.cell? ⟨gb348, 1, none⟩ = some (.int .u64 a1_1) := (blk_cell BK348.out 1).trans rfl; have hfz31_0 := blk_frozen BK348.out 0; have hfz31_1 := blk_frozen BK348.out 1) | ((with_reducible refine gate_callee (f := 39) rfl ?_); refine goesL_ (some 16) rfl rfl Try.func39 (by kernel_rfl) rfl #[.int .i64 a0, .agg #[.int .u64 a1_0, .int .u64 a1_1]] rfl (by (try simp only [List.map_toArray, List.map_cons, List.map_nil]); first | done | rfl | (simp only [List.length_drop, List.length_take]; rfl)) ?_; (with_reducible refine (sub_Useful.calls k a0 a1_0 a1_1 false t350 _ A3.out).mono ?_); rintro e w32 ⟨rfl, hb⟩; refine ⟨_, rfl, ?_⟩; have n0_ := Aside0.mk (blk_below (g := gb348) (o := .cells #[.int .u64 a1_0, .int .u64 a1_1] 24 (0, 0)) (by (with_reducible repeat (first | refine blk_drewN ?_ _ | refine blk_drew ?_ | refine blk_alloc ?_ _)); exact BK348.out) hb); have n1_ := Aside0.mk (below_step (by repeat (first | (with_reducible first | exact HB.out | apply below_alloc | apply pw_below_drewN | apply below_drew1 | refine below_set ?_ GE348.out) | exact HB.out)) hb); clear BK348; clear HB; have BK348 := n0_; have HB := n1_; clear n0_ n1_; (try clear hb); (try clear hb2); (try clear hk); (try clear hi); have hcz33_0 : w32.cell? ⟨gb348, 0, none⟩ = some (.int .u64 a1_0) := (blk_cell BK348.out 0).trans rfl; have hcz33_1 : w32.cell? ⟨gb348, 1, none⟩ = some (.int .u64 a1_1) := (blk_cell BK348.out 1).trans rfl; have hfz33_0 := blk_frozen BK348.out 0; have hfz33_1 := blk_frozen BK348.out 1) | ((with_reducible refine gate_callee (f := 66) rfl ?_); refine goesL_ (some 35) rfl rfl Try.func66 (by kernel_rfl) rfl #[.int .i64 a0, .agg #[.int .u64 a1_0, .int .u64 a1_1]] rfl (by (try simp only [List.map_toArray, List.map_cons, List.map_nil]); first | done | rfl | (simp only [List.length_drop, List.length_take]; rfl)) ?_; (with_reducible refine (sub_depths.calls k a0 a1_0 a1_1 t357 t358 t359 t360 t361 _ A19.out).mono ?_); rintro e w34 ⟨rfl, hb⟩; refine ⟨_, rfl, ?_⟩; have n0_ := Aside0.mk (blk_below (g := gb348) (o := .cells #[.int .u64 a1_0, .int .u64 a1_1] 24 (0, 0)) (by (with_reducible repeat (first | refine blk_drewN ?_ _ | refine blk_drew ?_ | refine blk_alloc ?_ _)); exact BK348.out) hb); have n1_ := Aside0.mk (below_step (by repeat (first | (with_reducible first | exact HB.out | apply below_alloc | apply pw_below_drewN | apply below_drew1 | refine below_set ?_ GE348.out) | exact HB.out)) hb); clear BK348; clear HB; have BK348 := n0_; have HB := n1_; clear n0_ n1_; (try clear hb); (try clear hb2); (try clear hk); (try clear hi)))
          go_ret2
          exact ⟨_, by first | rfl | (simp [errW_none, errW_some] <;> rfl) | (simp [*, errW_none, errW_some] <;> rfl), by first | exact Kd.R_nil _ _ _ _ _ | exact Kd.N_nil _ _ _ _ _ | exact Kd.V_nil _ _ _ _ _ | exact Kd.Q_nil _ _ _ _ _ | exact Kd.S_nil _ _ _ _ _, by repeat (first | (with_reducible first | exact HB.out | apply below_alloc | apply pw_below_drewN | apply below_drew1 | refine below_set ?_ GE348.out) | exact HB.out)⟩
  · rw [if_neg c4] at H
    have c4b0 : (t350 == 0) = false := beq_eq_false_iff_ne.mpr c4
    have c4b1 : (t350 != 0) = true := bne_iff_ne.mpr c4
    simp only [Option.some.injEq, Prod.mk.injEq] at H
    obtain ⟨rfl, rfl⟩ := H
    go_enter Try.func59, Try.ntmps59
    go_wp2_with (first | ((with_reducible refine gate_dst (N := 3) rfl ?_); refine box_event ?hg (N := 3) ?hd (cs := #[.int .u64 a1_0, .int .u64 a1_1]) (t := 24) ?hr ?_; (case hd => rfl); (case hg => rfl); (case hr => first | (go_simp; done) | (go_simp; rfl)); intro gb348 hg w35 hbox hb; have n0_ := Aside0.mk (below_step (by repeat (first | (with_reducible first | exact HB.out | apply below_alloc | apply pw_below_drewN | apply below_drew1) | exact HB.out)) hb); have n1_ := Aside0.mk (hbox); have n2_ := Aside0.mk ((by rw [hg]; exact (below_size (by repeat (first | (with_reducible first | exact HB.out | apply below_alloc | apply pw_below_drewN | apply below_drew1) | exact HB.out))) : w.heap.size ≤ gb348)); have n3_ := Aside0.mk ((by rw [hg]; exact (below_size (by repeat (first | (with_reducible first | exact HB.out | apply below_alloc | apply pw_below_drewN | apply below_drew1) | exact HB.out))) : w.heap.size ≤ gb348)); clear HB; have HB := n0_; have BK348 := n1_; have GW348 := n2_; have GE348 := n3_; clear n0_ n1_ n2_ n3_; clear hb hbox hg; have hcz36_0 : w35.cell? ⟨gb348, 0, none⟩ = some (.int .u64 a1_0) := (blk_cell BK348.out 0).trans rfl; have hcz36_1 : w35.cell? ⟨gb348, 1, none⟩ = some (.int .u64 a1_1) := (blk_cell BK348.out 1).trans rfl; have hfz36_0 := blk_frozen BK348.out 0; have hfz36_1 := blk_frozen BK348.out 1) | ((with_reducible refine gate_callee (f := 39) rfl ?_); refine goesL_ (some 16) rfl rfl Try.func39 (by kernel_rfl) rfl #[.int .i64 a0, .agg #[.int .u64 a1_0, .int .u64 a1_1]] rfl (by (try simp only [List.map_toArray, List.map_cons, List.map_nil]); first | done | rfl | (simp only [List.length_drop, List.length_take]; rfl)) ?_; (with_reducible refine (sub_Useful.calls k a0 a1_0 a1_1 t349 t350 _ A3.out).mono ?_); rintro e w37 ⟨rfl, hb⟩; refine ⟨_, rfl, ?_⟩; have n0_ := Aside0.mk (blk_below (g := gb348) (o := .cells #[.int .u64 a1_0, .int .u64 a1_1] 24 (0, 0)) (by (with_reducible repeat (first | refine blk_drewN ?_ _ | refine blk_drew ?_ | refine blk_alloc ?_ _)); exact BK348.out) hb); have n1_ := Aside0.mk (below_step (by repeat (first | (with_reducible first | exact HB.out | apply below_alloc | apply pw_below_drewN | apply below_drew1 | refine below_set ?_ GE348.out) | exact HB.out)) hb); clear BK348; clear HB; have BK348 := n0_; have HB := n1_; clear n0_ n1_; (try clear hb); (try clear hb2); (try clear hk); (try clear hi)))
    go_ret2
    exact ⟨_, by first | rfl | (simp [errW_none, errW_some] <;> rfl) | (simp [*, errW_none, errW_some] <;> rfl), by first | exact Kd.R_nil _ _ _ _ _ | exact Kd.N_nil _ _ _ _ _ | exact Kd.V_nil _ _ _ _ _ | exact Kd.Q_nil _ _ _ _ _ | exact Kd.S_nil _ _ _ _ _, by repeat (first | (with_reducible first | exact HB.out | apply below_alloc | apply pw_below_drewN | apply below_drew1 | refine below_set ?_ GE348.out) | exact HB.out)⟩
set_option maxHeartbeats 8000000 in
set_option maxRecDepth 100000 in
theorem layer_ord.grew (x y : S24) (W : World) : Calls Try.prog 88 #[.agg #[.int .u64 x.f0, .int .u64 x.f1], .agg #[.int .u64 y.f0, .int .u64 y.f1]] W fun e w' => e = .returned (.int .i64 (ordf x y)) ∧ Grew W w' := by
  have hu34 := Try.underlying24
  obtain ⟨c0, h0⟩ : ∃ c, c = (if x.f0 < y.f0 then -1 else if x.f0 > y.f0 then 1 else (0 : Int)) := ⟨_, rfl⟩
  obtain ⟨c1, h1⟩ : ∃ c, c = (if x.f1 < y.f1 then -1 else if x.f1 > y.f1 then 1 else (0 : Int)) := ⟨_, rfl⟩
  have e : ordf x y = if c0 = 0 then c1 else c0 := by
    subst h0 h1
    unfold ordf
    by_cases a : x.f0 < y.f0
    · simp [a]
    · by_cases b : x.f0 > y.f0
      · simp [a, b]
      · simp [a, b]
  have A1 := Aside0.mk (show cmp_Compare_uint64.f x.f0 y.f0 = some c0 by rw [cmp_eq, h0])
  have A2 := Aside0.mk (show cmp_Compare_uint64.f x.f1 y.f1 = some c1 by rw [cmp_eq, h1])
  have A3 := Aside0.mk (show cmp_Or_int.f 10 [c0, c1] = some (ordf x y) by rw [or_eq, e])
  clear h0 h1 e
  generalize ordf x y = r at A3 ⊢
  obtain ⟨W2, hW2⟩ : ∃ W2, W2 = (W.alloc (.cells #[.int .u64 x.f0, .int .u64 x.f1] 24)).alloc (.cells #[.int .u64 y.f0, .int .u64 y.f1] 24) := ⟨_, rfl⟩
  have HG := Aside0.mk (show Grew W W2 by rw [hW2]; exact ((Grew.refl W).alloc _).alloc _)
  have b1 : W2.heap[W.heap.size]? = some (.cells #[.int .u64 x.f0, .int .u64 x.f1] 24 (0, 0)) := by
    rw [hW2]; exact blk_below (blk_new W _) (below_alloc (Below.refl _ _) _)
  have b2 : W2.heap[W.heap.size + 1]? = some (.cells #[.int .u64 y.f0, .int .u64 y.f1] 24 (0, 0)) := by
    have h : (W.alloc (.cells #[.int .u64 x.f0, .int .u64 x.f1] 24)).heap.size = W.heap.size + 1 := Array.size_push ..
    rw [hW2, ← h]; exact blk_new _ _
  have y0 : W2.cell? ⟨W.heap.size, 0, none⟩ = some (.int .u64 x.f0) := by simp [World.cell?, b1]
  have y1 : W2.cell? ⟨W.heap.size, 1, none⟩ = some (.int .u64 x.f1) := by simp [World.cell?, b1]
  have y2 : W2.cell? ⟨W.heap.size + 1, 0, none⟩ = some (.int .u64 y.f0) := by simp [World.cell?, b2]
  have y3 : W2.cell? ⟨W.heap.size + 1, 1, none⟩ = some (.int .u64 y.f1) := by simp [World.cell?, b2]
  have OR : ∀ W', Kd.C (Kd.int .i64) W' (some ⟨W2.heap.size, 0, none⟩) 2 [c0, c1] → Calls Try.prog 89 #[.slice (some ⟨W2.heap.size, 0, none⟩) 2 2] W' fun e w' => e = .returned (.int .i64 r) ∧ Drawn0 W' w' := fun W' h => cmp_Or_int.calls 10 _ 2 [c0, c1] r W' h (by simp) A3.out
  go_enter Try.func88, Try.ntmps88
  go_wp2
  rw [← hW2]
  clear hW2 b1 b2
  go_region_held3 (fun w' => w'.cell? ⟨W.heap.size, 0, none⟩ = some (.int .u64 x.f0) ∧ w'.cell? ⟨W.heap.size, 1, none⟩ = some (.int .u64 x.f1) ∧ w'.cell? ⟨W.heap.size + 1, 0, none⟩ = some (.int .u64 y.f0) ∧ w'.cell? ⟨W.heap.size + 1, 1, none⟩ = some (.int .u64 y.f1)) (first | exact ⟨y0, y1, y2, y3⟩ | exact ⟨cu_al y0, cu_al y1, cu_al y2, cu_al y3⟩)
    (first | (go_at_call 90; with_reducible refine (cmp_Compare_uint64.calls x.f0 y.f0 c0 _ A1.out).mono ?_; rintro e w' ⟨rfl, ⟨nd, rfl⟩⟩) | (go_at_call 90; with_reducible refine (cmp_Compare_uint64.calls x.f1 y.f1 c1 _ A2.out).mono ?_; rintro e w' ⟨rfl, ⟨nd2, rfl⟩⟩) | (go_at_call 89; with_reducible refine (OR _ ?s1).mono ?_; (case s1 => have h_ := C_two (W2.drewN (1 + nd + nd2)) c0 c1; rw [show (W2.drewN (1 + nd + nd2)).heap.size = W2.heap.size from by simp [World.drewN]] at h_; exact h_); rintro e w' ⟨rfl, ⟨nd3, rfl⟩⟩))
  all_goals
    go_wp2
    go_ret
    exact ⟨rfl, by repeat (first | exact HG.out | apply Grew.alloc | apply Grew.drewN | apply Grew.drew)⟩
section
open Go.Shelf
attribute [local go_sem] Oper.semAt_some
set_option maxRecDepth 100000 in
set_option maxHeartbeats 2000000 in
theorem sl_values1_in (n : Nat) (hn : 1 ≤ n) (l Bs : Nat) (w : World) (A : Option Addr) (c : Nat) (zs : List S24) (hR : Kd.C k24 w A zs.length zs) (hlen : zs.length ≤ 1000000) (J Jx : List S24 → World → Prop)
    (W : World) (hJa : AbidesFrom W.heap.size J)
    (hY : ∀ pre x W, J pre W → pre.length < zs.length → YieldAt Fence.wide (n - 1) Try.prog l #[.agg #[.int .u64 x.f0, .int .u64 x.f1]] W fun e W' =>
      (e = .returned (.bool true) ∧ J (pre ++ [x]) W' ∧ Below w.heap.size W W') ∨ (e = .returned (.bool false) ∧ Jx (pre ++ [x]) W'))
    (hB : Below w.heap.size w W) (hBs : W.cell? ⟨Bs, 0, none⟩ = some (.slice A zs.length c)) (h0 : J [] W) :
    CallsIn Fence.wide n Try.prog 108 #[.func (.yield l) #[] #[], .pointer (some ⟨Bs, 0, none⟩)] W fun e W' => (∃ v, e = .returned v) ∧ ((∃ ys, ys = zs ∧ J ys W') ∨ (∃ pre, True ∧ Jx pre W')) := by
  refine callsIn_of_wp Try.func108 rfl trivial ?_ rfl
  simp only [Try.ntmps108, List.size_toArray, List.length_cons, List.length_nil, Nat.reduceAdd, Nat.reduceSub, Array.replicate_succ, Array.replicate_zero, List.push_toArray, List.append_toArray, List.nil_append, List.cons_append]
  gi_wp2
  gi_loopw [4, 7] (fun v4 i wr => ∃ (k : Nat), k ≤ zs.length ∧ i = .int .i64 k ∧ J (zs.take k) wr ∧ Below w.heap.size w wr)
    (fun _ i _ => zs.length - (intOf i).toNat)
  case atStart => exact ⟨0, Nat.zero_le _, rfl, h0, hB⟩
  case round =>
    obtain ⟨k, hk, rfl, hJ, hBr⟩ := hrel
    have HR := Aside0.mk (Kd.C_below hR hBr)
    have HBr := Aside0.mk hBr
    by_cases hlt : k < zs.length
    · obtain ⟨ad, e1, hx0, hx1⟩ := at_T24 HR.out (k : Int) (by omega) (by omega)
      cases e1
      rw [Int.toNat_natCast] at hx0 hx1
      have hg : rd_T24 zs (k : Int) = zs[k] := by
        first | (unfold rd_T24; simp [hlt]; done) | (simp [rd_T24, rdOf, hlt]; done)
      rw [hg] at hx0 hx1
      have tk : zs.take (k + 1) = zs.take k ++ [zs[k]] := List.take_succ_eq_append_getElem hlt
      have HT := Aside0.mk tk
      clear tk hg
      generalize zs[k] = x at *
      have hkd : decide ((k : Int) < (zs.length : Int)) = true := decide_eq_true (by omega)
      have hJ2 : J (zs.take k) (wr.alloc (.cells #[.int .u64 x.f0, .int .u64 x.f1] 24)) := hJa _ wr _ none hJ (World.grownBy_alloc wr _ none) (fun r e => by cases e)
      obtain ⟨fn, tmps, assign, body, hy, hRn⟩ := hY (zs.take k) x _ hJ2 (by rw [List.length_take]; omega)
      (try dsimp only at hy)
      gi_wp2
      refine hRn.mono ?_
      rintro e W3 (⟨rfl, hJ3, hk3⟩ | ⟨rfl, hJx3⟩)
      · gi_wp2
        go_roundw
        case rel => exact ⟨k + 1, by omega, by go_num, by rw [HT.out]; exact hJ3, (below_alloc HBr.out _).trans hk3⟩
        case measure => simp [intOf]; omega
      · gi_wp2
        refine bodyPost_ret (results_none rfl _ _ _) rfl ?_
        exact ⟨⟨_, rfl⟩, .inr ⟨_, trivial, hJx3⟩⟩
    · obtain rfl : k = zs.length := by omega
      have hkd : decide ((zs.length : Int) < (zs.length : Int)) = false := decide_eq_false (by omega)
      rw [List.take_length] at hJ
      gi_wp2
      go_end0
      exact ⟨⟨_, rfl⟩, .inl ⟨_, rfl, hJ⟩⟩
theorem sl_Values.calls (A : Option Addr) (n c : Nat) (w : World) : Calls Try.prog 87 #[.slice A n c] w fun e w' => e = .returned (.func (.func 108) #[] #[.pointer (some ⟨w.heap.size, 0, none⟩)]) ∧ w' = w.alloc (.cells #[.slice A n c] 26) := by
  have hmf : ∀ (fn : Fn) (first cap : Array Value) (w : World), (Instr.makeFunc fn first cap).run Try.prog w = .ok (.func fn first cap) w := fun _ _ _ _ => rfl
  go_enter Try.func87, Try.ntmps87
  go_wp2
  go_ret
  exact ⟨by simp, rfl⟩
def cs_sub (x : S24) : List Value := [.int .u64 x.f0, .int .u64 x.f1]
theorem reps_sub {R : S24 → List Value → Prop} (hR : ∀ x, R x (cs_sub x)) : ∀ xs : List S24, Reps R 2 xs (xs.flatMap cs_sub)
  | [] => Reps.none _ _
  | x :: xs => Reps.c2 (hR x) (reps_sub hR xs)
theorem R_sub {e : Nat} {w : World} {base : Nat} {v : Value} {xs : List S24} (h : w.ownsRow base e 2 v xs.length (xs.flatMap cs_sub)) : Kd.R k24 e w base (fun _ => True) v xs :=
  ⟨fun _ _ => trivial, _, h, reps_sub (fun x => k24_mkM _ _ _ x) xs⟩
def AppI (w : World) (B : Nat) (pre : List S24) (W : World) : Prop := (∃ v, Boxed W B 26 v ∧ W.ownsRow w.heap.size 24 2 v pre.length (pre.flatMap cs_sub) ∧ True) ∧ Below w.heap.size w W
theorem appI_own (w : World) (B : Nat) (B0 : Nat) (h : w.heap.size ≤ B0) : OwnFrom B0 (AppI w B) :=
  OwnFrom.and (Own.from (fun s X Y row hs hg hr => holdsRow_own w.heap.size B 26 24 2 (fun pre : List S24 => pre.length) (fun pre => pre.flatMap cs_sub) (fun _ _ => True) s X Y row hs hg hr) _) (ownFrom_below (Nat.le_refl _) h)
theorem sub_two_new (W : World) (a b : Value) (ty : TypeId) : ∀ j u, [a, b][j]? = some u → (W.alloc (.cells #[a, b] ty)).cell? ((⟨W.heap.size, 0, none⟩ : Addr).add j) = some u := by
  intro j u hj
  rw [add_plain]
  match j with
  | 0 => simp at hj; subst hj; simp
  | 1 => simp at hj; subst hj; simp
  | j + 2 => simp at hj
set_option maxHeartbeats 8000000 in
set_option maxRecDepth 100000 in
theorem sl_AppendSeq.calls (A1 : Option Addr) (c1 : Nat) (l1 : List S24) (Bs : Nat) (w : World) (hr1 : Kd.C k24 w A1 l1.length l1) (hl : l1.length ≤ 1000000) (hBs : w.cell? ⟨Bs, 0, none⟩ = some (.slice A1 l1.length c1)) :
    Calls Try.prog 124 #[.slice none 0 0, .func (.func 108) #[] #[.pointer (some ⟨Bs, 0, none⟩)]] w fun e w' => ∃ v0_ : Value, e = .returned v0_ ∧ Kd.R k24 24 w' w.heap.size (fun _ => True) v0_ l1 ∧ Below w.heap.size w w' := by
  have HR1 := Aside0.mk hr1
  have HL := Aside0.mk hl
  have HBS := Aside0.mk hBs
  clear hr1 hl hBs
  have hu34 := Try.underlying24
  refine (callsIn_wide (n := 5)).1 ?_
  refine callsIn_of_wp_marks Try.func124 rfl trivial ?_ rfl
  simp only [Try.ntmps124, List.size_toArray, List.length_cons, List.length_nil, Nat.reduceAdd, Nat.reduceSub, Array.replicate_succ, Array.replicate_zero, List.push_toArray, List.append_toArray, List.nil_append, List.cons_append]
  have bO := Boxed.new w 26 (.slice none 0 0)
  have hb2 : Below w.heap.size w (w.alloc (.cells #[.slice none 0 0] 26)) := below_alloc (Below.refl _ _) _
  obtain ⟨W0, hW0⟩ : ∃ W0, w.alloc (.cells #[.slice none 0 0] 26) = W0 := ⟨_, rfl⟩
  have hz0 : W0.heap.size = w.heap.size + 1 := by rw [← hW0]; simp
  gi_wp2
  rw [hW0] at bO hb2
  have HB3 := Aside0.mk hb2
  have HK0 := Aside0.mk (show Below w.heap.size w W0 ∧ W0.cell? ⟨Bs, 0, none⟩ = some (.slice A1 l1.length c1) from ⟨HB3.out, (HB3.out.cell (p := ⟨Bs, 0, none⟩) (World.block_lt_of_cell? w _ HBS.out)).trans HBS.out⟩)
  clear hb2
  have hlt : Bs < w.heap.size := World.block_lt_of_cell? w _ HBS.out
  refine wpIn_rangeFunc_ownH (α := S24) (encs := fun x => #[.agg #[.int .u64 x.f0, .int .u64 x.f1]]) (Kp := fun X Y => Below w.heap.size X Y)
    (S := fun ys => ys = l1) (Sp := fun _ => True) (N := l1.length) (w0 := W0) rfl (by omega) (gf := 108) (lb := #[.pointer (some ⟨Bs, 0, none⟩)]) rfl trivial (enters_of Try.func108 (by kernel_rfl) rfl)
    (fun l J Jx W hW hJa _ hY h0 => sl_values1_in (5 - 1) (by omega) l Bs w A1 c1 l1 HR1.out HL.out J Jx W hJa hY (HB3.out.trans (hW.mono (by omega))) ((hW.cell (p := ⟨Bs, 0, none⟩) (by show Bs < _; omega)).trans HK0.out.2) h0)
    (fun h1 h2 => h1.trans h2)
    (fun W l o o' h1 h2 h3 h4 => belowK_b (w := W0) (by omega) W l o o' h1 h2 h3 h4)
    (Below.refl _ _) (fun _ => rfl)
    (AppI w w.heap.size)
    (fun _ _ _ => False)
    (appI_own w _ _ (by omega))
    (fun _ _ _ _ _ hs _ _ => hs)
    ⟨⟨_, bO, World.ownsRow_nil _ _ _ _, trivial⟩, HB3.out⟩
    (fun x a' W => ∃ Bx, W.heap[Bx]? = some (.cells #[.int .u64 x.f0, .int .u64 x.f1] 24 (0, 0)) ∧ a' = { tmps := #[.slice none 0 0, .func (.func 108) #[] #[.pointer (some ⟨Bs, 0, none⟩)], .pointer (some ⟨w.heap.size, 0, none⟩), undef, .slice none 0 0, .pointer (some ⟨Bx, 0, none⟩), .func (.func 108) #[] #[.pointer (some ⟨Bs, 0, none⟩)], .agg #[.int .u64 x.f0, .int .u64 x.f1], undef, undef, undef, undef, undef], defers := [] })
    ?hAx ?assign ?body ?done ?stop
  case hAx =>
    rintro x a' _ X Y row ⟨Bx, hx, rfl⟩ hg hr
    refine ⟨Bx, (hg.block Bx (Array.getElem?_eq_some_iff.1 hx).1 (fun e => ?_)).trans hx, rfl⟩
    obtain ⟨_, o, ho, hc⟩ := hr Bx e.symm
    rw [hx] at ho; cases ho; cases hc
  case assign =>
    intro l pre x W K hI hK
    have hsz : w.heap.size ≤ W.heap.size := hI.2.size
    gi_wp2
    exact hK _ _ ((KeepsOthers.alloc _ _).from _) ((Below.refl _ W).alloc hsz _) ((appI_own w _ _ (Nat.le_refl _)).alloc _ hI) ⟨W.heap.size, blk_new _ _, rfl⟩
  case body =>
    rintro l pre x a' W hl ⟨r, hr⟩ ⟨⟨v, hbo, hrow, _⟩, hB⟩ ⟨Bx, hx, rfl⟩ hltN
    obtain ⟨i0, hi0, hz0_, hz1_, hz2_⟩ := info_parts info24
    have hlen := HL.out
    have hx0 := blk_cell hx 0
    have hx1 := blk_cell hx 1
    have hbc := hbo.cell
    simp at hx0 hx1
    have HBO := Aside0.mk hbo
    have HROW := Aside0.mk hrow
    have HB := Aside0.mk hB
    clear hbo hB
    gi_wp2_with (gi_at_builtin; refine wpListIn_append_own _ rfl _ _ 26 rfl w.heap.size 24 i0 (.agg #[.int .u64 0, .int .u64 0]) 2 16 Try.underlying26 hi0 hz0_ hz1_ hz2_ rfl (by decide) _ _ _ rfl (hrow.alloc _) ⟨W.heap.size, 0, none⟩ 1 1 (cs_sub x) rfl rfl (sub_two_new _ _ _ _) (by simp [cs_sub, Value.oneCell']) (by unfold maxLen; omega) (by omega) (by have := HB.out.size; simp; omega) ?_; intro v' w1' hown' hgrow _; obtain ⟨g', cap', rfl⟩ := ownsRow_succ hown'; obtain ⟨hv1, hv2, hr2, hk2, hb2⟩ := HBO.out.appended (by decide) HROW.out HB.out.size (by omega) hown' hgrow; have hc1 := hv1.cell; have hf1 := hv1.frozen)
    exact ⟨hk2.from _, hb2, ⟨_, hv2, by simpa [List.flatMap_append] using hr2, trivial⟩, HB.out.trans hb2⟩
  case done =>
    rintro D ys W hD rfl ⟨⟨v, hbo, hrow, _⟩, hB⟩ hK
    have hbc := hbo.cell
    gi_wp2
    refine ⟨by simp, .inl ⟨_, _, rfl, run_takeDeferred hK, ?_⟩⟩
    exact ⟨_, results_tmp rfl _ _ _, v, rfl, R_sub (ownsRow_putObj hrow _ hK rfl), hB.trans (belowK_b (w := W0) (by omega) W D _ _ hD hK rfl rfl)⟩
  case stop =>
    rintro D c pre W hD _ h _
    exact h.elim
end
theorem eg72 : ∀ args w, (callFunc 88 args).run Try.prog w = .ok (.enter 88 args) w := enters_of Try.func88 (by kernel_rfl) rfl
set_option maxHeartbeats 4000000 in
set_option maxRecDepth 100000 in
theorem sl_Collect.calls (A1 : Option Addr) (c1 : Nat) (l1 : List S24) (Bs : Nat) (w : World) (hr1 : Kd.C k24 w A1 l1.length l1) (hl : l1.length ≤ 1000000) (hBs : w.cell? ⟨Bs, 0, none⟩ = some (.slice A1 l1.length c1)) :
    Calls Try.prog 107 #[.func (.func 108) #[] #[.pointer (some ⟨Bs, 0, none⟩)]] w fun e w' => ∃ v0_ : Value, e = .returned v0_ ∧ Kd.R k24 24 w' w.heap.size (fun _ => True) v0_ l1 ∧ Below w.heap.size w w' := by
  have HR1 := Aside0.mk hr1
  have HL := Aside0.mk hl
  have HBS := Aside0.mk hBs
  clear hr1 hl hBs
  go_enter Try.func107, Try.ntmps107
  go_wp2_with (go_at_call 124; refine (sl_AppendSeq.calls A1 c1 l1 Bs _ HR1.out HL.out HBS.out).mono ?_; rintro e w' ⟨v0, rfl, ho, hb⟩; have HO := Aside0.mk ho; have HB := Aside0.mk hb; clear ho hb)
  go_ret
  exact ⟨_, rfl, HO.out, HB.out⟩
set_option maxHeartbeats 4000000 in
set_option maxRecDepth 100000 in
theorem sl_SortedFunc.calls (A1 : Option Addr) (c1 : Nat) (l1 : List S24) (Bs : Nat) (w : World) (hr1 : Kd.C k24 w A1 l1.length l1) (hl : l1.length ≤ 1000000) (hBs : w.cell? ⟨Bs, 0, none⟩ = some (.slice A1 l1.length c1)) :
    Calls Try.prog 86 #[.func (.func 108) #[] #[.pointer (some ⟨Bs, 0, none⟩)], .func (.func 88) #[] #[]] w fun e w' => ∃ v0_ : Value, e = .returned v0_ ∧ Kd.R k24 24 w' w.heap.size (fun _ => True) v0_ (sortS l1) ∧ Below w.heap.size w w' := by
  have HR1 := Aside0.mk hr1
  have HL := Aside0.mk hl
  have HBS := Aside0.mk hBs
  clear hr1 hl hBs
  go_enter Try.func86, Try.ntmps86
  go_wp2_with (first
    | (go_at_call 107; refine (sl_Collect.calls A1 c1 l1 Bs _ HR1.out HL.out HBS.out).mono ?_; rintro e w' ⟨v0, rfl, ho, hb⟩; have HO := Aside0.mk ho; have HB := Aside0.mk hb; clear ho hb)
    | (go_at_call 84; refine (sort_any 88 eg72 layer_ord.grew l1 w _ w.heap.size _ HB.out (Nat.le_refl _) HO.out (by have := HL.out; omega)).mono ?_; rintro e w' ⟨rfl, ho, hb, _⟩; have HO2 := Aside0.mk ho; have HB2 := Aside0.mk hb; clear ho hb))
  go_ret
  exact ⟨_, rfl, HO2.out, HB2.out⟩
def layer_Order.f (k : Nat) (l1 : List S24) : Option (List S24) := if l1.length ≤ 1000000 then some (sortS l1) else none
set_option maxHeartbeats 4000000 in
set_option maxRecDepth 100000 in
theorem layer_Order.calls (k : Nat) (A0 : Option Addr) (c0 : Nat) (l0 : List S24) (r : List S24) (w : World) (hr0 : Kd.C k24 w A0 l0.length l0) (hc0 : l0.length ≤ c0) (h : layer_Order.f k l0 = some r) :
    Calls Try.prog 60 #[.slice A0 l0.length c0] w fun e w' => ∃ v0_ : Value, e = .returned (v0_) ∧ Kd.R k24 24 w' w.heap.size (fun _ => True) v0_ r ∧ Below w.heap.size w w' := by
  unfold layer_Order.f at h
  by_cases hl : l0.length ≤ 1000000
  · rw [if_pos hl] at h
    obtain rfl := Option.some.inj h
    have HR1 := Aside0.mk hr0
    have HL := Aside0.mk hl
    clear hr0 hl h
    go_enter Try.func60, Try.ntmps60
    go_wp2_with (first
      | (go_at_call 87; refine (sl_Values.calls A0 l0.length c0 _).mono ?_; rintro e w' ⟨rfl, rfl⟩)
      | (go_at_call 86; refine (sl_SortedFunc.calls A0 c0 l0 w.heap.size _ (Kd.C_alloc HR1.out _) HL.out (blk_cell (blk_new w _) 0)).mono ?_; rintro e w' ⟨v0, rfl, ho, hb⟩; have HO := Aside0.mk ho; have HB := Aside0.mk hb; clear ho hb))
    go_ret
    have h1 : Below w.heap.size w (w.alloc (.cells #[.slice A0 l0.length c0] 26)) := below_alloc (Below.refl _ _) _
    exact ⟨_, rfl, Kd.R_lower HO.out h1.size, below_step h1 HB.out⟩
  · rw [if_neg hl] at h
    cases h
mutual
def layer_Cover.j0 : Nat → Int → List (S24) → Int → List (S24) → Bool → Option ((List (S24)) × Int)
  | 0, _, _, _, _, _ => none
  | k + 1, x0, x6, x7, x8, x37 => if x37 = true then (some (x8, x7)) else (layer_Cover.l0 k x0 x6 x8 (x8.length : Int) 0)
def layer_Cover.l0 : Nat → Int → List (S24) → List (S24) → Int → Int → Option ((List (S24)) × Int)
  | 0, _, _, _, _, _ => none
  | k + 1, x0, x6, x40, x41, x42 => if x42 < x41 then (if 0 ≤ x42 then (if x42 < (x40.length : Int) then ((sub_Split.f k x0 ((rd_T24 x40 x42).f0) ((rd_T24 x40 x42).f1)).bind fun bt378 => (if bt378.2 = 0 then (if x6.length + bt378.1.length < 8796093022208 then (layer_Cover.l0 k x0 (x6 ++ bt378.1) x40 x41 (wrap64 (x42 + 1))) else (none)) else (some (([] : List (S24)), bt378.2)))) else (none)) else (none)) else ((layer_Order.f k x6).bind fun t385 => (some (t385, 0)))
end
def layer_Cover.f (k : Nat) (a0 : Int) (a1 : Int) (l2 : List Int) : Option ((List (S24)) × Int) := (layer_check.f k a0 a1).bind fun t367 => (if t367 = 0 then (if a1 = 1 then ((whole_Cover.f k a0 l2).bind fun bt368 => (some (bt368.1, bt368.2))) else ((diff_Cover.f k a0 l2).bind fun bt372 => (if bt372.2 = 0 then (layer_Cover.j0 k a0 ([] : List (S24)) bt372.2 bt372.1 (a1 == 2)) else (layer_Cover.j0 k a0 ([] : List (S24)) bt372.2 bt372.1 true)))) else (some (([] : List (S24)), t367)))
set_option maxHeartbeats 8000000 in
set_option maxRecDepth 100000 in
theorem layer_Cover.calls (k : Nat) (a0 : Int) (a1 : Int) (A2 : Option Addr) (c2 : Nat) (l2 : List Int) (r1 : List (S24)) (r2 : Int) (w : World) (hr2 : Kd.C (Kd.int .u64) w A2 l2.length l2) (hc2 : l2.length ≤ c2) (h : layer_Cover.f k a0 a1 l2 = some (r1, r2)) :
    Calls Try.prog 26 #[.int .i64 a0, .int .i64 a1, .slice A2 l2.length c2] w fun e w' => ∃ v0_ : Value, e = .returned (.tuple #[v0_, .int .i64 r2]) ∧ Kd.R k24 24 w' w.heap.size (fun _ => True) v0_ r1 ∧ Below w.heap.size w w' := by
  have hu24 := Try.underlying24
  have HR2 := Aside0.mk hr2
  have HC2 := Aside0.mk hc2
  clear hr2 hc2
  have HB := Aside0.mk (Below.refl w.heap.size w)
  have H : ((layer_check.f k a0 a1).bind fun t367 => (if t367 = 0 then (if a1 = 1 then ((whole_Cover.f k a0 l2).bind fun bt368 => (some (bt368.1, bt368.2))) else ((diff_Cover.f k a0 l2).bind fun bt372 => (if bt372.2 = 0 then (layer_Cover.j0 k a0 ([] : List (S24)) bt372.2 bt372.1 (a1 == 2)) else (layer_Cover.j0 k a0 ([] : List (S24)) bt372.2 bt372.1 true)))) else (some (([] : List (S24)), t367)))) = some (r1, r2) := h
  clear h
  replace H := Option.bind_eq_some_iff.mp H
  obtain ⟨t367, A40, H⟩ := H
  replace H : (if t367 = 0 then (if a1 = 1 then ((whole_Cover.f k a0 l2).bind fun bt368 => (some (bt368.1, bt368.2))) else ((diff_Cover.f k a0 l2).bind fun bt372 => (if bt372.2 = 0 then (layer_Cover.j0 k a0 ([] : List (S24)) bt372.2 bt372.1 (a1 == 2)) else (layer_Cover.j0 k a0 ([] : List (S24)) bt372.2 bt372.1 true)))) else (some (([] : List (S24)), t367))) = some (r1, r2) := H
  have A4 := Aside0.mk A40
  clear A40
  by_cases c5 : t367 = 0
  · rw [if_pos c5] at H
    have c5b0 : (t367 == 0) = true := beq_iff_eq.mpr c5
    have c5b1 : (t367 != 0) = false := bne_eq_false_iff_eq.mpr c5
    clear c5
    by_cases c6 : a1 = 1
    · rw [if_pos c6] at H
      have c6b0 : (a1 == 1) = true := beq_iff_eq.mpr c6
      have c6b1 : (a1 != 1) = false := bne_eq_false_iff_eq.mpr c6
      clear c6
      replace H := Option.bind_eq_some_iff.mp H
      obtain ⟨⟨t368, t369⟩, A70, H⟩ := H
      replace H : (some (t368, t369)) = some (r1, r2) := H
      have A7 := Aside0.mk A70
      clear A70
      simp only [Option.some.injEq, Prod.mk.injEq] at H
      obtain ⟨rfl, rfl⟩ := H
      go_enter Try.func26, Try.ntmps26
      go_wp2_with (first | ((with_reducible refine gate_callee (f := 37) rfl ?_); refine goesL_ (some 15) rfl rfl Try.func37 (by kernel_rfl) rfl #[.int .i64 a0, .int .i64 a1] rfl (by (try simp only [List.map_toArray, List.map_cons, List.map_nil]); first | done | rfl | (simp only [List.length_drop, List.length_take]; rfl)) ?_; (with_reducible refine (layer_check.calls k a0 a1 t367 _ A4.out).mono ?_); rintro e w' ⟨rfl, ⟨nd, rfl⟩⟩; refine ⟨_, rfl, ?_⟩) | ((with_reducible refine gate_callee (f := 57) rfl ?_); refine goesL_ (some 23) rfl rfl Try.func57 (by kernel_rfl) rfl #[.int .i64 a0, .slice A2 l2.length c2] rfl (by (try simp only [List.map_toArray, List.map_cons, List.map_nil]); first | done | rfl | (simp only [List.length_drop, List.length_take]; rfl)) ?_; (with_reducible refine (whole_Cover.calls k a0 _ _ l2 t368 t369 _ ?side1 ?side2 A7.out).mono ?_); (case side1 => repeat (first | exact HR2.out | (with_reducible refine Kd.C_alloc ?_ _) | (with_reducible refine Kd.C_drewN ?_ _) | (with_reducible refine Kd.C_drew ?_))); (case side2 => exact HC2.out); rintro e w8 ⟨v370, rfl, ho0, hb⟩; refine ⟨_, rfl, ?_⟩; have n0_ := Aside0.mk (Kd.R_lower ho0 (below_size (by repeat (first | (with_reducible first | exact HB.out | apply below_alloc | apply pw_below_drewN | apply below_drew1) | exact HB.out)))); have n1_ := Aside0.mk (below_step (by repeat (first | (with_reducible first | exact HB.out | apply below_alloc | apply pw_below_drewN | apply below_drew1) | exact HB.out)) hb); clear HB; have HO371 := n0_; have HB := n1_; clear n0_ n1_; (try clear hb); (try clear hb2); (try clear hk); (try clear hi); (try clear ho0)))
      go_ret2
      exact ⟨_, by first | rfl | (simp [errW_none, errW_some] <;> rfl) | (simp [*, errW_none, errW_some] <;> rfl), by (with_reducible repeat (first | apply Kd.R_alloc | apply Kd.R_drewN | apply Kd.R_drew)); exact HO371.out, by repeat (first | (with_reducible first | exact HB.out | apply below_alloc | apply pw_below_drewN | apply below_drew1) | exact HB.out)⟩
    · rw [if_neg c6] at H
      have c6b0 : (a1 == 1) = false := beq_eq_false_iff_ne.mpr c6
      have c6b1 : (a1 != 1) = true := bne_iff_ne.mpr c6
      replace H := Option.bind_eq_some_iff.mp H
      obtain ⟨⟨t372, t373⟩, A90, H⟩ := H
      replace H : (if t373 = 0 then (layer_Cover.j0 k a0 ([] : List (S24)) t373 t372 (a1 == 2)) else (layer_Cover.j0 k a0 ([] : List (S24)) t373 t372 true)) = some (r1, r2) := H
      have A9 := Aside0.mk A90
      clear A90
      have HC10 := Aside0.mk H
      clear H
      go_enter Try.func26, Try.ntmps26
      go_upto_region 7 with (first | ((with_reducible refine gate_callee (f := 37) rfl ?_); refine goesL_ (some 15) rfl rfl Try.func37 (by kernel_rfl) rfl #[.int .i64 a0, .int .i64 a1] rfl (by (try simp only [List.map_toArray, List.map_cons, List.map_nil]); first | done | rfl | (simp only [List.length_drop, List.length_take]; rfl)) ?_; (with_reducible refine (layer_check.calls k a0 a1 t367 _ A4.out).mono ?_); rintro e w' ⟨rfl, ⟨nd, rfl⟩⟩; refine ⟨_, rfl, ?_⟩) | ((with_reducible refine gate_callee (f := 58) rfl ?_); refine goesL_ (some 29) rfl rfl Try.func58 (by kernel_rfl) rfl #[.int .i64 a0, .slice A2 l2.length c2] rfl (by (try simp only [List.map_toArray, List.map_cons, List.map_nil]); first | done | rfl | (simp only [List.length_drop, List.length_take]; rfl)) ?_; (with_reducible refine (diff_Cover.calls k a0 _ _ l2 t372 t373 _ ?side1 ?side2 A9.out).mono ?_); (case side1 => repeat (first | exact HR2.out | (with_reducible refine Kd.C_alloc ?_ _) | (with_reducible refine Kd.C_drewN ?_ _) | (with_reducible refine Kd.C_drew ?_))); (case side2 => exact HC2.out); rintro e w11 ⟨v374, rfl, ho0, hb⟩; refine ⟨_, rfl, ?_⟩; have n0_ := Aside0.mk (Kd.R_lower ho0 (below_size (by repeat (first | (with_reducible first | exact HB.out | apply below_alloc | apply pw_below_drewN | apply below_drew1) | exact HB.out)))); have n1_ := Aside0.mk (below_step (by repeat (first | (with_reducible first | exact HB.out | apply below_alloc | apply pw_below_drewN | apply below_drew1) | exact HB.out)) hb); clear HB; have HO375 := n0_; have HB := n1_; clear n0_ n1_; (try clear hb); (try clear hb2); (try clear hk); (try clear hi); (try clear ho0)))
      (try simp only [Act.put, List.setIfInBounds_toArray, List.set_cons_zero, List.set_cons_succ])
      go_cut [37] (fun v37 wc => ∃ (kq : Nat) (x37_9 : Bool), v37 = .bool x37_9 ∧ Aside0 (layer_Cover.j0 kq a0 ([] : List (S24)) t373 t372 x37_9 = some (r1, r2)) ∧ Aside0 (kq ≤ k) ∧ Aside0 (Kd.R k24 24 wc w.heap.size (fun k_ => some k_ ≠ (v374 : Value).ownBlock) (.slice none 0 0) ([] : List (S24))) ∧ Aside0 (Kd.R k24 24 wc w.heap.size (fun k_ => some k_ ≠ ((.slice none 0 0) : Value).ownBlock) v374 t372) ∧ Aside0 (Below w.heap.size w wc))
      case first =>
        have H := HC10.out
        clear HC10
        by_cases c12 : t373 = 0
        · rw [if_pos c12] at H
          have c12b0 : (t373 == 0) = true := beq_iff_eq.mpr c12
          have c12b1 : (t373 != 0) = false := bne_eq_false_iff_eq.mpr c12
          clear c12
          (first | rw [c12b0] | (simp only [i64_w, i32_w]; rw [c12b0]) | skip)
          have H' := Aside0.mk H
          clear H
          go_wp2
          go_meet
          case rel => exact ⟨_, ((a1 == 2)), (by first | rfl | (simp; done) | (simp [*]; done)), H', ⟨by first | omega | exact Nat.le_refl _⟩, ⟨by first | exact Kd.R_nil _ _ _ _ _ | exact Kd.N_nil _ _ _ _ _ | exact Kd.V_nil _ _ _ _ _ | exact Kd.Q_nil _ _ _ _ _ | exact Kd.S_nil _ _ _ _ _⟩, ⟨by (with_reducible repeat (first | apply Kd.R_alloc | apply Kd.R_drewN | apply Kd.R_drew)); exact Kd.R_mono HO375.out (fun _ hk => (by simp [Value.ownBlock]))⟩, ⟨by repeat (first | (with_reducible first | exact HB.out | apply below_alloc | apply pw_below_drewN | apply below_drew1) | exact HB.out)⟩⟩
        · rw [if_neg c12] at H
          have c12b0 : (t373 == 0) = false := beq_eq_false_iff_ne.mpr c12
          have c12b1 : (t373 != 0) = true := bne_iff_ne.mpr c12
          (first | rw [c12b0] | (simp only [i64_w, i32_w]; rw [c12b0]) | skip)
          have H' := Aside0.mk H
          clear H
          go_wp2
          go_meet
          case rel => exact ⟨_, (true), (by first | rfl | (simp; done) | (simp [*]; done)), H', ⟨by first | omega | exact Nat.le_refl _⟩, ⟨by first | exact Kd.R_nil _ _ _ _ _ | exact Kd.N_nil _ _ _ _ _ | exact Kd.V_nil _ _ _ _ _ | exact Kd.Q_nil _ _ _ _ _ | exact Kd.S_nil _ _ _ _ _⟩, ⟨by (with_reducible repeat (first | apply Kd.R_alloc | apply Kd.R_drewN | apply Kd.R_drew)); exact Kd.R_mono HO375.out (fun _ hk => (by simp [Value.ownBlock]))⟩, ⟨by repeat (first | (with_reducible first | exact HB.out | apply below_alloc | apply pw_below_drewN | apply below_drew1) | exact HB.out)⟩⟩
      case rest =>
        clear HC10
        try clear c1
        try clear c2
        try clear p2
        try clear c3
        try clear c5
        try clear c5b0
        try clear c5b1
        try clear c6
        try clear c6b0
        try clear c6b1
        try clear c12
        try clear c12b0
        try clear c12b1
        obtain ⟨kq, x37_9, rfl, HA, HJ9, HO_6, HO_8, HB⟩ := hcut
        cases kq with
        | zero => exact absurd HA.out (by simp [layer_Cover.j0])
        | succ kj9 =>
          have H := HA.out
          clear HA
          simp only [layer_Cover.j0] at H
          by_cases c13 : x37_9 = true
          · subst c13
            have H1 : (some (t372, t373)) = some (r1, r2) := by rw [if_pos rfl] at H; exact H
            clear H
            have H := H1
            clear H1
            simp only [Option.some.injEq, Prod.mk.injEq] at H
            obtain ⟨rfl, rfl⟩ := H
            go_wp2
            go_ret2
            exact ⟨_, by first | rfl | (simp [errW_none, errW_some] <;> rfl) | (simp [*, errW_none, errW_some] <;> rfl), by (with_reducible repeat (first | apply Kd.R_alloc | apply Kd.R_drewN | apply Kd.R_drew)); exact Kd.R_mono HO_8.out (fun _ hk => trivial), by repeat (first | (with_reducible first | exact HB.out | apply below_alloc | apply pw_below_drewN | apply below_drew1) | exact HB.out)⟩
          · replace c13 := Bool.eq_false_iff.mpr c13
            subst c13
            have H1 : (layer_Cover.l0 kj9 a0 ([] : List (S24)) t372 (t372.length : Int) 0) = some (r1, r2) := by rw [if_neg (show ¬ (false = true) by decide)] at H; exact H
            clear H
            have H := H1
            clear H1
            have H' := Aside0.mk H
            clear H
            obtain ⟨Ao14, co14, eo14⟩ := Kd.R_slice HO_8.out
            subst eo14
            go_wp2
            go_loopg [6, 42] kj9 (fun kq v6 v42 w' => ∃ (x6_2 : List (S24)) (x42_2 : Int), v42 = .int .i64 x42_2 ∧ Aside0 (layer_Cover.l0 kq a0 x6_2 t372 (t372.length : Int) x42_2 = some (r1, r2)) ∧ Aside0 (kq ≤ kj9) ∧ Aside0 (Kd.R k24 24 w' w.heap.size (fun k_ => some k_ ≠ ((.slice Ao14 t372.length co14) : Value).ownBlock) v6 x6_2) ∧ Aside0 (Kd.R k24 24 w' w.heap.size (fun k_ => some k_ ≠ (v6 : Value).ownBlock) (.slice Ao14 t372.length co14) t372) ∧ Aside0 (Below w.heap.size w w'))
            case atStart => exact ⟨(([] : List (S24))), (0), (by first | rfl | (simp; done) | (simp [*]; done)), H', ⟨Nat.le_refl _⟩, ⟨by (with_reducible repeat (first | apply Kd.R_alloc | apply Kd.R_drewN | apply Kd.R_drew)); exact HO_6.out⟩, ⟨by (with_reducible repeat (first | apply Kd.R_alloc | apply Kd.R_drewN | apply Kd.R_drew)); exact HO_8.out⟩, ⟨by repeat (first | (with_reducible first | exact HB.out | apply below_alloc | apply pw_below_drewN | apply below_drew1) | exact HB.out)⟩⟩
            case round =>
              clear H'
              try clear c1
              try clear c2
              try clear p2
              try clear c3
              try clear c5
              try clear c5b0
              try clear c5b1
              try clear c6
              try clear c6b0
              try clear c6b1
              try clear c12
              try clear c12b0
              try clear c12b1
              try clear c13
              try clear p2
              obtain ⟨x6_2, x42_2, rfl, HA, HK2, HO_6, HO_40, HB⟩ := hrel
              cases gk with
              | zero => exact absurd HA.out (by simp [layer_Cover.l0])
              | succ k2 =>
                have H := HA.out
                clear HA
                simp only [layer_Cover.l0] at H
                by_cases c15 : x42_2 < (t372.length : Int)
                · rw [if_pos c15] at H
                  have c15b0 : decide (x42_2 < (t372.length : Int)) = true := decide_eq_true c15
                  clear c15
                  by_cases c16 : 0 ≤ x42_2
                  · rw [if_pos c16] at H
                    have c16b0 : decide (0 ≤ x42_2) = true := decide_eq_true c16
                    clear c16
                    by_cases c17 : x42_2 < (t372.length : Int)
                    · rw [if_pos c17] at H
                      have c17b0 : decide (x42_2 < (t372.length : Int)) = true := decide_eq_true c17
                      clear c17
                      replace H := Option.bind_eq_some_iff.mp H
                      obtain ⟨⟨t378, t381⟩, A180, H⟩ := H
                      replace H : (if t381 = 0 then (if x6_2.length + t378.length < 8796093022208 then (layer_Cover.l0 k2 a0 (x6_2 ++ t378) t372 (t372.length : Int) (wrap64 (x42_2 + 1))) else (none)) else (some (([] : List (S24)), t381))) = some (r1, r2) := H
                      have A18 := Aside0.mk A180
                      clear A180
                      by_cases c19 : t381 = 0
                      · rw [if_pos c19] at H
                        have c19b0 : (t381 == 0) = true := beq_iff_eq.mpr c19
                        have c19b1 : (t381 != 0) = false := bne_eq_false_iff_eq.mpr c19
                        clear c19
                        by_cases c20 : x6_2.length + t378.length < 8796093022208
                        · rw [if_pos c20] at H
                          have LMc20 := Aside0.mk c20
                          clear c20
                          obtain ⟨y382, hy382⟩ : ∃ y_ : List (S24), y_ = (x6_2 ++ t378) := ⟨_, rfl⟩
                          replace H : (layer_Cover.l0 k2 a0 y382 t372 (t372.length : Int) (wrap64 (x42_2 + 1))) = some (r1, r2) := by first | (rw [hy382]; with_reducible exact H) | (have H2_ := (Option.bind_some _ _).symm.trans H; rw [hy382]; with_reducible exact H2_) | (have H2_ := (Option.bind_some _ _).symm.trans H; with_reducible exact H2_) | with_reducible exact H | (rw [hy382]; exact H) | exact H
                          have Ny382 := Aside0.mk hy382
                          clear hy382
                          have H' := Aside0.mk H
                          clear H
                          have p376 : 0 ≤ (x42_2 : Int) := of_decide_eq_true (by first | (with_reducible assumption) | assumption)
                          have q376 : x42_2 < (t372.length : Int) := of_decide_eq_true (by first | (with_reducible assumption) | assumption)
                          obtain ⟨ad376, e376, hx376_0, hx376_1⟩ := at_T24 (Kd.R_reads' HO_40.out).2.2 x42_2 p376 q376
                          cases e376
                          replace p376 := eq_true p376
                          replace q376 := eq_true q376
                          go_wp2_with (first | ((with_reducible refine gate_dst (N := 10) rfl ?_); refine box_event ?hg (N := 10) ?hd (cs := #[.int .u64 0, .int .u64 0]) (t := 24) ?hr ?_; (case hd => rfl); (case hg => rfl); (case hr => first | (go_simp; done) | (go_simp; rfl)); intro gb377 hg w21 hbox hb; have n0_ := Aside0.mk (Kd.R_below (Kd.R_elderB (by (with_reducible repeat (first | apply Kd.R_alloc | apply Kd.R_drewN | apply Kd.R_drew)); exact HO_6.out) gb377 (Nat.le_of_eq hg.symm)) hb); have n1_ := Aside0.mk (Kd.R_below (Kd.R_elderB (by (with_reducible repeat (first | apply Kd.R_alloc | apply Kd.R_drewN | apply Kd.R_drew)); exact HO_40.out) gb377 (Nat.le_of_eq hg.symm)) hb); have n2_ := Aside0.mk (below_step (by repeat (first | (with_reducible first | exact HB.out | apply below_alloc | apply pw_below_drewN | apply below_drew1) | exact HB.out)) hb); have n3_ := Aside0.mk (hbox); have n4_ := Aside0.mk ((by rw [hg]; exact (below_size (by repeat (first | (with_reducible first | exact HB.out | apply below_alloc | apply pw_below_drewN | apply below_drew1) | exact HB.out))) : w.heap.size ≤ gb377)); have n5_ := Aside0.mk ((by rw [hg]; exact (below_size (by repeat (first | (with_reducible first | exact HB.out | apply below_alloc | apply pw_below_drewN | apply below_drew1) | exact HB.out))) : w.heap.size ≤ gb377)); clear HO_6; clear HO_40; clear HB; have HO_6 := n0_; have HO_40 := n1_; have HB := n2_; have BK377 := n3_; have GW377 := n4_; have GE377 := n5_; clear n0_ n1_ n2_ n3_ n4_ n5_; clear hb hbox hg; have hcz22_0 : w21.cell? ⟨gb377, 0, none⟩ = some (.int .u64 0) := (blk_cell BK377.out 0).trans rfl; have hcz22_1 : w21.cell? ⟨gb377, 1, none⟩ = some (.int .u64 0) := (blk_cell BK377.out 1).trans rfl; have hfz22_0 := blk_frozen BK377.out 0; have hfz22_1 := blk_frozen BK377.out 1) | ((with_reducible refine gate_callee (f := 59) rfl ?_); refine goesL_ (some 49) rfl rfl Try.func59 (by kernel_rfl) rfl #[.int .i64 a0, .agg #[.int .u64 ((rd_T24 t372 x42_2).f0), .int .u64 ((rd_T24 t372 x42_2).f1)]] rfl (by (try simp only [List.map_toArray, List.map_cons, List.map_nil]); first | done | rfl | (simp only [List.length_drop, List.length_take]; rfl)) ?_; (with_reducible refine (sub_Split.calls k2 a0 ((rd_T24 t372 x42_2).f0) ((rd_T24 t372 x42_2).f1) t378 t381 _ A18.out).mono ?_); rintro e w23 ⟨v379, rfl, ho0, hb⟩; refine ⟨_, rfl, ?_⟩; have n0_ := Aside0.mk (Kd.R_elder' (by (with_reducible repeat (first | apply Kd.R_alloc | apply Kd.R_drewN | apply Kd.R_drew)); exact (Kd.R_mono (Kd.R_far (p := ⟨gb377, 1, none⟩) (Kd.R_far (p := ⟨gb377, 0, none⟩) (Kd.R_mono HO_6.out (fun k_ hk => (⟨hk, hk.2⟩ : _ ∧ k_ ≠ gb377))) (fun _ hk => hk.2) (.int .u64 ((rd_T24 t372 x42_2).f0))) (fun _ hk => hk.2) (.int .u64 ((rd_T24 t372 x42_2).f1))) (fun _ h_ => h_.1))) (Kd.R_base ho0) hb); have n1_ := Aside0.mk (Kd.R_elder' (by (with_reducible repeat (first | apply Kd.R_alloc | apply Kd.R_drewN | apply Kd.R_drew)); exact (Kd.R_mono (Kd.R_far (p := ⟨gb377, 1, none⟩) (Kd.R_far (p := ⟨gb377, 0, none⟩) (Kd.R_mono HO_40.out (fun k_ hk => (⟨hk, hk.2⟩ : _ ∧ k_ ≠ gb377))) (fun _ hk => hk.2) (.int .u64 ((rd_T24 t372 x42_2).f0))) (fun _ hk => hk.2) (.int .u64 ((rd_T24 t372 x42_2).f1))) (fun _ h_ => h_.1))) (Kd.R_base ho0) hb); have n2_ := Aside0.mk (Kd.R_lower (Kd.R_newB (Kd.R_new' (Kd.R_new' ho0 (Kd.R_lt (by (with_reducible repeat (first | apply Kd.R_alloc | apply Kd.R_drewN | apply Kd.R_drew)); exact (Kd.R_mono (Kd.R_far (p := ⟨gb377, 1, none⟩) (Kd.R_far (p := ⟨gb377, 0, none⟩) (Kd.R_mono HO_6.out (fun k_ hk => (⟨hk, hk.2⟩ : _ ∧ k_ ≠ gb377))) (fun _ hk => hk.2) (.int .u64 ((rd_T24 t372 x42_2).f0))) (fun _ hk => hk.2) (.int .u64 ((rd_T24 t372 x42_2).f1))) (fun _ h_ => h_.1))))) (Kd.R_lt (by (with_reducible repeat (first | apply Kd.R_alloc | apply Kd.R_drewN | apply Kd.R_drew)); exact (Kd.R_mono (Kd.R_far (p := ⟨gb377, 1, none⟩) (Kd.R_far (p := ⟨gb377, 0, none⟩) (Kd.R_mono HO_40.out (fun k_ hk => (⟨hk, hk.2⟩ : _ ∧ k_ ≠ gb377))) (fun _ hk => hk.2) (.int .u64 ((rd_T24 t372 x42_2).f0))) (fun _ hk => hk.2) (.int .u64 ((rd_T24 t372 x42_2).f1))) (fun _ h_ => h_.1))))) (g := gb377) (o := .cells #[.int .u64 ((rd_T24 t372 x42_2).f0), .int .u64 ((rd_T24 t372 x42_2).f1)] 24 (0, 0)) (by (with_reducible repeat (first | refine blk_drewN ?_ _ | refine blk_drew ?_ | refine blk_alloc ?_ _)); refine blk_put (cs := #[.int .u64 ((rd_T24 t372 x42_2).f0), .int .u64 0]) ?_ 1 _ rfl; (with_reducible repeat (first | refine blk_drewN ?_ _ | refine blk_drew ?_ | refine blk_alloc ?_ _)); refine blk_put (cs := #[.int .u64 0, .int .u64 0]) ?_ 0 _ rfl; (with_reducible repeat (first | refine blk_drewN ?_ _ | refine blk_drew ?_ | refine blk_alloc ?_ _)); exact BK377.out)) (below_size (by repeat (first | (with_reducible first | exact HB.out | apply below_alloc | apply pw_below_drewN | apply below_drew1 | refine below_set ?_ GE377.out) | exact HB.out)))); have n3_ := Aside0.mk (blk_below (g := gb377) (o := .cells #[.int .u64 ((rd_T24 t372 x42_2).f0), .int .u64 ((rd_T24 t372 x42_2).f1)] 24 (0, 0)) (by (with_reducible repeat (first | refine blk_drewN ?_ _ | refine blk_drew ?_ | refine blk_alloc ?_ _)); refine blk_put (cs := #[.int .u64 ((rd_T24 t372 x42_2).f0), .int .u64 0]) ?_ 1 _ rfl; (with_reducible repeat (first | refine blk_drewN ?_ _ | refine blk_drew ?_ | refine blk_alloc ?_ _)); refine blk_put (cs := #[.int .u64 0, .int .u64 0]) ?_ 0 _ rfl; (with_reducible repeat (first | refine blk_drewN ?_ _ | refine blk_drew ?_ | refine blk_alloc ?_ _)); exact BK377.out) hb); have n4_ := Aside0.mk (below_step (by repeat (first | (with_reducible first | exact HB.out | apply below_alloc | apply pw_below_drewN | apply below_drew1 | refine below_set ?_ GE377.out) | exact HB.out)) hb); clear HO_6; clear HO_40; clear BK377; clear HB; have HO_6 := n0_; have HO_40 := n1_; have HO380 := n2_; have BK377 := n3_; have HB := n4_; clear n0_ n1_ n2_ n3_ n4_; (try clear hb); (try clear hb2); (try clear hk); (try clear hi); (try clear ho0); obtain ⟨Ao25, co25, eo25⟩ := Kd.R_slice HO380.out; subst eo25) | ((with_reducible refine gate_builtin (b := .append) (xs := #[.tmp 55, .tmp 56]) rfl ?_); at_builtin; refine Kd.R_append_rows k24 (w0 := w) w.heap.size rfl (.tmp 55) (.tmp 56) 26 24 (.agg #[(.int .u64 0), (.int .u64 0)]) 16 rfl Try.underlying26 info24 rfl (by decide) (by omega) u6 x6_2 t378 _ _ _ (fun k_ => some k_ ≠ (.slice (some ad376) t372.length co14 : Value).ownBlock ∧ some k_ ≠ (.slice Ao25 t378.length co25 : Value).ownBlock ∧ k_ ≠ gb377) (fun _ => False) rfl rfl ?aO ?aR (fun _ _ h => h) (fun _ h => h.elim) ?aF ?aB ?aS ?aL ?_; (case aR => repeat (first | exact (Kd.R_reads' HO380.out).2.2 | (with_reducible refine Kd.C_alloc ?_ _) | (with_reducible refine Kd.C_drewN ?_ _) | (with_reducible refine Kd.C_drew ?_))); (case aB => exact (by repeat (first | (with_reducible first | exact HB.out | apply below_alloc | apply pw_below_drewN | apply below_drew1 | refine below_set ?_ GE377.out) | exact HB.out))); (case aF => exact (fun k_ hk => ⟨Kd.fresh' (Kd.R_lt (by (with_reducible repeat (first | apply Kd.R_alloc | apply Kd.R_drewN | apply Kd.R_drew)); exact HO_40.out)) k_ hk, Kd.fresh' (Kd.R_lt (by (with_reducible repeat (first | apply Kd.R_alloc | apply Kd.R_drewN | apply Kd.R_drew)); exact HO380.out)) k_ hk, Kd.freshB (g := gb377) (o := .cells #[.int .u64 ((rd_T24 t372 x42_2).f0), .int .u64 ((rd_T24 t372 x42_2).f1)] 24 (0, 0)) (by (with_reducible repeat (first | refine blk_drewN ?_ _ | refine blk_drew ?_ | refine blk_alloc ?_ _)); exact BK377.out) k_ hk⟩)); (case aO => exact (by (with_reducible repeat (first | apply Kd.R_alloc | apply Kd.R_drewN | apply Kd.R_drew)); exact Kd.R_mono HO_6.out (fun _ hk => ⟨hk.1.1, ⟨hk.2, hk.1.2⟩⟩))); (case aS => exact (below_size (by repeat (first | (with_reducible first | exact HB.out | apply below_alloc | apply pw_below_drewN | apply below_drew1 | refine below_set ?_ GE377.out) | exact HB.out)))); (case aL => have := LMc20.out; omega); intro v383 w24 ho hb hg hat; rw [← Ny382.out] at ho; have n0_ := Aside0.mk (Kd.R_after (ok := (fun k_ => some k_ ≠ (.slice Ao25 t378.length co25 : Value).ownBlock ∧ k_ ≠ gb377)) (by (with_reducible repeat (first | apply Kd.R_alloc | apply Kd.R_drewN | apply Kd.R_drew)); exact Kd.R_mono HO_40.out (fun _ hk => ⟨⟨hk.2, hk.1.2⟩, hk.1.1⟩)) hg hat); have n1_ := Aside0.mk (blk_grown (g := gb377) (o := .cells #[.int .u64 ((rd_T24 t372 x42_2).f0), .int .u64 ((rd_T24 t372 x42_2).f1)] 24 (0, 0)) (by (with_reducible repeat (first | refine blk_drewN ?_ _ | refine blk_drew ?_ | refine blk_alloc ?_ _)); exact BK377.out) hg (Kd.R_away HO_6.out (fun _ hk => hk.1.2))); have n2_ := Aside0.mk (Kd.R_after (ok := (fun k_ => some k_ ≠ (.slice (some ad376) t372.length co14 : Value).ownBlock ∧ k_ ≠ gb377)) (by (with_reducible repeat (first | apply Kd.R_alloc | apply Kd.R_drewN | apply Kd.R_drew)); exact Kd.R_mono HO380.out (fun _ hk => ⟨⟨hk.1.2, hk.2⟩, hk.1.1.2⟩)) hg hat); have n3_ := Aside0.mk (hb); have n4_ := Aside0.mk (ho); clear HO_40; clear BK377; clear HO380; clear HB; clear HO_6; have HO_40 := n0_; have BK377 := n1_; have HO380 := n2_; have HB := n3_; have HO384 := n4_; clear n0_ n1_ n2_ n3_ n4_; clear ho hb hg hat))
                          go_roundg k2
                          case measure => have := HJ9.out; have := HK2.out; omega
                          case rel => exact ⟨(y382), (wrap64 (x42_2 + 1)), (by first | rfl | (simp; done) | (simp [*]; done)), H', ⟨by have := HJ9.out; have := HK2.out; omega⟩, ⟨by (with_reducible repeat (first | apply Kd.R_alloc | apply Kd.R_drewN | apply Kd.R_drew)); exact Kd.R_mono HO384.out (fun _ hk => hk.1)⟩, ⟨by (with_reducible repeat (first | apply Kd.R_alloc | apply Kd.R_drewN | apply Kd.R_drew)); exact Kd.R_mono HO_40.out (fun _ hk => hk.2)⟩, ⟨by repeat (first | (with_reducible first | exact HB.out | apply below_alloc | apply pw_below_drewN | apply below_drew1 | refine below_set ?_ GE377.out) | exact HB.out)⟩⟩
                        · rw [if_neg c20] at H
                          exact absurd H (by simp)
                      · rw [if_neg c19] at H
                        have c19b0 : (t381 == 0) = false := beq_eq_false_iff_ne.mpr c19
                        have c19b1 : (t381 != 0) = true := bne_iff_ne.mpr c19
                        simp only [Option.some.injEq, Prod.mk.injEq] at H
                        obtain ⟨rfl, rfl⟩ := H
                        have p376 : 0 ≤ (x42_2 : Int) := of_decide_eq_true (by first | (with_reducible assumption) | assumption)
                        have q376 : x42_2 < (t372.length : Int) := of_decide_eq_true (by first | (with_reducible assumption) | assumption)
                        obtain ⟨ad376, e376, hx376_0, hx376_1⟩ := at_T24 (Kd.R_reads' HO_40.out).2.2 x42_2 p376 q376
                        cases e376
                        replace p376 := eq_true p376
                        replace q376 := eq_true q376
                        go_wp2_with (first | ((with_reducible refine gate_dst (N := 10) rfl ?_); refine box_event ?hg (N := 10) ?hd (cs := #[.int .u64 0, .int .u64 0]) (t := 24) ?hr ?_; (case hd => rfl); (case hg => rfl); (case hr => first | (go_simp; done) | (go_simp; rfl)); intro gb377 hg w26 hbox hb; have n0_ := Aside0.mk (Kd.R_below (Kd.R_elderB (by (with_reducible repeat (first | apply Kd.R_alloc | apply Kd.R_drewN | apply Kd.R_drew)); exact HO_6.out) gb377 (Nat.le_of_eq hg.symm)) hb); have n1_ := Aside0.mk (Kd.R_below (Kd.R_elderB (by (with_reducible repeat (first | apply Kd.R_alloc | apply Kd.R_drewN | apply Kd.R_drew)); exact HO_40.out) gb377 (Nat.le_of_eq hg.symm)) hb); have n2_ := Aside0.mk (below_step (by repeat (first | (with_reducible first | exact HB.out | apply below_alloc | apply pw_below_drewN | apply below_drew1) | exact HB.out)) hb); have n3_ := Aside0.mk (hbox); have n4_ := Aside0.mk ((by rw [hg]; exact (below_size (by repeat (first | (with_reducible first | exact HB.out | apply below_alloc | apply pw_below_drewN | apply below_drew1) | exact HB.out))) : w.heap.size ≤ gb377)); have n5_ := Aside0.mk ((by rw [hg]; exact (below_size (by repeat (first | (with_reducible first | exact HB.out | apply below_alloc | apply pw_below_drewN | apply below_drew1) | exact HB.out))) : w.heap.size ≤ gb377)); clear HO_6; clear HO_40; clear HB; have HO_6 := n0_; have HO_40 := n1_; have HB := n2_; have BK377 := n3_; have GW377 := n4_; have GE377 := n5_; clear n0_ n1_ n2_ n3_ n4_ n5_; clear hb hbox hg; have hcz27_0 : w26.cell? ⟨gb377, 0, none⟩ = some (.int .u64 0) := (blk_cell BK377.out 0).trans rfl; have hcz27_1 : w26.cell? ⟨gb377, 1, none⟩ = some (.int .u64 0) := (blk_cell BK377.out 1).trans rfl; have hfz27_0 := blk_frozen BK377.out 0; have hfz27_1 := blk_frozen BK377.out 1) | ((with_reducible refine gate_callee (f := 59) rfl ?_); refine goesL_ (some 49) rfl rfl Try.func59 (by kernel_rfl) rfl #[.int .i64 a0, .agg #[.int .u64 ((rd_T24 t372 x42_2).f0), .int .u64 ((rd_T24 t372 x42_2).f1)]] rfl (by (try simp only [List.map_toArray, List.map_cons, List.map_nil]); first | done | rfl | (simp only [List.length_drop, List.length_take]; rfl)) ?_; (with_reducible refine (sub_Split.calls k2 a0 ((rd_T24 t372 x42_2).f0) ((rd_T24 t372 x42_2).f1) t378 t381 _ A18.out).mono ?_); rintro e w28 ⟨v379, rfl, ho0, hb⟩; refine ⟨_, rfl, ?_⟩; have n0_ := Aside0.mk (Kd.R_elder' (by (with_reducible repeat (first | apply Kd.R_alloc | apply Kd.R_drewN | apply Kd.R_drew)); exact (Kd.R_mono (Kd.R_far (p := ⟨gb377, 1, none⟩) (Kd.R_far (p := ⟨gb377, 0, none⟩) (Kd.R_mono HO_6.out (fun k_ hk => (⟨hk, hk.2⟩ : _ ∧ k_ ≠ gb377))) (fun _ hk => hk.2) (.int .u64 ((rd_T24 t372 x42_2).f0))) (fun _ hk => hk.2) (.int .u64 ((rd_T24 t372 x42_2).f1))) (fun _ h_ => h_.1))) (Kd.R_base ho0) hb); have n1_ := Aside0.mk (Kd.R_elder' (by (with_reducible repeat (first | apply Kd.R_alloc | apply Kd.R_drewN | apply Kd.R_drew)); exact (Kd.R_mono (Kd.R_far (p := ⟨gb377, 1, none⟩) (Kd.R_far (p := ⟨gb377, 0, none⟩) (Kd.R_mono HO_40.out (fun k_ hk => (⟨hk, hk.2⟩ : _ ∧ k_ ≠ gb377))) (fun _ hk => hk.2) (.int .u64 ((rd_T24 t372 x42_2).f0))) (fun _ hk => hk.2) (.int .u64 ((rd_T24 t372 x42_2).f1))) (fun _ h_ => h_.1))) (Kd.R_base ho0) hb); have n2_ := Aside0.mk (Kd.R_lower (Kd.R_newB (Kd.R_new' (Kd.R_new' ho0 (Kd.R_lt (by (with_reducible repeat (first | apply Kd.R_alloc | apply Kd.R_drewN | apply Kd.R_drew)); exact (Kd.R_mono (Kd.R_far (p := ⟨gb377, 1, none⟩) (Kd.R_far (p := ⟨gb377, 0, none⟩) (Kd.R_mono HO_6.out (fun k_ hk => (⟨hk, hk.2⟩ : _ ∧ k_ ≠ gb377))) (fun _ hk => hk.2) (.int .u64 ((rd_T24 t372 x42_2).f0))) (fun _ hk => hk.2) (.int .u64 ((rd_T24 t372 x42_2).f1))) (fun _ h_ => h_.1))))) (Kd.R_lt (by (with_reducible repeat (first | apply Kd.R_alloc | apply Kd.R_drewN | apply Kd.R_drew)); exact (Kd.R_mono (Kd.R_far (p := ⟨gb377, 1, none⟩) (Kd.R_far (p := ⟨gb377, 0, none⟩) (Kd.R_mono HO_40.out (fun k_ hk => (⟨hk, hk.2⟩ : _ ∧ k_ ≠ gb377))) (fun _ hk => hk.2) (.int .u64 ((rd_T24 t372 x42_2).f0))) (fun _ hk => hk.2) (.int .u64 ((rd_T24 t372 x42_2).f1))) (fun _ h_ => h_.1))))) (g := gb377) (o := .cells #[.int .u64 ((rd_T24 t372 x42_2).f0), .int .u64 ((rd_T24 t372 x42_2).f1)] 24 (0, 0)) (by (with_reducible repeat (first | refine blk_drewN ?_ _ | refine blk_drew ?_ | refine blk_alloc ?_ _)); refine blk_put (cs := #[.int .u64 ((rd_T24 t372 x42_2).f0), .int .u64 0]) ?_ 1 _ rfl; (with_reducible repeat (first | refine blk_drewN ?_ _ | refine blk_drew ?_ | refine blk_alloc ?_ _)); refine blk_put (cs := #[.int .u64 0, .int .u64 0]) ?_ 0 _ rfl; (with_reducible repeat (first | refine blk_drewN ?_ _ | refine blk_drew ?_ | refine blk_alloc ?_ _)); exact BK377.out)) (below_size (by repeat (first | (with_reducible first | exact HB.out | apply below_alloc | apply pw_below_drewN | apply below_drew1 | refine below_set ?_ GE377.out) | exact HB.out)))); have n3_ := Aside0.mk (blk_below (g := gb377) (o := .cells #[.int .u64 ((rd_T24 t372 x42_2).f0), .int .u64 ((rd_T24 t372 x42_2).f1)] 24 (0, 0)) (by (with_reducible repeat (first | refine blk_drewN ?_ _ | refine blk_drew ?_ | refine blk_alloc ?_ _)); refine blk_put (cs := #[.int .u64 ((rd_T24 t372 x42_2).f0), .int .u64 0]) ?_ 1 _ rfl; (with_reducible repeat (first | refine blk_drewN ?_ _ | refine blk_drew ?_ | refine blk_alloc ?_ _)); refine blk_put (cs := #[.int .u64 0, .int .u64 0]) ?_ 0 _ rfl; (with_reducible repeat (first | refine blk_drewN ?_ _ | refine blk_drew ?_ | refine blk_alloc ?_ _)); exact BK377.out) hb); have n4_ := Aside0.mk (below_step (by repeat (first | (with_reducible first | exact HB.out | apply below_alloc | apply pw_below_drewN | apply below_drew1 | refine below_set ?_ GE377.out) | exact HB.out)) hb); clear HO_6; clear HO_40; clear BK377; clear HB; have HO_6 := n0_; have HO_40 := n1_; have HO380 := n2_; have BK377 := n3_; have HB := n4_; clear n0_ n1_ n2_ n3_ n4_; (try clear hb); (try clear hb2); (try clear hk); (try clear hi); (try clear ho0)))
                        go_ret2
                        exact ⟨_, by first | rfl | (simp [errW_none, errW_some] <;> rfl) | (simp [*, errW_none, errW_some] <;> rfl), by first | exact Kd.R_nil _ _ _ _ _ | exact Kd.N_nil _ _ _ _ _ | exact Kd.V_nil _ _ _ _ _ | exact Kd.Q_nil _ _ _ _ _ | exact Kd.S_nil _ _ _ _ _, by repeat (first | (with_reducible first | exact HB.out | apply below_alloc | apply pw_below_drewN | apply below_drew1 | refine below_set ?_ GE377.out) | exact HB.out)⟩
                    · rw [if_neg c17] at H
                      exact absurd H (by simp)
                  · rw [if_neg c16] at H
                    exact absurd H (by simp)
                · rw [if_neg c15] at H
                  have c15b0 : decide (x42_2 < (t372.length : Int)) = false := decide_eq_false c15
                  clear c15
                  replace H := Option.bind_eq_some_iff.mp H
                  obtain ⟨t385, A290, H⟩ := H
                  replace H : (some (t385, 0)) = some (r1, r2) := H
                  have A29 := Aside0.mk A290
                  clear A290
                  simp only [Option.some.injEq, Prod.mk.injEq] at H
                  obtain ⟨rfl, rfl⟩ := H
                  obtain ⟨Ao30, co30, eo30⟩ := Kd.R_slice HO_6.out
                  subst eo30
                  go_wp2_with (first | ((with_reducible refine gate_callee (f := 60) rfl ?_); refine goesL_ (some 60) rfl rfl Try.func60 (by kernel_rfl) rfl #[.slice Ao30 x6_2.length co30] rfl (by (try simp only [List.map_toArray, List.map_cons, List.map_nil]); first | done | rfl | (simp only [List.length_drop, List.length_take]; rfl)) ?_; (with_reducible refine (layer_Order.calls k2 _ _ x6_2 t385 _ ?side1 ?side2 A29.out).mono ?_); (case side1 => repeat (first | exact (Kd.R_reads' HO_6.out).2.2 | (with_reducible refine Kd.C_alloc ?_ _) | (with_reducible refine Kd.C_drewN ?_ _) | (with_reducible refine Kd.C_drew ?_))); (case side2 => exact (Kd.R_reads' HO_6.out).2.1); rintro e w31 ⟨v386, rfl, ho0, hb⟩; refine ⟨_, rfl, ?_⟩; have n0_ := Aside0.mk (Kd.R_elder' (by (with_reducible repeat (first | apply Kd.R_alloc | apply Kd.R_drewN | apply Kd.R_drew)); exact HO_6.out) (Kd.R_base ho0) hb); have n1_ := Aside0.mk (Kd.R_elder' (by (with_reducible repeat (first | apply Kd.R_alloc | apply Kd.R_drewN | apply Kd.R_drew)); exact HO_40.out) (Kd.R_base ho0) hb); have n2_ := Aside0.mk (Kd.R_lower (Kd.R_new' (Kd.R_new' ho0 (Kd.R_lt (by (with_reducible repeat (first | apply Kd.R_alloc | apply Kd.R_drewN | apply Kd.R_drew)); exact HO_6.out))) (Kd.R_lt (by (with_reducible repeat (first | apply Kd.R_alloc | apply Kd.R_drewN | apply Kd.R_drew)); exact HO_40.out))) (below_size (by repeat (first | (with_reducible first | exact HB.out | apply below_alloc | apply pw_below_drewN | apply below_drew1) | exact HB.out)))); have n3_ := Aside0.mk (below_step (by repeat (first | (with_reducible first | exact HB.out | apply below_alloc | apply pw_below_drewN | apply below_drew1) | exact HB.out)) hb); clear HO_6; clear HO_40; clear HB; have HO_6 := n0_; have HO_40 := n1_; have HO387 := n2_; have HB := n3_; clear n0_ n1_ n2_ n3_; (try clear hb); (try clear hb2); (try clear hk); (try clear hi); (try clear ho0)))
                  go_ret2
                  exact ⟨_, by first | rfl | (simp [errW_none, errW_some] <;> rfl) | (simp [*, errW_none, errW_some] <;> rfl), by (with_reducible repeat (first | apply Kd.R_alloc | apply Kd.R_drewN | apply Kd.R_drew)); exact Kd.R_mono HO387.out (fun _ hk => trivial), by repeat (first | (with_reducible first | exact HB.out | apply below_alloc | apply pw_below_drewN | apply below_drew1) | exact HB.out)⟩
  · rw [if_neg c5] at H
    have c5b0 : (t367 == 0) = false := beq_eq_false_iff_ne.mpr c5
    have c5b1 : (t367 != 0) = true := bne_iff_ne.mpr c5
    simp only [Option.some.injEq, Prod.mk.injEq] at H
    obtain ⟨rfl, rfl⟩ := H
    go_enter Try.func26, Try.ntmps26
    go_wp2_with (first | ((with_reducible refine gate_callee (f := 37) rfl ?_); refine goesL_ (some 15) rfl rfl Try.func37 (by kernel_rfl) rfl #[.int .i64 a0, .int .i64 a1] rfl (by (try simp only [List.map_toArray, List.map_cons, List.map_nil]); first | done | rfl | (simp only [List.length_drop, List.length_take]; rfl)) ?_; (with_reducible refine (layer_check.calls k a0 a1 t367 _ A4.out).mono ?_); rintro e w' ⟨rfl, ⟨nd, rfl⟩⟩; refine ⟨_, rfl, ?_⟩))
    go_ret2
    exact ⟨_, by first | rfl | (simp [errW_none, errW_some] <;> rfl) | (simp [*, errW_none, errW_some] <;> rfl), by first | exact Kd.R_nil _ _ _ _ _ | exact Kd.N_nil _ _ _ _ _ | exact Kd.V_nil _ _ _ _ _ | exact Kd.Q_nil _ _ _ _ _ | exact Kd.S_nil _ _ _ _ _, by repeat (first | (with_reducible first | exact HB.out | apply below_alloc | apply pw_below_drewN | apply below_drew1) | exact HB.out)⟩
end Go.Proofs.Ytnbiddloiiljjaa.MP
