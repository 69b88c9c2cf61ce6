-- written by a program of this session (wip/tools/mprint.sh) for this seat
import Derived.Test.YtoljdfgkkkpnbaaMPx0
import Derived.Laws.StructEq
import Derived.ChangeKeysEq
namespace Go.Proofs.Ytoljdfgkkkpnbaa.MP
open Go.RowKit Go.Proofs.YtoljdfgkkkpnbaaW.PrintWords Go.Proofs.YtoljdfgkkkpnbaaW.PrintLast Go.Proofs.YtoljdfgkkkpnbaaW.PrintMore
attribute [local go_sem] max2_int min2_int max_two min_two max_three min_three max_four min_four
set_option linter.unusedVariables false
set_option linter.unusedSimpArgs false
theorem eqArr2 {P : Program} {d : Nat} {t e : TypeId} {a0 a1 b0 b1 : Value} {r s : Bool} {w : World} (hu : P.underlying t = some (.array 2 e)) (hs : P.cellsOf e = 1) (hg : P.plainKey e = true)
   (h0 : (Op.equalIn d e a0 b0).run P w = .ok r w) (h1 : (Op.equalIn d e a1 b1).run P w = .ok s w) :
   (Op.equalIn (d + 1) t (.agg #[a0, a1]) (.agg #[b0, b1])).run P w = .ok (r && s) w := by
  have p0 := run_part_plain w hg (xs := #[a0, a1]) (off := 0) (v := a0) rfl
  have p1 := run_part_plain w hg (xs := #[a0, a1]) (off := 1) (v := a1) rfl
  have q0 := run_part_plain w hg (xs := #[b0, b1]) (off := 0) (v := b0) rfl
  have q1 := run_part_plain w hg (xs := #[b0, b1]) (off := 1) (v := b1) rfl
  obtain ⟨i, hi⟩ : ∃ i, P.info? e = some i := by
   unfold Program.plainKey at hg
   cases hu : P.underlying e with
   | none => simp [hu] at hg
   | some d => exact info_of_underlying hu
  rw [run_equalIn_array w d _ _ hu hi, hs]
  simp only [show List.range 2 = [0, 1] from rfl, Op.eqItems, Sem.run_bind, p0, p1, q0, q1, h0, h1, Result.andThen_ok, Nat.zero_mul, Nat.one_mul]
  cases r <;> cases s <;> simp [Op.eqItems, Sem.run_bind, p0, p1, q0, q1, h0, h1]
theorem eqA25 (d : Nat) (w : World) (x0 y0 : Int) (x1 y1 : Int) :
   (Op.equalIn (d + 2) 25 (.agg #[.int .u64 x0, .int .u64 x1]) (.agg #[.int .u64 y0, .int .u64 y1])).run Try.prog w = .ok (x0 == y0 && (x1 == y1)) w := by
  refine eqArr2 Try.underlying25 (by kernel_rfl) (by kernel_rfl) ?_ ?_ <;> (intros; go_simp)
theorem eqA27 (d : Nat) (w : World) (x0 y0 : Int) (x1 y1 : Int) (x2 y2 : Int) (x3 y3 : Int) :
   (Op.equalIn (d + 3) 27 (.agg #[.int .u64 x0, .int .u64 x1, .int .u64 x2, .int .u64 x3]) (.agg #[.int .u64 y0, .int .u64 y1, .int .u64 y2, .int .u64 y3])).run Try.prog w = .ok ((x0 == y0 && (x1 == y1)) && ((x2 == y2 && (x3 == y3)))) w := by
  refine eqA_of Try.underlying27 (by kernel_rfl) ?_
  refine eqf_cons (by rfl) (by go_simp) (by go_simp) (eqA25 (d + 0) w _ _ _ _) ?_
  exact eqf_last (by rfl) (by go_simp) (by go_simp) (eqA25 (d + 0) w _ _ _ _)
theorem eqA29 (d : Nat) (w : World) (x0 y0 : Bool) (x1 y1 : Bool) (x2 y2 : Int) (x3 y3 : Int) (x4 y4 : Int) (x5 y5 : Int) (x6 y6 : Int) (x7 y7 : Int) (x8 y8 : Int) :
   (Op.equalIn (d + 4) 29 (.agg #[.bool x0, .bool x1, .int .u64 x2, .int .u64 x3, .int .u64 x4, .int .u64 x5, .int .u64 x6, .int .u64 x7, .int .i64 x8]) (.agg #[.bool y0, .bool y1, .int .u64 y2, .int .u64 y3, .int .u64 y4, .int .u64 y5, .int .u64 y6, .int .u64 y7, .int .i64 y8])).run Try.prog w = .ok (x0 == y0 && (x1 == y1 && ((x2 == y2 && (x3 == y3)) && (((x4 == y4 && (x5 == y5)) && ((x6 == y6 && (x7 == y7)))) && (x8 == y8))))) w := by
  refine eqA_of Try.underlying29 (by kernel_rfl) ?_
  refine eqf_cons (by rfl) (by go_simp; rfl) (by go_simp; rfl) (by go_simp) ?_
  refine eqf_cons (by rfl) (by go_simp; rfl) (by go_simp; rfl) (by go_simp) ?_
  refine eqf_cons (by rfl) (by go_simp) (by go_simp) (eqA25 (d + 1) w _ _ _ _) ?_
  refine eqf_cons (by rfl) (by go_simp) (by go_simp) (eqA27 (d + 0) w _ _ _ _ _ _ _ _) ?_
  exact eqf_last (by rfl) (by go_simp; rfl) (by go_simp; rfl) (by go_simp)
theorem eqA39 (d : Nat) (w : World) (x0 y0 : Int) (x1 y1 : Int) :
   (Op.equalIn (d + 2) 39 (.agg #[.int .u64 x0, .int .u64 x1]) (.agg #[.int .u64 y0, .int .u64 y1])).run Try.prog w = .ok (x0 == y0 && (x1 == y1)) w := by
  refine eqA_of Try.underlying39 (by kernel_rfl) ?_
  refine eqf_cons (by rfl) (by go_simp; rfl) (by go_simp; rfl) (by go_simp) ?_
  exact eqf_last (by rfl) (by go_simp; rfl) (by go_simp; rfl) (by go_simp)
theorem eqA65 (d : Nat) (w : World) (x0 y0 : Int) (x1 y1 : Int) (x2 y2 : Bool) (x3 y3 : Bool) (x4 y4 : Int) (x5 y5 : Int) (x6 y6 : Int) (x7 y7 : Int) (x8 y8 : Int) (x9 y9 : Int) (x10 y10 : Int) :
   (Op.equalIn (d + 5) 65 (.agg #[.int .u64 x0, .int .u64 x1, .bool x2, .bool x3, .int .u64 x4, .int .u64 x5, .int .u64 x6, .int .u64 x7, .int .u64 x8, .int .u64 x9, .int .i64 x10]) (.agg #[.int .u64 y0, .int .u64 y1, .bool y2, .bool y3, .int .u64 y4, .int .u64 y5, .int .u64 y6, .int .u64 y7, .int .u64 y8, .int .u64 y9, .int .i64 y10])).run Try.prog w = .ok ((x0 == y0 && (x1 == y1)) && ((x2 == y2 && (x3 == y3 && ((x4 == y4 && (x5 == y5)) && (((x6 == y6 && (x7 == y7)) && ((x8 == y8 && (x9 == y9)))) && (x10 == y10))))))) w := by
  refine eqA_of Try.underlying65 (by kernel_rfl) ?_
  refine eqf_cons (by rfl) (by go_simp) (by go_simp) (eqA39 (d + 2) w _ _ _ _) ?_
  exact eqf_last (by rfl) (by go_simp) (by go_simp) (eqA29 (d + 0) w _ _ _ _ _ _ _ _ _ _ _ _ _ _ _ _ _ _)
end Go.Proofs.Ytoljdfgkkkpnbaa.MP
