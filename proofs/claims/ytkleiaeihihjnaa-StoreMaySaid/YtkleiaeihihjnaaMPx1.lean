-- written by a program of this session (wip/tools/mprint.sh) for this seat
import Derived.Test.YtkleiaeihihjnaaMPx0
import Derived.Laws.StructEq
import Derived.ChangeKeysEq
namespace Go.Proofs.Ytkleiaeihihjnaa.MP
open Go.RowKit Go.Proofs.YtkleiaeihihjnaaW.PrintWords Go.Proofs.YtkleiaeihihjnaaW.PrintLast Go.Proofs.YtkleiaeihihjnaaW.PrintMore
attribute [local go_sem] max2_int min2_int max_two min_two max_three min_three max_four min_four
set_option linter.unusedVariables false
set_option linter.unusedSimpArgs false
theorem eqArr2 {P : Program} {d : Nat} {t e : TypeId} {a0 a1 b0 b1 : Value} {r s : Bool} {w : World} (hu : P.underlying t = some (.array 2 e)) (hs : P.cellsOf e = 1) (hg : P.plainKey e = true)
   (h0 : (Op.equalIn d e a0 b0).run P w = .ok r w) (h1 : (Op.equalIn d e a1 b1).run P w = .ok s w) :
   (Op.equalIn (d + 1) t (.agg #[a0, a1]) (.agg #[b0, b1])).run P w = .ok (r && s) w := by
  have p0 := run_part_plain w hg (xs := #[a0, a1]) (off := 0) (v := a0) rfl
  have p1 := run_part_plain w hg (xs := #[a0, a1]) (off := 1) (v := a1) rfl
  have q0 := run_part_plain w hg (xs := #[b0, b1]) (off := 0) (v := b0) rfl
  have q1 := run_part_plain w hg (xs := #[b0, b1]) (off := 1) (v := b1) rfl
  obtain ⟨i, hi⟩ : ∃ i, P.info? e = some i := by
   unfold Program.plainKey at hg
   cases hu : P.underlying e with
   | none => simp [hu] at hg
   | some d => exact info_of_underlying hu
  rw [run_equalIn_array w d _ _ hu hi, hs]
  simp only [show List.range 2 = [0, 1] from rfl, Op.eqItems, Sem.run_bind, p0, p1, q0, q1, h0, h1, Result.andThen_ok, Nat.zero_mul, Nat.one_mul]
  cases r <;> cases s <;> simp [Op.eqItems, Sem.run_bind, p0, p1, q0, q1, h0, h1]
theorem eqA24 (d : Nat) (w : World) (x0 y0 : Int) (x1 y1 : Int) :
   (Op.equalIn (d + 2) 24 (.agg #[.int .u64 x0, .int .u64 x1]) (.agg #[.int .u64 y0, .int .u64 y1])).run Try.prog w = .ok (x0 == y0 && (x1 == y1)) w := by
  refine eqArr2 Try.underlying24 (by kernel_rfl) (by kernel_rfl) ?_ ?_ <;> (intros; go_simp)
theorem eqA32 (d : Nat) (w : World) (x0 y0 : Int) (x1 y1 : Int) (x2 y2 : Int) (x3 y3 : Int) :
   (Op.equalIn (d + 3) 32 (.agg #[.int .u64 x0, .int .u64 x1, .int .u64 x2, .int .u64 x3]) (.agg #[.int .u64 y0, .int .u64 y1, .int .u64 y2, .int .u64 y3])).run Try.prog w = .ok ((x0 == y0 && (x1 == y1)) && ((x2 == y2 && (x3 == y3)))) w := by
  refine eqA_of Try.underlying32 (by kernel_rfl) ?_
  refine eqf_cons (by rfl) (by go_simp) (by go_simp) (eqA24 (d + 0) w _ _ _ _) ?_
  exact eqf_last (by rfl) (by go_simp) (by go_simp) (eqA24 (d + 0) w _ _ _ _)
theorem eqA34 (d : Nat) (w : World) (x0 y0 : Bool) (x1 y1 : Bool) (x2 y2 : Int) (x3 y3 : Int) (x4 y4 : Int) (x5 y5 : Int) (x6 y6 : Int) (x7 y7 : Int) (x8 y8 : Int) :
   (Op.equalIn (d + 4) 34 (.agg #[.bool x0, .bool x1, .int .u64 x2, .int .u64 x3, .int .u64 x4, .int .u64 x5, .int .u64 x6, .int .u64 x7, .int .i64 x8]) (.agg #[.bool y0, .bool y1, .int .u64 y2, .int .u64 y3, .int .u64 y4, .int .u64 y5, .int .u64 y6, .int .u64 y7, .int .i64 y8])).run Try.prog w = .ok (x0 == y0 && (x1 == y1 && ((x2 == y2 && (x3 == y3)) && (((x4 == y4 && (x5 == y5)) && ((x6 == y6 && (x7 == y7)))) && (x8 == y8))))) w := by
  refine eqA_of Try.underlying34 (by kernel_rfl) ?_
  refine eqf_cons (by rfl) (by go_simp; rfl) (by go_simp; rfl) (by go_simp) ?_
  refine eqf_cons (by rfl) (by go_simp; rfl) (by go_simp; rfl) (by go_simp) ?_
  refine eqf_cons (by rfl) (by go_simp) (by go_simp) (eqA24 (d + 1) w _ _ _ _) ?_
  refine eqf_cons (by rfl) (by go_simp) (by go_simp) (eqA32 (d + 0) w _ _ _ _ _ _ _ _) ?_
  exact eqf_last (by rfl) (by go_simp; rfl) (by go_simp; rfl) (by go_simp)
theorem eqA45 (d : Nat) (w : World) (x0 y0 : Int) (x1 y1 : Int) (x2 y2 : Int) :
   (Op.equalIn (d + 2) 45 (.agg #[.int .i64 x0, .int .i64 x1, .int .i64 x2]) (.agg #[.int .i64 y0, .int .i64 y1, .int .i64 y2])).run Try.prog w = .ok (x0 == y0 && (x1 == y1 && (x2 == y2))) w := by
  refine eqA_of Try.underlying45 (by kernel_rfl) ?_
  refine eqf_cons (by rfl) (by go_simp; rfl) (by go_simp; rfl) (by go_simp) ?_
  refine eqf_cons (by rfl) (by go_simp; rfl) (by go_simp; rfl) (by go_simp) ?_
  exact eqf_last (by rfl) (by go_simp; rfl) (by go_simp; rfl) (by go_simp)
theorem eqA48 (d : Nat) (w : World) (x0 y0 : Int) (x1 y1 : Int) :
   (Op.equalIn (d + 2) 48 (.agg #[.int .u64 x0, .int .u64 x1]) (.agg #[.int .u64 y0, .int .u64 y1])).run Try.prog w = .ok (x0 == y0 && (x1 == y1)) w := by
  refine eqA_of Try.underlying48 (by kernel_rfl) ?_
  refine eqf_cons (by rfl) (by go_simp; rfl) (by go_simp; rfl) (by go_simp) ?_
  exact eqf_last (by rfl) (by go_simp; rfl) (by go_simp; rfl) (by go_simp)
theorem eqA50 (d : Nat) (w : World) (x0 y0 : Int) (x1 y1 : Int) (x2 y2 : Bool) (x3 y3 : Bool) (x4 y4 : Int) (x5 y5 : Int) (x6 y6 : Int) (x7 y7 : Int) (x8 y8 : Int) (x9 y9 : Int) (x10 y10 : Int) :
   (Op.equalIn (d + 5) 50 (.agg #[.int .u64 x0, .int .u64 x1, .bool x2, .bool x3, .int .u64 x4, .int .u64 x5, .int .u64 x6, .int .u64 x7, .int .u64 x8, .int .u64 x9, .int .i64 x10]) (.agg #[.int .u64 y0, .int .u64 y1, .bool y2, .bool y3, .int .u64 y4, .int .u64 y5, .int .u64 y6, .int .u64 y7, .int .u64 y8, .int .u64 y9, .int .i64 y10])).run Try.prog w = .ok ((x0 == y0 && (x1 == y1)) && ((x2 == y2 && (x3 == y3 && ((x4 == y4 && (x5 == y5)) && (((x6 == y6 && (x7 == y7)) && ((x8 == y8 && (x9 == y9)))) && (x10 == y10))))))) w := by
  refine eqA_of Try.underlying50 (by kernel_rfl) ?_
  refine eqf_cons (by rfl) (by go_simp) (by go_simp) (eqA48 (d + 2) w _ _ _ _) ?_
  exact eqf_last (by rfl) (by go_simp) (by go_simp) (eqA34 (d + 0) w _ _ _ _ _ _ _ _ _ _ _ _ _ _ _ _ _ _)
end Go.Proofs.Ytkleiaeihihjnaa.MP
