/-
  No cell of these rows narrows 'for every input' (looked for: loops, veiled, ifaces, maps, wideKeys, modest, calm, conditions, laid).
  DERIVED. THE GIVEN ROWS OF THIS SEAT. 6 by the template 'for every input the law returns true; each argument reads behind the call as it read before'; 0 by the template 'total and deterministic' (their statements: YtnbiddloiiljjaaTotals.lean).
  GIVEN WITH THE SEED: the statements are not yours to turn. If you find one false, say at which input.
  Laid BY PROGRAM, IN A SANDBOX (cutbox-rows.mjs): the forced cells as the released guide's own fill.sh prints them over the translation a00742da89219827… (all of the seat's roots in one cut). By AI agents, Wed Nov 11 2026. No macro, syntax, notation, axiom, sorry.
-/
import Derived.Test.YtnbiddloiiljjaaChecked
import GoSem.Claim
import GoSem.ClaimJoined
import GoSem.ClaimMapViews
import Derived.JoinedTies
import Derived.KernelRfl
namespace Go.Proofs.Ytnbiddloiiljjaa
/- THE CELL 'sum', in the pinned program and in every row, IS THE sha256 OF THE DUMP (.gsa) THAT YtnbiddloiiljjaaProg.lean LOADS. Nothing in Lean hashes anything: it is a label: what it is worth is what the hold of that sum in a sandbox is worth. -/
noncomputable def Try.pinned : Pinned := { name := "ytnbiddloiiljjaa", sum := "a00742da89219827784ef69e8f41f66f437ad10d6f41315b47eafb35b303c6d3", checked := Try.checked }
namespace Rows
def none {H : Type} : Left H := { results := [], args := [] }

/-- 'medlarlaw23.TraceHalves': WHATEVER THE INPUT: true; the input reads as it did. -/
def traceHalvesSpec : ChangeSpec := { name := "traceHalves", fn := fun _ => fun
  | [d1, d2, d3, d4] => { results := [.lit (.bool true)], args := [d1, d2, d3, d4] }
  | _ => none }
def traceHalvesRow : OpenClaim := { program := "ytnbiddloiiljjaa", sum := "a00742da89219827784ef69e8f41f66f437ad10d6f41315b47eafb35b303c6d3", func := "medlar/medlarlaw23.TraceHalves", spec := "traceHalves", unfollowed := true, recurses := true, apart := false }
def TraceHalvesSaid : Prop := traceHalvesRow.holds Try.pinned (OpenSpec.ofChange traceHalvesSpec)

/-- ITS FALSE NEIGHBOUR: 'it returns false'. Refute it at one input. -/
def traceHalvesWrong : ChangeSpec := { name := "traceHalves", fn := fun _ => fun
  | [d1, d2, d3, d4] => { results := [.lit (.bool false)], args := [d1, d2, d3, d4] }
  | _ => none }
def TraceHalvesWrongFalsely : Prop := traceHalvesRow.holds Try.pinned (OpenSpec.ofChange traceHalvesWrong)

/-- 'medlarlaw23.TraceDoes': WHATEVER THE INPUT: true; the input reads as it did. -/
def traceDoesSpec : ChangeSpec := { name := "traceDoes", fn := fun _ => fun
  | [d1, d2, d3, d4, d5, d6] => { results := [.lit (.bool true)], args := [d1, d2, d3, d4, d5, d6] }
  | _ => none }
def traceDoesRow : OpenClaim := { program := "ytnbiddloiiljjaa", sum := "a00742da89219827784ef69e8f41f66f437ad10d6f41315b47eafb35b303c6d3", func := "medlar/medlarlaw23.TraceDoes", spec := "traceDoes", unfollowed := true, recurses := true, apart := false }
def TraceDoesSaid : Prop := traceDoesRow.holds Try.pinned (OpenSpec.ofChange traceDoesSpec)

/-- ITS FALSE NEIGHBOUR: 'it returns false'. Refute it at one input. -/
def traceDoesWrong : ChangeSpec := { name := "traceDoes", fn := fun _ => fun
  | [d1, d2, d3, d4, d5, d6] => { results := [.lit (.bool false)], args := [d1, d2, d3, d4, d5, d6] }
  | _ => none }
def TraceDoesWrongFalsely : Prop := traceDoesRow.holds Try.pinned (OpenSpec.ofChange traceDoesWrong)

/-- 'medlarlaw23.TraceFinds': WHATEVER THE INPUT: true; the input reads as it did. -/
def traceFindsSpec : ChangeSpec := { name := "traceFinds", fn := fun _ => fun
  | [d1, d2, d3, d4] => { results := [.lit (.bool true)], args := [d1, d2, d3, d4] }
  | _ => none }
def traceFindsRow : OpenClaim := { program := "ytnbiddloiiljjaa", sum := "a00742da89219827784ef69e8f41f66f437ad10d6f41315b47eafb35b303c6d3", func := "medlar/medlarlaw23.TraceFinds", spec := "traceFinds", unfollowed := true, recurses := true, apart := false }
def TraceFindsSaid : Prop := traceFindsRow.holds Try.pinned (OpenSpec.ofChange traceFindsSpec)

/-- ITS FALSE NEIGHBOUR: 'it returns false'. Refute it at one input. -/
def traceFindsWrong : ChangeSpec := { name := "traceFinds", fn := fun _ => fun
  | [d1, d2, d3, d4] => { results := [.lit (.bool false)], args := [d1, d2, d3, d4] }
  | _ => none }
def TraceFindsWrongFalsely : Prop := traceFindsRow.holds Try.pinned (OpenSpec.ofChange traceFindsWrong)

/-- 'medlarlaw23.TraceEnds': WHATEVER THE INPUT: true; the input reads as it did. -/
def traceEndsSpec : ChangeSpec := { name := "traceEnds", fn := fun _ => fun
  | [d1, d2, d3, d4] => { results := [.lit (.bool true)], args := [d1, d2, d3, d4] }
  | _ => none }
def traceEndsRow : OpenClaim := { program := "ytnbiddloiiljjaa", sum := "a00742da89219827784ef69e8f41f66f437ad10d6f41315b47eafb35b303c6d3", func := "medlar/medlarlaw23.TraceEnds", spec := "traceEnds", unfollowed := true, recurses := true, apart := false }
def TraceEndsSaid : Prop := traceEndsRow.holds Try.pinned (OpenSpec.ofChange traceEndsSpec)

/-- ITS FALSE NEIGHBOUR: 'it returns false'. Refute it at one input. -/
def traceEndsWrong : ChangeSpec := { name := "traceEnds", fn := fun _ => fun
  | [d1, d2, d3, d4] => { results := [.lit (.bool false)], args := [d1, d2, d3, d4] }
  | _ => none }
def TraceEndsWrongFalsely : Prop := traceEndsRow.holds Try.pinned (OpenSpec.ofChange traceEndsWrong)

/-- 'medlarlaw23.TraceMore': WHATEVER THE INPUT: true; the input reads as it did. -/
def traceMoreSpec : ChangeSpec := { name := "traceMore", fn := fun _ => fun
  | [d1, d2, d3, d4, d5, d6] => { results := [.lit (.bool true)], args := [d1, d2, d3, d4, d5, d6] }
  | _ => none }
def traceMoreRow : OpenClaim := { program := "ytnbiddloiiljjaa", sum := "a00742da89219827784ef69e8f41f66f437ad10d6f41315b47eafb35b303c6d3", func := "medlar/medlarlaw23.TraceMore", spec := "traceMore", inPlace := ["slices.overlaps[uint64]"], unfollowed := true, recurses := true, apart := false }
def TraceMoreSaid : Prop := traceMoreRow.holds Try.pinned (OpenSpec.ofChange traceMoreSpec)

/-- ITS FALSE NEIGHBOUR: 'it returns false'. Refute it at one input. -/
def traceMoreWrong : ChangeSpec := { name := "traceMore", fn := fun _ => fun
  | [d1, d2, d3, d4, d5, d6] => { results := [.lit (.bool false)], args := [d1, d2, d3, d4, d5, d6] }
  | _ => none }
def TraceMoreWrongFalsely : Prop := traceMoreRow.holds Try.pinned (OpenSpec.ofChange traceMoreWrong)

/-- 'medlarlaw23.TraceCover': WHATEVER THE INPUT: true; the input reads as it did. -/
def traceCoverSpec : ChangeSpec := { name := "traceCover", fn := fun _ => fun
  | [d1, d2, d3, d4] => { results := [.lit (.bool true)], args := [d1, d2, d3, d4] }
  | _ => none }
def traceCoverRow : OpenClaim := { program := "ytnbiddloiiljjaa", sum := "a00742da89219827784ef69e8f41f66f437ad10d6f41315b47eafb35b303c6d3", func := "medlar/medlarlaw23.TraceCover", spec := "traceCover", unfollowed := true, recurses := true, apart := false }
def TraceCoverSaid : Prop := traceCoverRow.holds Try.pinned (OpenSpec.ofChange traceCoverSpec)

/-- ITS FALSE NEIGHBOUR: 'it returns false'. Refute it at one input. -/
def traceCoverWrong : ChangeSpec := { name := "traceCover", fn := fun _ => fun
  | [d1, d2, d3, d4] => { results := [.lit (.bool false)], args := [d1, d2, d3, d4] }
  | _ => none }
def TraceCoverWrongFalsely : Prop := traceCoverRow.holds Try.pinned (OpenSpec.ofChange traceCoverWrong)

/- THE SECOND FORM. 'bulk': how many values and letters a reading holds, each counted each time it is reached (what is shared counts as often as it is met; a slice's spare places count too). A statement '..UptoSaid' is the law's where the arguments, and the package variables that the reading takes, are together of bulk at most 1048576: NARROWER than '..Said'. Prove '..Said' where nothing that the law and all that it calls make is longer than what came in: it says more and counts as full. Else prove '..UptoSaid'. A law counts once. -/
mutual
def uptoBulk {H : Type} : DataW H → Nat
  | .lit (.string bytes) => bytes.length + 1
  | .lit _ => 1
  | .nil => 1
  | .ptr d => uptoBulk d + 1
  | .slice elems spare => uptoBulkAll elems + uptoBulkAll spare + 1
  | .agg parts => uptoBulkAll parts + 1
  | .iface _ d => uptoBulk d + 1
  | .map entries => uptoBulkEntries entries + 1
  | .held _ => 1
def uptoBulkAll {H : Type} : List (DataW H) → Nat
  | [] => 0
  | d :: r => uptoBulk d + uptoBulkAll r
def uptoBulkEntries {H : Type} : List (Lit × DataW H) → Nat
  | [] => 0
  | x :: r => uptoBulkEntry x + uptoBulkEntries r
def uptoBulkEntry {H : Type} : Lit × DataW H → Nat
  | (.string bytes, d) => bytes.length + uptoBulk d + 1
  | (_, d) => uptoBulk d + 1
 end
def uptoSmall : (H : Type) → List (DataW H) → Bool := fun _ ds => decide (uptoBulkAll ds ≤ 1048576)
def OpenSpec.upto (s : _root_.Go.ChangeSpec) : _root_.Go.OpenSpec := { _root_.Go.OpenSpec.ofChange s with cond := some uptoSmall }

/-- 'medlarlaw23.TraceHalves', WHERE WHAT IT READS IS OF BULK AT MOST 1048576: true; the input reads as it did. -/
def traceHalvesUptoRow : OpenClaim := { program := "ytnbiddloiiljjaa", sum := "a00742da89219827784ef69e8f41f66f437ad10d6f41315b47eafb35b303c6d3", func := "medlar/medlarlaw23.TraceHalves", spec := "traceHalves", unfollowed := true, recurses := true, apart := false, narrowed := true }
def TraceHalvesUptoSaid : Prop := traceHalvesUptoRow.holds Try.pinned (OpenSpec.upto traceHalvesSpec)

/-- 'medlarlaw23.TraceDoes', WHERE WHAT IT READS IS OF BULK AT MOST 1048576: true; the input reads as it did. -/
def traceDoesUptoRow : OpenClaim := { program := "ytnbiddloiiljjaa", sum := "a00742da89219827784ef69e8f41f66f437ad10d6f41315b47eafb35b303c6d3", func := "medlar/medlarlaw23.TraceDoes", spec := "traceDoes", unfollowed := true, recurses := true, apart := false, narrowed := true }
def TraceDoesUptoSaid : Prop := traceDoesUptoRow.holds Try.pinned (OpenSpec.upto traceDoesSpec)

/-- 'medlarlaw23.TraceFinds', WHERE WHAT IT READS IS OF BULK AT MOST 1048576: true; the input reads as it did. -/
def traceFindsUptoRow : OpenClaim := { program := "ytnbiddloiiljjaa", sum := "a00742da89219827784ef69e8f41f66f437ad10d6f41315b47eafb35b303c6d3", func := "medlar/medlarlaw23.TraceFinds", spec := "traceFinds", unfollowed := true, recurses := true, apart := false, narrowed := true }
def TraceFindsUptoSaid : Prop := traceFindsUptoRow.holds Try.pinned (OpenSpec.upto traceFindsSpec)

/-- 'medlarlaw23.TraceEnds', WHERE WHAT IT READS IS OF BULK AT MOST 1048576: true; the input reads as it did. -/
def traceEndsUptoRow : OpenClaim := { program := "ytnbiddloiiljjaa", sum := "a00742da89219827784ef69e8f41f66f437ad10d6f41315b47eafb35b303c6d3", func := "medlar/medlarlaw23.TraceEnds", spec := "traceEnds", unfollowed := true, recurses := true, apart := false, narrowed := true }
def TraceEndsUptoSaid : Prop := traceEndsUptoRow.holds Try.pinned (OpenSpec.upto traceEndsSpec)

/-- 'medlarlaw23.TraceMore', WHERE WHAT IT READS IS OF BULK AT MOST 1048576: true; the input reads as it did. -/
def traceMoreUptoRow : OpenClaim := { program := "ytnbiddloiiljjaa", sum := "a00742da89219827784ef69e8f41f66f437ad10d6f41315b47eafb35b303c6d3", func := "medlar/medlarlaw23.TraceMore", spec := "traceMore", inPlace := ["slices.overlaps[uint64]"], unfollowed := true, recurses := true, apart := false, narrowed := true }
def TraceMoreUptoSaid : Prop := traceMoreUptoRow.holds Try.pinned (OpenSpec.upto traceMoreSpec)

/-- 'medlarlaw23.TraceCover', WHERE WHAT IT READS IS OF BULK AT MOST 1048576: true; the input reads as it did. -/
def traceCoverUptoRow : OpenClaim := { program := "ytnbiddloiiljjaa", sum := "a00742da89219827784ef69e8f41f66f437ad10d6f41315b47eafb35b303c6d3", func := "medlar/medlarlaw23.TraceCover", spec := "traceCover", unfollowed := true, recurses := true, apart := false, narrowed := true }
def TraceCoverUptoSaid : Prop := traceCoverUptoRow.holds Try.pinned (OpenSpec.upto traceCoverSpec)

end Rows
end Go.Proofs.Ytnbiddloiiljjaa
