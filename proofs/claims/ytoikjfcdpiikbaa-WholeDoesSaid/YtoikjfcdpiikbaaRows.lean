/-
  No cell of these rows narrows 'for every input' (looked for: loops, veiled, ifaces, maps, wideKeys, modest, calm, conditions, laid).
  DERIVED. THE GIVEN ROWS OF THIS SEAT. 11 by the template 'for every input the law returns true; each argument reads behind the call as it read before'; 0 by the template 'total and deterministic' (their statements: YtoikjfcdpiikbaaTotals.lean).
  GIVEN WITH THE SEED: the statements are not yours to turn. If you find one false, say at which input.
  Laid BY PROGRAM, IN A SANDBOX (cutbox-rows.mjs): the forced cells as the released guide's own fill.sh prints them over the translation eff05df3095c166f… (all of the seat's roots in one cut). By AI agents, Wed Nov 11 2026. No macro, syntax, notation, axiom, sorry.
-/
import Derived.Test.YtoikjfcdpiikbaaChecked
import GoSem.Claim
import GoSem.ClaimJoined
import GoSem.ClaimMapViews
import Derived.JoinedTies
import Derived.KernelRfl
namespace Go.Proofs.Ytoikjfcdpiikbaa
/- THE CELL 'sum', in the pinned program and in every row, IS THE sha256 OF THE DUMP (.gsa) THAT YtoikjfcdpiikbaaProg.lean LOADS. Nothing in Lean hashes anything: it is a label: what it is worth is what the hold of that sum in a sandbox is worth. -/
noncomputable def Try.pinned : Pinned := { name := "ytoikjfcdpiikbaa", sum := "eff05df3095c166fdb8ae03bc76ee606e24d35f50c1e77ebbd68bb6f7af4971c", checked := Try.checked }
namespace Rows
def none {H : Type} : Left H := { results := [], args := [] }

/-- 'medlarlaw09.SteinerMany': WHATEVER THE INPUT: true; the input reads as it did. -/
def steinerManySpec : ChangeSpec := { name := "steinerMany", fn := fun _ => fun
  | [d1, d2] => { results := [.lit (.bool true)], args := [d1, d2] }
  | _ => none }
def steinerManyRow : OpenClaim := { program := "ytoikjfcdpiikbaa", sum := "eff05df3095c166fdb8ae03bc76ee606e24d35f50c1e77ebbd68bb6f7af4971c", func := "medlar/medlarlaw09.SteinerMany", spec := "steinerMany", unfollowed := true, recurses := true, apart := false }
def SteinerManySaid : Prop := steinerManyRow.holds Try.pinned (OpenSpec.ofChange steinerManySpec)

/-- ITS FALSE NEIGHBOUR: 'it returns false'. Refute it at one input. -/
def steinerManyWrong : ChangeSpec := { name := "steinerMany", fn := fun _ => fun
  | [d1, d2] => { results := [.lit (.bool false)], args := [d1, d2] }
  | _ => none }
def SteinerManyWrongFalsely : Prop := steinerManyRow.holds Try.pinned (OpenSpec.ofChange steinerManyWrong)

/-- 'medlarlaw09.SteinerHang': WHATEVER THE INPUT: true; the input reads as it did. -/
def steinerHangSpec : ChangeSpec := { name := "steinerHang", fn := fun _ => fun
  | [d1, d2, d3] => { results := [.lit (.bool true)], args := [d1, d2, d3] }
  | _ => none }
def steinerHangRow : OpenClaim := { program := "ytoikjfcdpiikbaa", sum := "eff05df3095c166fdb8ae03bc76ee606e24d35f50c1e77ebbd68bb6f7af4971c", func := "medlar/medlarlaw09.SteinerHang", spec := "steinerHang", unfollowed := true, recurses := true, apart := false }
def SteinerHangSaid : Prop := steinerHangRow.holds Try.pinned (OpenSpec.ofChange steinerHangSpec)

/-- ITS FALSE NEIGHBOUR: 'it returns false'. Refute it at one input. -/
def steinerHangWrong : ChangeSpec := { name := "steinerHang", fn := fun _ => fun
  | [d1, d2, d3] => { results := [.lit (.bool false)], args := [d1, d2, d3] }
  | _ => none }
def SteinerHangWrongFalsely : Prop := steinerHangRow.holds Try.pinned (OpenSpec.ofChange steinerHangWrong)

/-- 'medlarlaw10.WholeBeside': WHATEVER THE INPUT: true; the input reads as it did. -/
def wholeBesideSpec : ChangeSpec := { name := "wholeBeside", fn := fun _ => fun
  | [d1, d2] => { results := [.lit (.bool true)], args := [d1, d2] }
  | _ => none }
def wholeBesideRow : OpenClaim := { program := "ytoikjfcdpiikbaa", sum := "eff05df3095c166fdb8ae03bc76ee606e24d35f50c1e77ebbd68bb6f7af4971c", func := "medlar/medlarlaw10.WholeBeside", spec := "wholeBeside", unfollowed := true, recurses := true, apart := false }
def WholeBesideSaid : Prop := wholeBesideRow.holds Try.pinned (OpenSpec.ofChange wholeBesideSpec)

/-- ITS FALSE NEIGHBOUR: 'it returns false'. Refute it at one input. -/
def wholeBesideWrong : ChangeSpec := { name := "wholeBeside", fn := fun _ => fun
  | [d1, d2] => { results := [.lit (.bool false)], args := [d1, d2] }
  | _ => none }
def WholeBesideWrongFalsely : Prop := wholeBesideRow.holds Try.pinned (OpenSpec.ofChange wholeBesideWrong)

/-- 'medlarlaw10.WholeDoes': WHATEVER THE INPUT: true; the input reads as it did. -/
def wholeDoesSpec : ChangeSpec := { name := "wholeDoes", fn := fun _ => fun
  | [d1, d2, d3] => { results := [.lit (.bool true)], args := [d1, d2, d3] }
  | _ => none }
def wholeDoesRow : OpenClaim := { program := "ytoikjfcdpiikbaa", sum := "eff05df3095c166fdb8ae03bc76ee606e24d35f50c1e77ebbd68bb6f7af4971c", func := "medlar/medlarlaw10.WholeDoes", spec := "wholeDoes", unfollowed := true, recurses := true, apart := false }
def WholeDoesSaid : Prop := wholeDoesRow.holds Try.pinned (OpenSpec.ofChange wholeDoesSpec)

/-- ITS FALSE NEIGHBOUR: 'it returns false'. Refute it at one input. -/
def wholeDoesWrong : ChangeSpec := { name := "wholeDoes", fn := fun _ => fun
  | [d1, d2, d3] => { results := [.lit (.bool false)], args := [d1, d2, d3] }
  | _ => none }
def WholeDoesWrongFalsely : Prop := wholeDoesRow.holds Try.pinned (OpenSpec.ofChange wholeDoesWrong)

/-- 'medlarlaw10.WholeBound': WHATEVER THE INPUT: true; the input reads as it did. -/
def wholeBoundSpec : ChangeSpec := { name := "wholeBound", fn := fun _ => fun
  | [d1, d2] => { results := [.lit (.bool true)], args := [d1, d2] }
  | _ => none }
def wholeBoundRow : OpenClaim := { program := "ytoikjfcdpiikbaa", sum := "eff05df3095c166fdb8ae03bc76ee606e24d35f50c1e77ebbd68bb6f7af4971c", func := "medlar/medlarlaw10.WholeBound", spec := "wholeBound", unfollowed := true, recurses := true, apart := false }
def WholeBoundSaid : Prop := wholeBoundRow.holds Try.pinned (OpenSpec.ofChange wholeBoundSpec)

/-- ITS FALSE NEIGHBOUR: 'it returns false'. Refute it at one input. -/
def wholeBoundWrong : ChangeSpec := { name := "wholeBound", fn := fun _ => fun
  | [d1, d2] => { results := [.lit (.bool false)], args := [d1, d2] }
  | _ => none }
def WholeBoundWrongFalsely : Prop := wholeBoundRow.holds Try.pinned (OpenSpec.ofChange wholeBoundWrong)

/-- 'medlarlaw09.SteinerAbove': WHATEVER THE INPUT: true; the input reads as it did. -/
def steinerAboveSpec : ChangeSpec := { name := "steinerAbove", fn := fun _ => fun
  | [d1, d2, d3, d4] => { results := [.lit (.bool true)], args := [d1, d2, d3, d4] }
  | _ => none }
def steinerAboveRow : OpenClaim := { program := "ytoikjfcdpiikbaa", sum := "eff05df3095c166fdb8ae03bc76ee606e24d35f50c1e77ebbd68bb6f7af4971c", func := "medlar/medlarlaw09.SteinerAbove", spec := "steinerAbove", unfollowed := true, recurses := true, apart := false }
def SteinerAboveSaid : Prop := steinerAboveRow.holds Try.pinned (OpenSpec.ofChange steinerAboveSpec)

/-- ITS FALSE NEIGHBOUR: 'it returns false'. Refute it at one input. -/
def steinerAboveWrong : ChangeSpec := { name := "steinerAbove", fn := fun _ => fun
  | [d1, d2, d3, d4] => { results := [.lit (.bool false)], args := [d1, d2, d3, d4] }
  | _ => none }
def SteinerAboveWrongFalsely : Prop := steinerAboveRow.holds Try.pinned (OpenSpec.ofChange steinerAboveWrong)

/-- 'medlarlaw09.SteinerDoes': WHATEVER THE INPUT: true; the input reads as it did. -/
def steinerDoesSpec : ChangeSpec := { name := "steinerDoes", fn := fun _ => fun
  | [d1, d2, d3] => { results := [.lit (.bool true)], args := [d1, d2, d3] }
  | _ => none }
def steinerDoesRow : OpenClaim := { program := "ytoikjfcdpiikbaa", sum := "eff05df3095c166fdb8ae03bc76ee606e24d35f50c1e77ebbd68bb6f7af4971c", func := "medlar/medlarlaw09.SteinerDoes", spec := "steinerDoes", unfollowed := true, recurses := true, apart := false }
def SteinerDoesSaid : Prop := steinerDoesRow.holds Try.pinned (OpenSpec.ofChange steinerDoesSpec)

/-- ITS FALSE NEIGHBOUR: 'it returns false'. Refute it at one input. -/
def steinerDoesWrong : ChangeSpec := { name := "steinerDoes", fn := fun _ => fun
  | [d1, d2, d3] => { results := [.lit (.bool false)], args := [d1, d2, d3] }
  | _ => none }
def SteinerDoesWrongFalsely : Prop := steinerDoesRow.holds Try.pinned (OpenSpec.ofChange steinerDoesWrong)

/-- 'medlarlaw09.SteinerForks': WHATEVER THE INPUT: true; the input reads as it did. -/
def steinerForksSpec : ChangeSpec := { name := "steinerForks", fn := fun _ => fun
  | [d1, d2, d3] => { results := [.lit (.bool true)], args := [d1, d2, d3] }
  | _ => none }
def steinerForksRow : OpenClaim := { program := "ytoikjfcdpiikbaa", sum := "eff05df3095c166fdb8ae03bc76ee606e24d35f50c1e77ebbd68bb6f7af4971c", func := "medlar/medlarlaw09.SteinerForks", spec := "steinerForks", unfollowed := true, recurses := true, apart := false }
def SteinerForksSaid : Prop := steinerForksRow.holds Try.pinned (OpenSpec.ofChange steinerForksSpec)

/-- ITS FALSE NEIGHBOUR: 'it returns false'. Refute it at one input. -/
def steinerForksWrong : ChangeSpec := { name := "steinerForks", fn := fun _ => fun
  | [d1, d2, d3] => { results := [.lit (.bool false)], args := [d1, d2, d3] }
  | _ => none }
def SteinerForksWrongFalsely : Prop := steinerForksRow.holds Try.pinned (OpenSpec.ofChange steinerForksWrong)

/-- 'medlarlaw10.WholeCovers': WHATEVER THE INPUT: true; the input reads as it did. -/
def wholeCoversSpec : ChangeSpec := { name := "wholeCovers", fn := fun _ => fun
  | [d1, d2, d3] => { results := [.lit (.bool true)], args := [d1, d2, d3] }
  | _ => none }
def wholeCoversRow : OpenClaim := { program := "ytoikjfcdpiikbaa", sum := "eff05df3095c166fdb8ae03bc76ee606e24d35f50c1e77ebbd68bb6f7af4971c", func := "medlar/medlarlaw10.WholeCovers", spec := "wholeCovers", unfollowed := true, recurses := true, apart := false }
def WholeCoversSaid : Prop := wholeCoversRow.holds Try.pinned (OpenSpec.ofChange wholeCoversSpec)

/-- ITS FALSE NEIGHBOUR: 'it returns false'. Refute it at one input. -/
def wholeCoversWrong : ChangeSpec := { name := "wholeCovers", fn := fun _ => fun
  | [d1, d2, d3] => { results := [.lit (.bool false)], args := [d1, d2, d3] }
  | _ => none }
def WholeCoversWrongFalsely : Prop := wholeCoversRow.holds Try.pinned (OpenSpec.ofChange wholeCoversWrong)

/-- 'medlarlaw09.SteinerDown': WHATEVER THE INPUT: true; the input reads as it did. -/
def steinerDownSpec : ChangeSpec := { name := "steinerDown", fn := fun _ => fun
  | [d1, d2, d3, d4] => { results := [.lit (.bool true)], args := [d1, d2, d3, d4] }
  | _ => none }
def steinerDownRow : OpenClaim := { program := "ytoikjfcdpiikbaa", sum := "eff05df3095c166fdb8ae03bc76ee606e24d35f50c1e77ebbd68bb6f7af4971c", func := "medlar/medlarlaw09.SteinerDown", spec := "steinerDown", inPlace := ["slices.overlaps[uint64]"], unfollowed := true, recurses := true, apart := false }
def SteinerDownSaid : Prop := steinerDownRow.holds Try.pinned (OpenSpec.ofChange steinerDownSpec)

/-- ITS FALSE NEIGHBOUR: 'it returns false'. Refute it at one input. -/
def steinerDownWrong : ChangeSpec := { name := "steinerDown", fn := fun _ => fun
  | [d1, d2, d3, d4] => { results := [.lit (.bool false)], args := [d1, d2, d3, d4] }
  | _ => none }
def SteinerDownWrongFalsely : Prop := steinerDownRow.holds Try.pinned (OpenSpec.ofChange steinerDownWrong)

/-- 'medlarlaw10.WholeMore': WHATEVER THE INPUT: true; the input reads as it did. -/
def wholeMoreSpec : ChangeSpec := { name := "wholeMore", fn := fun _ => fun
  | [d1, d2, d3] => { results := [.lit (.bool true)], args := [d1, d2, d3] }
  | _ => none }
def wholeMoreRow : OpenClaim := { program := "ytoikjfcdpiikbaa", sum := "eff05df3095c166fdb8ae03bc76ee606e24d35f50c1e77ebbd68bb6f7af4971c", func := "medlar/medlarlaw10.WholeMore", spec := "wholeMore", inPlace := ["slices.overlaps[uint64]"], unfollowed := true, recurses := true, apart := false }
def WholeMoreSaid : Prop := wholeMoreRow.holds Try.pinned (OpenSpec.ofChange wholeMoreSpec)

/-- ITS FALSE NEIGHBOUR: 'it returns false'. Refute it at one input. -/
def wholeMoreWrong : ChangeSpec := { name := "wholeMore", fn := fun _ => fun
  | [d1, d2, d3] => { results := [.lit (.bool false)], args := [d1, d2, d3] }
  | _ => none }
def WholeMoreWrongFalsely : Prop := wholeMoreRow.holds Try.pinned (OpenSpec.ofChange wholeMoreWrong)

/- THE SECOND FORM. 'bulk': how many values and letters a reading holds, each counted each time it is reached (what is shared counts as often as it is met; a slice's spare places count too). A statement '..UptoSaid' is the law's where the arguments, and the package variables that the reading takes, are together of bulk at most 1048576: NARROWER than '..Said'. Prove '..Said' where nothing that the law and all that it calls make is longer than what came in: it says more and counts as full. Else prove '..UptoSaid'. A law counts once. -/
mutual
def uptoBulk {H : Type} : DataW H → Nat
  | .lit (.string bytes) => bytes.length + 1
  | .lit _ => 1
  | .nil => 1
  | .ptr d => uptoBulk d + 1
  | .slice elems spare => uptoBulkAll elems + uptoBulkAll spare + 1
  | .agg parts => uptoBulkAll parts + 1
  | .iface _ d => uptoBulk d + 1
  | .map entries => uptoBulkEntries entries + 1
  | .held _ => 1
def uptoBulkAll {H : Type} : List (DataW H) → Nat
  | [] => 0
  | d :: r => uptoBulk d + uptoBulkAll r
def uptoBulkEntries {H : Type} : List (Lit × DataW H) → Nat
  | [] => 0
  | x :: r => uptoBulkEntry x + uptoBulkEntries r
def uptoBulkEntry {H : Type} : Lit × DataW H → Nat
  | (.string bytes, d) => bytes.length + uptoBulk d + 1
  | (_, d) => uptoBulk d + 1
 end
def uptoSmall : (H : Type) → List (DataW H) → Bool := fun _ ds => decide (uptoBulkAll ds ≤ 1048576)
def OpenSpec.upto (s : _root_.Go.ChangeSpec) : _root_.Go.OpenSpec := { _root_.Go.OpenSpec.ofChange s with cond := some uptoSmall }

/-- 'medlarlaw09.SteinerMany', WHERE WHAT IT READS IS OF BULK AT MOST 1048576: true; the input reads as it did. -/
def steinerManyUptoRow : OpenClaim := { program := "ytoikjfcdpiikbaa", sum := "eff05df3095c166fdb8ae03bc76ee606e24d35f50c1e77ebbd68bb6f7af4971c", func := "medlar/medlarlaw09.SteinerMany", spec := "steinerMany", unfollowed := true, recurses := true, apart := false, narrowed := true }
def SteinerManyUptoSaid : Prop := steinerManyUptoRow.holds Try.pinned (OpenSpec.upto steinerManySpec)

/-- 'medlarlaw09.SteinerHang', WHERE WHAT IT READS IS OF BULK AT MOST 1048576: true; the input reads as it did. -/
def steinerHangUptoRow : OpenClaim := { program := "ytoikjfcdpiikbaa", sum := "eff05df3095c166fdb8ae03bc76ee606e24d35f50c1e77ebbd68bb6f7af4971c", func := "medlar/medlarlaw09.SteinerHang", spec := "steinerHang", unfollowed := true, recurses := true, apart := false, narrowed := true }
def SteinerHangUptoSaid : Prop := steinerHangUptoRow.holds Try.pinned (OpenSpec.upto steinerHangSpec)

/-- 'medlarlaw10.WholeBeside', WHERE WHAT IT READS IS OF BULK AT MOST 1048576: true; the input reads as it did. -/
def wholeBesideUptoRow : OpenClaim := { program := "ytoikjfcdpiikbaa", sum := "eff05df3095c166fdb8ae03bc76ee606e24d35f50c1e77ebbd68bb6f7af4971c", func := "medlar/medlarlaw10.WholeBeside", spec := "wholeBeside", unfollowed := true, recurses := true, apart := false, narrowed := true }
def WholeBesideUptoSaid : Prop := wholeBesideUptoRow.holds Try.pinned (OpenSpec.upto wholeBesideSpec)

/-- 'medlarlaw10.WholeDoes', WHERE WHAT IT READS IS OF BULK AT MOST 1048576: true; the input reads as it did. -/
def wholeDoesUptoRow : OpenClaim := { program := "ytoikjfcdpiikbaa", sum := "eff05df3095c166fdb8ae03bc76ee606e24d35f50c1e77ebbd68bb6f7af4971c", func := "medlar/medlarlaw10.WholeDoes", spec := "wholeDoes", unfollowed := true, recurses := true, apart := false, narrowed := true }
def WholeDoesUptoSaid : Prop := wholeDoesUptoRow.holds Try.pinned (OpenSpec.upto wholeDoesSpec)

/-- 'medlarlaw10.WholeBound', WHERE WHAT IT READS IS OF BULK AT MOST 1048576: true; the input reads as it did. -/
def wholeBoundUptoRow : OpenClaim := { program := "ytoikjfcdpiikbaa", sum := "eff05df3095c166fdb8ae03bc76ee606e24d35f50c1e77ebbd68bb6f7af4971c", func := "medlar/medlarlaw10.WholeBound", spec := "wholeBound", unfollowed := true, recurses := true, apart := false, narrowed := true }
def WholeBoundUptoSaid : Prop := wholeBoundUptoRow.holds Try.pinned (OpenSpec.upto wholeBoundSpec)

/-- 'medlarlaw09.SteinerAbove', WHERE WHAT IT READS IS OF BULK AT MOST 1048576: true; the input reads as it did. -/
def steinerAboveUptoRow : OpenClaim := { program := "ytoikjfcdpiikbaa", sum := "eff05df3095c166fdb8ae03bc76ee606e24d35f50c1e77ebbd68bb6f7af4971c", func := "medlar/medlarlaw09.SteinerAbove", spec := "steinerAbove", unfollowed := true, recurses := true, apart := false, narrowed := true }
def SteinerAboveUptoSaid : Prop := steinerAboveUptoRow.holds Try.pinned (OpenSpec.upto steinerAboveSpec)

/-- 'medlarlaw09.SteinerDoes', WHERE WHAT IT READS IS OF BULK AT MOST 1048576: true; the input reads as it did. -/
def steinerDoesUptoRow : OpenClaim := { program := "ytoikjfcdpiikbaa", sum := "eff05df3095c166fdb8ae03bc76ee606e24d35f50c1e77ebbd68bb6f7af4971c", func := "medlar/medlarlaw09.SteinerDoes", spec := "steinerDoes", unfollowed := true, recurses := true, apart := false, narrowed := true }
def SteinerDoesUptoSaid : Prop := steinerDoesUptoRow.holds Try.pinned (OpenSpec.upto steinerDoesSpec)

/-- 'medlarlaw09.SteinerForks', WHERE WHAT IT READS IS OF BULK AT MOST 1048576: true; the input reads as it did. -/
def steinerForksUptoRow : OpenClaim := { program := "ytoikjfcdpiikbaa", sum := "eff05df3095c166fdb8ae03bc76ee606e24d35f50c1e77ebbd68bb6f7af4971c", func := "medlar/medlarlaw09.SteinerForks", spec := "steinerForks", unfollowed := true, recurses := true, apart := false, narrowed := true }
def SteinerForksUptoSaid : Prop := steinerForksUptoRow.holds Try.pinned (OpenSpec.upto steinerForksSpec)

/-- 'medlarlaw10.WholeCovers', WHERE WHAT IT READS IS OF BULK AT MOST 1048576: true; the input reads as it did. -/
def wholeCoversUptoRow : OpenClaim := { program := "ytoikjfcdpiikbaa", sum := "eff05df3095c166fdb8ae03bc76ee606e24d35f50c1e77ebbd68bb6f7af4971c", func := "medlar/medlarlaw10.WholeCovers", spec := "wholeCovers", unfollowed := true, recurses := true, apart := false, narrowed := true }
def WholeCoversUptoSaid : Prop := wholeCoversUptoRow.holds Try.pinned (OpenSpec.upto wholeCoversSpec)

/-- 'medlarlaw09.SteinerDown', WHERE WHAT IT READS IS OF BULK AT MOST 1048576: true; the input reads as it did. -/
def steinerDownUptoRow : OpenClaim := { program := "ytoikjfcdpiikbaa", sum := "eff05df3095c166fdb8ae03bc76ee606e24d35f50c1e77ebbd68bb6f7af4971c", func := "medlar/medlarlaw09.SteinerDown", spec := "steinerDown", inPlace := ["slices.overlaps[uint64]"], unfollowed := true, recurses := true, apart := false, narrowed := true }
def SteinerDownUptoSaid : Prop := steinerDownUptoRow.holds Try.pinned (OpenSpec.upto steinerDownSpec)

/-- 'medlarlaw10.WholeMore', WHERE WHAT IT READS IS OF BULK AT MOST 1048576: true; the input reads as it did. -/
def wholeMoreUptoRow : OpenClaim := { program := "ytoikjfcdpiikbaa", sum := "eff05df3095c166fdb8ae03bc76ee606e24d35f50c1e77ebbd68bb6f7af4971c", func := "medlar/medlarlaw10.WholeMore", spec := "wholeMore", inPlace := ["slices.overlaps[uint64]"], unfollowed := true, recurses := true, apart := false, narrowed := true }
def WholeMoreUptoSaid : Prop := wholeMoreUptoRow.holds Try.pinned (OpenSpec.upto wholeMoreSpec)

end Rows
end Go.Proofs.Ytoikjfcdpiikbaa
