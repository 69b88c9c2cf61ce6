/-
  No cell of these rows narrows 'for every input' (looked for: loops, veiled, ifaces, maps, wideKeys, modest, calm, conditions, laid).
  DERIVED. THE GIVEN ROWS OF THIS SEAT. 11 by the template 'for every input the law returns true; each argument reads behind the call as it read before'; 0 by the template 'total and deterministic' (their statements: YtmffkfakcbopcaaTotals.lean).
  GIVEN WITH THE SEED: the statements are not yours to turn. If you find one false, say at which input.
  Laid BY PROGRAM, IN A SANDBOX (cutbox-rows.mjs): the forced cells as the released guide's own fill.sh prints them over the translation f2751694bf0bc449… (all of the seat's roots in one cut). By AI agents, Wed Nov 11 2026. No macro, syntax, notation, axiom, sorry.
-/
import Derived.Test.YtmffkfakcbopcaaChecked
import GoSem.Claim
import GoSem.ClaimJoined
import GoSem.ClaimMapViews
import Derived.JoinedTies
import Derived.KernelRfl
namespace Go.Proofs.Ytmffkfakcbopcaa
/- THE CELL 'sum', in the pinned program and in every row, IS THE sha256 OF THE DUMP (.gsa) THAT YtmffkfakcbopcaaProg.lean LOADS. Nothing in Lean hashes anything: it is a label: what it is worth is what the hold of that sum in a sandbox is worth. -/
noncomputable def Try.pinned : Pinned := { name := "ytmffkfakcbopcaa", sum := "f2751694bf0bc44914af748bd195460aae41e5ed1d584eb42c5f620565266c0f", checked := Try.checked }
namespace Rows
def none {H : Type} : Left H := { results := [], args := [] }

/-- 'medlarlaw11.DiffDoes': WHATEVER THE INPUT: true; the input reads as it did. -/
def diffDoesSpec : ChangeSpec := { name := "diffDoes", fn := fun _ => fun
  | [d1, d2, d3] => { results := [.lit (.bool true)], args := [d1, d2, d3] }
  | _ => none }
def diffDoesRow : OpenClaim := { program := "ytmffkfakcbopcaa", sum := "f2751694bf0bc44914af748bd195460aae41e5ed1d584eb42c5f620565266c0f", func := "medlar/medlarlaw11.DiffDoes", spec := "diffDoes", unfollowed := true, recurses := true, apart := false }
def DiffDoesSaid : Prop := diffDoesRow.holds Try.pinned (OpenSpec.ofChange diffDoesSpec)

/-- ITS FALSE NEIGHBOUR: 'it returns false'. Refute it at one input. -/
def diffDoesWrong : ChangeSpec := { name := "diffDoes", fn := fun _ => fun
  | [d1, d2, d3] => { results := [.lit (.bool false)], args := [d1, d2, d3] }
  | _ => none }
def DiffDoesWrongFalsely : Prop := diffDoesRow.holds Try.pinned (OpenSpec.ofChange diffDoesWrong)

/-- 'medlarlaw11.DiffNone': WHATEVER THE INPUT: true; the input reads as it did. -/
def diffNoneSpec : ChangeSpec := { name := "diffNone", fn := fun _ => fun
  | [d1, d2] => { results := [.lit (.bool true)], args := [d1, d2] }
  | _ => none }
def diffNoneRow : OpenClaim := { program := "ytmffkfakcbopcaa", sum := "f2751694bf0bc44914af748bd195460aae41e5ed1d584eb42c5f620565266c0f", func := "medlar/medlarlaw11.DiffNone", spec := "diffNone", unfollowed := true, recurses := true, apart := false }
def DiffNoneSaid : Prop := diffNoneRow.holds Try.pinned (OpenSpec.ofChange diffNoneSpec)

/-- ITS FALSE NEIGHBOUR: 'it returns false'. Refute it at one input. -/
def diffNoneWrong : ChangeSpec := { name := "diffNone", fn := fun _ => fun
  | [d1, d2] => { results := [.lit (.bool false)], args := [d1, d2] }
  | _ => none }
def DiffNoneWrongFalsely : Prop := diffNoneRow.holds Try.pinned (OpenSpec.ofChange diffNoneWrong)

/-- 'medlarlaw11.DiffTops': WHATEVER THE INPUT: true; the input reads as it did. -/
def diffTopsSpec : ChangeSpec := { name := "diffTops", fn := fun _ => fun
  | [d1, d2] => { results := [.lit (.bool true)], args := [d1, d2] }
  | _ => none }
def diffTopsRow : OpenClaim := { program := "ytmffkfakcbopcaa", sum := "f2751694bf0bc44914af748bd195460aae41e5ed1d584eb42c5f620565266c0f", func := "medlar/medlarlaw11.DiffTops", spec := "diffTops", unfollowed := true, recurses := true, apart := false }
def DiffTopsSaid : Prop := diffTopsRow.holds Try.pinned (OpenSpec.ofChange diffTopsSpec)

/-- ITS FALSE NEIGHBOUR: 'it returns false'. Refute it at one input. -/
def diffTopsWrong : ChangeSpec := { name := "diffTops", fn := fun _ => fun
  | [d1, d2] => { results := [.lit (.bool false)], args := [d1, d2] }
  | _ => none }
def DiffTopsWrongFalsely : Prop := diffTopsRow.holds Try.pinned (OpenSpec.ofChange diffTopsWrong)

/-- 'medlarlaw11.DiffCovers': WHATEVER THE INPUT: true; the input reads as it did. -/
def diffCoversSpec : ChangeSpec := { name := "diffCovers", fn := fun _ => fun
  | [d1, d2, d3] => { results := [.lit (.bool true)], args := [d1, d2, d3] }
  | _ => none }
def diffCoversRow : OpenClaim := { program := "ytmffkfakcbopcaa", sum := "f2751694bf0bc44914af748bd195460aae41e5ed1d584eb42c5f620565266c0f", func := "medlar/medlarlaw11.DiffCovers", spec := "diffCovers", unfollowed := true, recurses := true, apart := false }
def DiffCoversSaid : Prop := diffCoversRow.holds Try.pinned (OpenSpec.ofChange diffCoversSpec)

/-- ITS FALSE NEIGHBOUR: 'it returns false'. Refute it at one input. -/
def diffCoversWrong : ChangeSpec := { name := "diffCovers", fn := fun _ => fun
  | [d1, d2, d3] => { results := [.lit (.bool false)], args := [d1, d2, d3] }
  | _ => none }
def DiffCoversWrongFalsely : Prop := diffCoversRow.holds Try.pinned (OpenSpec.ofChange diffCoversWrong)

/-- 'medlarlaw11.DiffFewer': WHATEVER THE INPUT: true; the input reads as it did. -/
def diffFewerSpec : ChangeSpec := { name := "diffFewer", fn := fun _ => fun
  | [d1, d2] => { results := [.lit (.bool true)], args := [d1, d2] }
  | _ => none }
def diffFewerRow : OpenClaim := { program := "ytmffkfakcbopcaa", sum := "f2751694bf0bc44914af748bd195460aae41e5ed1d584eb42c5f620565266c0f", func := "medlar/medlarlaw11.DiffFewer", spec := "diffFewer", unfollowed := true, recurses := true, apart := false }
def DiffFewerSaid : Prop := diffFewerRow.holds Try.pinned (OpenSpec.ofChange diffFewerSpec)

/-- ITS FALSE NEIGHBOUR: 'it returns false'. Refute it at one input. -/
def diffFewerWrong : ChangeSpec := { name := "diffFewer", fn := fun _ => fun
  | [d1, d2] => { results := [.lit (.bool false)], args := [d1, d2] }
  | _ => none }
def DiffFewerWrongFalsely : Prop := diffFewerRow.holds Try.pinned (OpenSpec.ofChange diffFewerWrong)

/-- 'medlarlaw12.LayerOrder': WHATEVER THE INPUT: true; the input reads as it did. -/
def layerOrderSpec : ChangeSpec := { name := "layerOrder", fn := fun _ => fun
  | [d] => { results := [.lit (.bool true)], args := [d] }
  | _ => none }
def layerOrderRow : OpenClaim := { program := "ytmffkfakcbopcaa", sum := "f2751694bf0bc44914af748bd195460aae41e5ed1d584eb42c5f620565266c0f", func := "medlar/medlarlaw12.LayerOrder", spec := "layerOrder", unfollowed := true, recurses := true, apart := false }
def LayerOrderSaid : Prop := layerOrderRow.holds Try.pinned (OpenSpec.ofChange layerOrderSpec)

/-- ITS FALSE NEIGHBOUR: 'it returns false'. Refute it at one input. -/
def layerOrderWrong : ChangeSpec := { name := "layerOrder", fn := fun _ => fun
  | [d] => { results := [.lit (.bool false)], args := [d] }
  | _ => none }
def LayerOrderWrongFalsely : Prop := layerOrderRow.holds Try.pinned (OpenSpec.ofChange layerOrderWrong)

/-- 'medlarlaw12.LayerPairs': WHATEVER THE INPUT: true; the input reads as it did. -/
def layerPairsSpec : ChangeSpec := { name := "layerPairs", fn := fun _ => fun
  | [d] => { results := [.lit (.bool true)], args := [d] }
  | _ => none }
def layerPairsRow : OpenClaim := { program := "ytmffkfakcbopcaa", sum := "f2751694bf0bc44914af748bd195460aae41e5ed1d584eb42c5f620565266c0f", func := "medlar/medlarlaw12.LayerPairs", spec := "layerPairs", unfollowed := true, recurses := true, apart := false }
def LayerPairsSaid : Prop := layerPairsRow.holds Try.pinned (OpenSpec.ofChange layerPairsSpec)

/-- ITS FALSE NEIGHBOUR: 'it returns false'. Refute it at one input. -/
def layerPairsWrong : ChangeSpec := { name := "layerPairs", fn := fun _ => fun
  | [d] => { results := [.lit (.bool false)], args := [d] }
  | _ => none }
def LayerPairsWrongFalsely : Prop := layerPairsRow.holds Try.pinned (OpenSpec.ofChange layerPairsWrong)

/-- 'medlarlaw12.LayerBound': WHATEVER THE INPUT: true; the input reads as it did. -/
def layerBoundSpec : ChangeSpec := { name := "layerBound", fn := fun _ => fun
  | [d1, d2] => { results := [.lit (.bool true)], args := [d1, d2] }
  | _ => none }
def layerBoundRow : OpenClaim := { program := "ytmffkfakcbopcaa", sum := "f2751694bf0bc44914af748bd195460aae41e5ed1d584eb42c5f620565266c0f", func := "medlar/medlarlaw12.LayerBound", spec := "layerBound", unfollowed := true, recurses := true, apart := false }
def LayerBoundSaid : Prop := layerBoundRow.holds Try.pinned (OpenSpec.ofChange layerBoundSpec)

/-- ITS FALSE NEIGHBOUR: 'it returns false'. Refute it at one input. -/
def layerBoundWrong : ChangeSpec := { name := "layerBound", fn := fun _ => fun
  | [d1, d2] => { results := [.lit (.bool false)], args := [d1, d2] }
  | _ => none }
def LayerBoundWrongFalsely : Prop := layerBoundRow.holds Try.pinned (OpenSpec.ofChange layerBoundWrong)

/-- 'medlarlaw12.LayerParts': WHATEVER THE INPUT: true; the input reads as it did. -/
def layerPartsSpec : ChangeSpec := { name := "layerParts", fn := fun _ => fun
  | [d1, d2] => { results := [.lit (.bool true)], args := [d1, d2] }
  | _ => none }
def layerPartsRow : OpenClaim := { program := "ytmffkfakcbopcaa", sum := "f2751694bf0bc44914af748bd195460aae41e5ed1d584eb42c5f620565266c0f", func := "medlar/medlarlaw12.LayerParts", spec := "layerParts", unfollowed := true, recurses := true, apart := false }
def LayerPartsSaid : Prop := layerPartsRow.holds Try.pinned (OpenSpec.ofChange layerPartsSpec)

/-- ITS FALSE NEIGHBOUR: 'it returns false'. Refute it at one input. -/
def layerPartsWrong : ChangeSpec := { name := "layerParts", fn := fun _ => fun
  | [d1, d2] => { results := [.lit (.bool false)], args := [d1, d2] }
  | _ => none }
def LayerPartsWrongFalsely : Prop := layerPartsRow.holds Try.pinned (OpenSpec.ofChange layerPartsWrong)

/-- 'medlarlaw12.LayerCovers': WHATEVER THE INPUT: true; the input reads as it did. -/
def layerCoversSpec : ChangeSpec := { name := "layerCovers", fn := fun _ => fun
  | [d1, d2, d3, d4] => { results := [.lit (.bool true)], args := [d1, d2, d3, d4] }
  | _ => none }
def layerCoversRow : OpenClaim := { program := "ytmffkfakcbopcaa", sum := "f2751694bf0bc44914af748bd195460aae41e5ed1d584eb42c5f620565266c0f", func := "medlar/medlarlaw12.LayerCovers", spec := "layerCovers", unfollowed := true, recurses := true, apart := false }
def LayerCoversSaid : Prop := layerCoversRow.holds Try.pinned (OpenSpec.ofChange layerCoversSpec)

/-- ITS FALSE NEIGHBOUR: 'it returns false'. Refute it at one input. -/
def layerCoversWrong : ChangeSpec := { name := "layerCovers", fn := fun _ => fun
  | [d1, d2, d3, d4] => { results := [.lit (.bool false)], args := [d1, d2, d3, d4] }
  | _ => none }
def LayerCoversWrongFalsely : Prop := layerCoversRow.holds Try.pinned (OpenSpec.ofChange layerCoversWrong)

/-- 'medlarlaw16.HeadCover': WHATEVER THE INPUT: true; the input reads as it did. -/
def headCoverSpec : ChangeSpec := { name := "headCover", fn := fun _ => fun
  | [d1, d2, d3, d4, d5, d6] => { results := [.lit (.bool true)], args := [d1, d2, d3, d4, d5, d6] }
  | _ => none }
def headCoverRow : OpenClaim := { program := "ytmffkfakcbopcaa", sum := "f2751694bf0bc44914af748bd195460aae41e5ed1d584eb42c5f620565266c0f", func := "medlar/medlarlaw16.HeadCover", spec := "headCover", unfollowed := true, recurses := true, apart := false }
def HeadCoverSaid : Prop := headCoverRow.holds Try.pinned (OpenSpec.ofChange headCoverSpec)

/-- ITS FALSE NEIGHBOUR: 'it returns false'. Refute it at one input. -/
def headCoverWrong : ChangeSpec := { name := "headCover", fn := fun _ => fun
  | [d1, d2, d3, d4, d5, d6] => { results := [.lit (.bool false)], args := [d1, d2, d3, d4, d5, d6] }
  | _ => none }
def HeadCoverWrongFalsely : Prop := headCoverRow.holds Try.pinned (OpenSpec.ofChange headCoverWrong)

/- THE SECOND FORM. 'bulk': how many values and letters a reading holds, each counted each time it is reached (what is shared counts as often as it is met; a slice's spare places count too). A statement '..UptoSaid' is the law's where the arguments, and the package variables that the reading takes, are together of bulk at most 1048576: NARROWER than '..Said'. Prove '..Said' where nothing that the law and all that it calls make is longer than what came in: it says more and counts as full. Else prove '..UptoSaid'. A law counts once. -/
mutual
def uptoBulk {H : Type} : DataW H → Nat
  | .lit (.string bytes) => bytes.length + 1
  | .lit _ => 1
  | .nil => 1
  | .ptr d => uptoBulk d + 1
  | .slice elems spare => uptoBulkAll elems + uptoBulkAll spare + 1
  | .agg parts => uptoBulkAll parts + 1
  | .iface _ d => uptoBulk d + 1
  | .map entries => uptoBulkEntries entries + 1
  | .held _ => 1
def uptoBulkAll {H : Type} : List (DataW H) → Nat
  | [] => 0
  | d :: r => uptoBulk d + uptoBulkAll r
def uptoBulkEntries {H : Type} : List (Lit × DataW H) → Nat
  | [] => 0
  | x :: r => uptoBulkEntry x + uptoBulkEntries r
def uptoBulkEntry {H : Type} : Lit × DataW H → Nat
  | (.string bytes, d) => bytes.length + uptoBulk d + 1
  | (_, d) => uptoBulk d + 1
 end
def uptoSmall : (H : Type) → List (DataW H) → Bool := fun _ ds => decide (uptoBulkAll ds ≤ 1048576)
def OpenSpec.upto (s : _root_.Go.ChangeSpec) : _root_.Go.OpenSpec := { _root_.Go.OpenSpec.ofChange s with cond := some uptoSmall }

/-- 'medlarlaw11.DiffDoes', WHERE WHAT IT READS IS OF BULK AT MOST 1048576: true; the input reads as it did. -/
def diffDoesUptoRow : OpenClaim := { program := "ytmffkfakcbopcaa", sum := "f2751694bf0bc44914af748bd195460aae41e5ed1d584eb42c5f620565266c0f", func := "medlar/medlarlaw11.DiffDoes", spec := "diffDoes", unfollowed := true, recurses := true, apart := false, narrowed := true }
def DiffDoesUptoSaid : Prop := diffDoesUptoRow.holds Try.pinned (OpenSpec.upto diffDoesSpec)

/-- 'medlarlaw11.DiffNone', WHERE WHAT IT READS IS OF BULK AT MOST 1048576: true; the input reads as it did. -/
def diffNoneUptoRow : OpenClaim := { program := "ytmffkfakcbopcaa", sum := "f2751694bf0bc44914af748bd195460aae41e5ed1d584eb42c5f620565266c0f", func := "medlar/medlarlaw11.DiffNone", spec := "diffNone", unfollowed := true, recurses := true, apart := false, narrowed := true }
def DiffNoneUptoSaid : Prop := diffNoneUptoRow.holds Try.pinned (OpenSpec.upto diffNoneSpec)

/-- 'medlarlaw11.DiffTops', WHERE WHAT IT READS IS OF BULK AT MOST 1048576: true; the input reads as it did. -/
def diffTopsUptoRow : OpenClaim := { program := "ytmffkfakcbopcaa", sum := "f2751694bf0bc44914af748bd195460aae41e5ed1d584eb42c5f620565266c0f", func := "medlar/medlarlaw11.DiffTops", spec := "diffTops", unfollowed := true, recurses := true, apart := false, narrowed := true }
def DiffTopsUptoSaid : Prop := diffTopsUptoRow.holds Try.pinned (OpenSpec.upto diffTopsSpec)

/-- 'medlarlaw11.DiffCovers', WHERE WHAT IT READS IS OF BULK AT MOST 1048576: true; the input reads as it did. -/
def diffCoversUptoRow : OpenClaim := { program := "ytmffkfakcbopcaa", sum := "f2751694bf0bc44914af748bd195460aae41e5ed1d584eb42c5f620565266c0f", func := "medlar/medlarlaw11.DiffCovers", spec := "diffCovers", unfollowed := true, recurses := true, apart := false, narrowed := true }
def DiffCoversUptoSaid : Prop := diffCoversUptoRow.holds Try.pinned (OpenSpec.upto diffCoversSpec)

/-- 'medlarlaw11.DiffFewer', WHERE WHAT IT READS IS OF BULK AT MOST 1048576: true; the input reads as it did. -/
def diffFewerUptoRow : OpenClaim := { program := "ytmffkfakcbopcaa", sum := "f2751694bf0bc44914af748bd195460aae41e5ed1d584eb42c5f620565266c0f", func := "medlar/medlarlaw11.DiffFewer", spec := "diffFewer", unfollowed := true, recurses := true, apart := false, narrowed := true }
def DiffFewerUptoSaid : Prop := diffFewerUptoRow.holds Try.pinned (OpenSpec.upto diffFewerSpec)

/-- 'medlarlaw12.LayerOrder', WHERE WHAT IT READS IS OF BULK AT MOST 1048576: true; the input reads as it did. -/
def layerOrderUptoRow : OpenClaim := { program := "ytmffkfakcbopcaa", sum := "f2751694bf0bc44914af748bd195460aae41e5ed1d584eb42c5f620565266c0f", func := "medlar/medlarlaw12.LayerOrder", spec := "layerOrder", unfollowed := true, recurses := true, apart := false, narrowed := true }
def LayerOrderUptoSaid : Prop := layerOrderUptoRow.holds Try.pinned (OpenSpec.upto layerOrderSpec)

/-- 'medlarlaw12.LayerPairs', WHERE WHAT IT READS IS OF BULK AT MOST 1048576: true; the input reads as it did. -/
def layerPairsUptoRow : OpenClaim := { program := "ytmffkfakcbopcaa", sum := "f2751694bf0bc44914af748bd195460aae41e5ed1d584eb42c5f620565266c0f", func := "medlar/medlarlaw12.LayerPairs", spec := "layerPairs", unfollowed := true, recurses := true, apart := false, narrowed := true }
def LayerPairsUptoSaid : Prop := layerPairsUptoRow.holds Try.pinned (OpenSpec.upto layerPairsSpec)

/-- 'medlarlaw12.LayerBound', WHERE WHAT IT READS IS OF BULK AT MOST 1048576: true; the input reads as it did. -/
def layerBoundUptoRow : OpenClaim := { program := "ytmffkfakcbopcaa", sum := "f2751694bf0bc44914af748bd195460aae41e5ed1d584eb42c5f620565266c0f", func := "medlar/medlarlaw12.LayerBound", spec := "layerBound", unfollowed := true, recurses := true, apart := false, narrowed := true }
def LayerBoundUptoSaid : Prop := layerBoundUptoRow.holds Try.pinned (OpenSpec.upto layerBoundSpec)

/-- 'medlarlaw12.LayerParts', WHERE WHAT IT READS IS OF BULK AT MOST 1048576: true; the input reads as it did. -/
def layerPartsUptoRow : OpenClaim := { program := "ytmffkfakcbopcaa", sum := "f2751694bf0bc44914af748bd195460aae41e5ed1d584eb42c5f620565266c0f", func := "medlar/medlarlaw12.LayerParts", spec := "layerParts", unfollowed := true, recurses := true, apart := false, narrowed := true }
def LayerPartsUptoSaid : Prop := layerPartsUptoRow.holds Try.pinned (OpenSpec.upto layerPartsSpec)

/-- 'medlarlaw12.LayerCovers', WHERE WHAT IT READS IS OF BULK AT MOST 1048576: true; the input reads as it did. -/
def layerCoversUptoRow : OpenClaim := { program := "ytmffkfakcbopcaa", sum := "f2751694bf0bc44914af748bd195460aae41e5ed1d584eb42c5f620565266c0f", func := "medlar/medlarlaw12.LayerCovers", spec := "layerCovers", unfollowed := true, recurses := true, apart := false, narrowed := true }
def LayerCoversUptoSaid : Prop := layerCoversUptoRow.holds Try.pinned (OpenSpec.upto layerCoversSpec)

/-- 'medlarlaw16.HeadCover', WHERE WHAT IT READS IS OF BULK AT MOST 1048576: true; the input reads as it did. -/
def headCoverUptoRow : OpenClaim := { program := "ytmffkfakcbopcaa", sum := "f2751694bf0bc44914af748bd195460aae41e5ed1d584eb42c5f620565266c0f", func := "medlar/medlarlaw16.HeadCover", spec := "headCover", unfollowed := true, recurses := true, apart := false, narrowed := true }
def HeadCoverUptoSaid : Prop := headCoverUptoRow.holds Try.pinned (OpenSpec.upto headCoverSpec)

end Rows
end Go.Proofs.Ytmffkfakcbopcaa
