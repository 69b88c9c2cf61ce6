/-
  No cell of these rows narrows 'for every input' (looked for: loops, veiled, ifaces, maps, wideKeys, modest, calm, conditions, laid).
  DERIVED. THE GIVEN ROWS OF THIS SEAT. 11 by the template 'for every input the law returns true; each argument reads behind the call as it read before'; 0 by the template 'total and deterministic' (their statements: YtccmoohcpaohmaaTotals.lean).
  GIVEN WITH THE SEED: the statements are not yours to turn. If you find one false, say at which input.
  Laid BY PROGRAM, IN A SANDBOX (cutbox-rows.mjs): the forced cells as the released guide's own fill.sh prints them over the translation 387f43d317ec7ee1… (all of the seat's roots in one cut). By AI agents, Wed Nov 11 2026. No macro, syntax, notation, axiom, sorry.
-/
import Derived.Test.YtccmoohcpaohmaaChecked
import GoSem.Claim
import GoSem.ClaimJoined
import GoSem.ClaimMapViews
import Derived.JoinedTies
import Derived.KernelRfl
namespace Go.Proofs.Ytccmoohcpaohmaa
/- THE CELL 'sum', in the pinned program and in every row, IS THE sha256 OF THE DUMP (.gsa) THAT YtccmoohcpaohmaaProg.lean LOADS. Nothing in Lean hashes anything: it is a label: what it is worth is what the hold of that sum in a sandbox is worth. -/
noncomputable def Try.pinned : Pinned := { name := "ytccmoohcpaohmaa", sum := "387f43d317ec7ee136879a4a470455de3f52ed44bcd3e357a45a1184a878b648", checked := Try.checked }
namespace Rows
def none {H : Type} : Left H := { results := [], args := [] }

/-- 'medlarlaw08.SubUses': WHATEVER THE INPUT: true; the input reads as it did. -/
def subUsesSpec : ChangeSpec := { name := "subUses", fn := fun _ => fun
  | [d1, d2] => { results := [.lit (.bool true)], args := [d1, d2] }
  | _ => none }
def subUsesRow : OpenClaim := { program := "ytccmoohcpaohmaa", sum := "387f43d317ec7ee136879a4a470455de3f52ed44bcd3e357a45a1184a878b648", func := "medlar/medlarlaw08.SubUses", spec := "subUses", recurses := true, plainKeys := false, apart := false }
def SubUsesSaid : Prop := subUsesRow.holds Try.pinned (OpenSpec.ofChange subUsesSpec)

/-- ITS FALSE NEIGHBOUR: 'it returns false'. Refute it at one input. -/
def subUsesWrong : ChangeSpec := { name := "subUses", fn := fun _ => fun
  | [d1, d2] => { results := [.lit (.bool false)], args := [d1, d2] }
  | _ => none }
def SubUsesWrongFalsely : Prop := subUsesRow.holds Try.pinned (OpenSpec.ofChange subUsesWrong)

/-- 'medlarlaw08.SubWhole': WHATEVER THE INPUT: true; the input reads as it did. -/
def subWholeSpec : ChangeSpec := { name := "subWhole", fn := fun _ => fun
  | [d1, d2] => { results := [.lit (.bool true)], args := [d1, d2] }
  | _ => none }
def subWholeRow : OpenClaim := { program := "ytccmoohcpaohmaa", sum := "387f43d317ec7ee136879a4a470455de3f52ed44bcd3e357a45a1184a878b648", func := "medlar/medlarlaw08.SubWhole", spec := "subWhole", plainKeys := false, apart := false }
def SubWholeSaid : Prop := subWholeRow.holds Try.pinned (OpenSpec.ofChange subWholeSpec)

/-- ITS FALSE NEIGHBOUR: 'it returns false'. Refute it at one input. -/
def subWholeWrong : ChangeSpec := { name := "subWhole", fn := fun _ => fun
  | [d1, d2] => { results := [.lit (.bool false)], args := [d1, d2] }
  | _ => none }
def SubWholeWrongFalsely : Prop := subWholeRow.holds Try.pinned (OpenSpec.ofChange subWholeWrong)

/-- 'medlarlaw08.SubLess': WHATEVER THE INPUT: true; the input reads as it did. -/
def subLessSpec : ChangeSpec := { name := "subLess", fn := fun _ => fun
  | [d1, d2, d3, d4] => { results := [.lit (.bool true)], args := [d1, d2, d3, d4] }
  | _ => none }
def subLessRow : OpenClaim := { program := "ytccmoohcpaohmaa", sum := "387f43d317ec7ee136879a4a470455de3f52ed44bcd3e357a45a1184a878b648", func := "medlar/medlarlaw08.SubLess", spec := "subLess", plainKeys := false, apart := false }
def SubLessSaid : Prop := subLessRow.holds Try.pinned (OpenSpec.ofChange subLessSpec)

/-- ITS FALSE NEIGHBOUR: 'it returns false'. Refute it at one input. -/
def subLessWrong : ChangeSpec := { name := "subLess", fn := fun _ => fun
  | [d1, d2, d3, d4] => { results := [.lit (.bool false)], args := [d1, d2, d3, d4] }
  | _ => none }
def SubLessWrongFalsely : Prop := subLessRow.holds Try.pinned (OpenSpec.ofChange subLessWrong)

/-- 'medlarlaw08.SubLeaves': WHATEVER THE INPUT: true; the input reads as it did. -/
def subLeavesSpec : ChangeSpec := { name := "subLeaves", fn := fun _ => fun
  | [d1, d2, d3] => { results := [.lit (.bool true)], args := [d1, d2, d3] }
  | _ => none }
def subLeavesRow : OpenClaim := { program := "ytccmoohcpaohmaa", sum := "387f43d317ec7ee136879a4a470455de3f52ed44bcd3e357a45a1184a878b648", func := "medlar/medlarlaw08.SubLeaves", spec := "subLeaves", unfollowed := true, recurses := true, plainKeys := false, apart := false }
def SubLeavesSaid : Prop := subLeavesRow.holds Try.pinned (OpenSpec.ofChange subLeavesSpec)

/-- ITS FALSE NEIGHBOUR: 'it returns false'. Refute it at one input. -/
def subLeavesWrong : ChangeSpec := { name := "subLeaves", fn := fun _ => fun
  | [d1, d2, d3] => { results := [.lit (.bool false)], args := [d1, d2, d3] }
  | _ => none }
def SubLeavesWrongFalsely : Prop := subLeavesRow.holds Try.pinned (OpenSpec.ofChange subLeavesWrong)

/-- 'medlarlaw08.SubSplits': WHATEVER THE INPUT: true; the input reads as it did. -/
def subSplitsSpec : ChangeSpec := { name := "subSplits", fn := fun _ => fun
  | [d1, d2, d3] => { results := [.lit (.bool true)], args := [d1, d2, d3] }
  | _ => none }
def subSplitsRow : OpenClaim := { program := "ytccmoohcpaohmaa", sum := "387f43d317ec7ee136879a4a470455de3f52ed44bcd3e357a45a1184a878b648", func := "medlar/medlarlaw08.SubSplits", spec := "subSplits", unfollowed := true, recurses := true, plainKeys := false, apart := false }
def SubSplitsSaid : Prop := subSplitsRow.holds Try.pinned (OpenSpec.ofChange subSplitsSpec)

/-- ITS FALSE NEIGHBOUR: 'it returns false'. Refute it at one input. -/
def subSplitsWrong : ChangeSpec := { name := "subSplits", fn := fun _ => fun
  | [d1, d2, d3] => { results := [.lit (.bool false)], args := [d1, d2, d3] }
  | _ => none }
def SubSplitsWrongFalsely : Prop := subSplitsRow.holds Try.pinned (OpenSpec.ofChange subSplitsWrong)

/-- 'medlarlaw08.SubTouches': WHATEVER THE INPUT: true; the input reads as it did. -/
def subTouchesSpec : ChangeSpec := { name := "subTouches", fn := fun _ => fun
  | [d1, d2, d3, d4] => { results := [.lit (.bool true)], args := [d1, d2, d3, d4] }
  | _ => none }
def subTouchesRow : OpenClaim := { program := "ytccmoohcpaohmaa", sum := "387f43d317ec7ee136879a4a470455de3f52ed44bcd3e357a45a1184a878b648", func := "medlar/medlarlaw08.SubTouches", spec := "subTouches", unfollowed := true, recurses := true, plainKeys := false, apart := false }
def SubTouchesSaid : Prop := subTouchesRow.holds Try.pinned (OpenSpec.ofChange subTouchesSpec)

/-- ITS FALSE NEIGHBOUR: 'it returns false'. Refute it at one input. -/
def subTouchesWrong : ChangeSpec := { name := "subTouches", fn := fun _ => fun
  | [d1, d2, d3, d4] => { results := [.lit (.bool false)], args := [d1, d2, d3, d4] }
  | _ => none }
def SubTouchesWrongFalsely : Prop := subTouchesRow.holds Try.pinned (OpenSpec.ofChange subTouchesWrong)

/-- 'medlarlaw08.SubTells': WHATEVER THE INPUT: true; the input reads as it did. -/
def subTellsSpec : ChangeSpec := { name := "subTells", fn := fun _ => fun
  | [d1, d2, d3, d4] => { results := [.lit (.bool true)], args := [d1, d2, d3, d4] }
  | _ => none }
def subTellsRow : OpenClaim := { program := "ytccmoohcpaohmaa", sum := "387f43d317ec7ee136879a4a470455de3f52ed44bcd3e357a45a1184a878b648", func := "medlar/medlarlaw08.SubTells", spec := "subTells", unfollowed := true, recurses := true, plainKeys := false, apart := false }
def SubTellsSaid : Prop := subTellsRow.holds Try.pinned (OpenSpec.ofChange subTellsSpec)

/-- ITS FALSE NEIGHBOUR: 'it returns false'. Refute it at one input. -/
def subTellsWrong : ChangeSpec := { name := "subTells", fn := fun _ => fun
  | [d1, d2, d3, d4] => { results := [.lit (.bool false)], args := [d1, d2, d3, d4] }
  | _ => none }
def SubTellsWrongFalsely : Prop := subTellsRow.holds Try.pinned (OpenSpec.ofChange subTellsWrong)

/-- 'medlarlaw14.StorePairs': WHATEVER THE INPUT: true; the input reads as it did. -/
def storePairsSpec : ChangeSpec := { name := "storePairs", fn := fun _ => fun
  | [d1, d2, d3] => { results := [.lit (.bool true)], args := [d1, d2, d3] }
  | _ => none }
def storePairsRow : OpenClaim := { program := "ytccmoohcpaohmaa", sum := "387f43d317ec7ee136879a4a470455de3f52ed44bcd3e357a45a1184a878b648", func := "medlar/medlarlaw14.StorePairs", spec := "storePairs", recurses := true, plainKeys := false, apart := false }
def StorePairsSaid : Prop := storePairsRow.holds Try.pinned (OpenSpec.ofChange storePairsSpec)

/-- ITS FALSE NEIGHBOUR: 'it returns false'. Refute it at one input. -/
def storePairsWrong : ChangeSpec := { name := "storePairs", fn := fun _ => fun
  | [d1, d2, d3] => { results := [.lit (.bool false)], args := [d1, d2, d3] }
  | _ => none }
def StorePairsWrongFalsely : Prop := storePairsRow.holds Try.pinned (OpenSpec.ofChange storePairsWrong)

/-- 'medlarlaw14.StoreMany': WHATEVER THE INPUT: true; the input reads as it did. -/
def storeManySpec : ChangeSpec := { name := "storeMany", fn := fun _ => fun
  | [d1, d2, d3] => { results := [.lit (.bool true)], args := [d1, d2, d3] }
  | _ => none }
def storeManyRow : OpenClaim := { program := "ytccmoohcpaohmaa", sum := "387f43d317ec7ee136879a4a470455de3f52ed44bcd3e357a45a1184a878b648", func := "medlar/medlarlaw14.StoreMany", spec := "storeMany", plainKeys := false, apart := false }
def StoreManySaid : Prop := storeManyRow.holds Try.pinned (OpenSpec.ofChange storeManySpec)

/-- ITS FALSE NEIGHBOUR: 'it returns false'. Refute it at one input. -/
def storeManyWrong : ChangeSpec := { name := "storeMany", fn := fun _ => fun
  | [d1, d2, d3] => { results := [.lit (.bool false)], args := [d1, d2, d3] }
  | _ => none }
def StoreManyWrongFalsely : Prop := storeManyRow.holds Try.pinned (OpenSpec.ofChange storeManyWrong)

/-- 'medlarlaw14.StoreTwo': WHATEVER THE INPUT: true; the input reads as it did. -/
def storeTwoSpec : ChangeSpec := { name := "storeTwo", fn := fun _ => fun
  | [d1, d2, d3, d4] => { results := [.lit (.bool true)], args := [d1, d2, d3, d4] }
  | _ => none }
def storeTwoRow : OpenClaim := { program := "ytccmoohcpaohmaa", sum := "387f43d317ec7ee136879a4a470455de3f52ed44bcd3e357a45a1184a878b648", func := "medlar/medlarlaw14.StoreTwo", spec := "storeTwo", unfollowed := true, recurses := true, plainKeys := false, apart := false }
def StoreTwoSaid : Prop := storeTwoRow.holds Try.pinned (OpenSpec.ofChange storeTwoSpec)

/-- ITS FALSE NEIGHBOUR: 'it returns false'. Refute it at one input. -/
def storeTwoWrong : ChangeSpec := { name := "storeTwo", fn := fun _ => fun
  | [d1, d2, d3, d4] => { results := [.lit (.bool false)], args := [d1, d2, d3, d4] }
  | _ => none }
def StoreTwoWrongFalsely : Prop := storeTwoRow.holds Try.pinned (OpenSpec.ofChange storeTwoWrong)

/-- 'medlarlaw14.StoreIn': WHATEVER THE INPUT: true; the input reads as it did. -/
def storeInSpec : ChangeSpec := { name := "storeIn", fn := fun _ => fun
  | [d1, d2, d3, d4] => { results := [.lit (.bool true)], args := [d1, d2, d3, d4] }
  | _ => none }
def storeInRow : OpenClaim := { program := "ytccmoohcpaohmaa", sum := "387f43d317ec7ee136879a4a470455de3f52ed44bcd3e357a45a1184a878b648", func := "medlar/medlarlaw14.StoreIn", spec := "storeIn", unfollowed := true, recurses := true, plainKeys := false, apart := false }
def StoreInSaid : Prop := storeInRow.holds Try.pinned (OpenSpec.ofChange storeInSpec)

/-- ITS FALSE NEIGHBOUR: 'it returns false'. Refute it at one input. -/
def storeInWrong : ChangeSpec := { name := "storeIn", fn := fun _ => fun
  | [d1, d2, d3, d4] => { results := [.lit (.bool false)], args := [d1, d2, d3, d4] }
  | _ => none }
def StoreInWrongFalsely : Prop := storeInRow.holds Try.pinned (OpenSpec.ofChange storeInWrong)

/- THE SECOND FORM. 'bulk': how many values and letters a reading holds, each counted each time it is reached (what is shared counts as often as it is met; a slice's spare places count too). A statement '..UptoSaid' is the law's where the arguments, and the package variables that the reading takes, are together of bulk at most 1048576: NARROWER than '..Said'. Prove '..Said' where nothing that the law and all that it calls make is longer than what came in: it says more and counts as full. Else prove '..UptoSaid'. A law counts once. -/
mutual
def uptoBulk {H : Type} : DataW H → Nat
  | .lit (.string bytes) => bytes.length + 1
  | .lit _ => 1
  | .nil => 1
  | .ptr d => uptoBulk d + 1
  | .slice elems spare => uptoBulkAll elems + uptoBulkAll spare + 1
  | .agg parts => uptoBulkAll parts + 1
  | .iface _ d => uptoBulk d + 1
  | .map entries => uptoBulkEntries entries + 1
  | .held _ => 1
def uptoBulkAll {H : Type} : List (DataW H) → Nat
  | [] => 0
  | d :: r => uptoBulk d + uptoBulkAll r
def uptoBulkEntries {H : Type} : List (Lit × DataW H) → Nat
  | [] => 0
  | x :: r => uptoBulkEntry x + uptoBulkEntries r
def uptoBulkEntry {H : Type} : Lit × DataW H → Nat
  | (.string bytes, d) => bytes.length + uptoBulk d + 1
  | (_, d) => uptoBulk d + 1
 end
def uptoSmall : (H : Type) → List (DataW H) → Bool := fun _ ds => decide (uptoBulkAll ds ≤ 1048576)
def OpenSpec.upto (s : _root_.Go.ChangeSpec) : _root_.Go.OpenSpec := { _root_.Go.OpenSpec.ofChange s with cond := some uptoSmall }

/-- 'medlarlaw08.SubUses', WHERE WHAT IT READS IS OF BULK AT MOST 1048576: true; the input reads as it did. -/
def subUsesUptoRow : OpenClaim := { program := "ytccmoohcpaohmaa", sum := "387f43d317ec7ee136879a4a470455de3f52ed44bcd3e357a45a1184a878b648", func := "medlar/medlarlaw08.SubUses", spec := "subUses", recurses := true, plainKeys := false, apart := false, narrowed := true }
def SubUsesUptoSaid : Prop := subUsesUptoRow.holds Try.pinned (OpenSpec.upto subUsesSpec)

/-- 'medlarlaw08.SubWhole', WHERE WHAT IT READS IS OF BULK AT MOST 1048576: true; the input reads as it did. -/
def subWholeUptoRow : OpenClaim := { program := "ytccmoohcpaohmaa", sum := "387f43d317ec7ee136879a4a470455de3f52ed44bcd3e357a45a1184a878b648", func := "medlar/medlarlaw08.SubWhole", spec := "subWhole", plainKeys := false, apart := false, narrowed := true }
def SubWholeUptoSaid : Prop := subWholeUptoRow.holds Try.pinned (OpenSpec.upto subWholeSpec)

/-- 'medlarlaw08.SubLess', WHERE WHAT IT READS IS OF BULK AT MOST 1048576: true; the input reads as it did. -/
def subLessUptoRow : OpenClaim := { program := "ytccmoohcpaohmaa", sum := "387f43d317ec7ee136879a4a470455de3f52ed44bcd3e357a45a1184a878b648", func := "medlar/medlarlaw08.SubLess", spec := "subLess", plainKeys := false, apart := false, narrowed := true }
def SubLessUptoSaid : Prop := subLessUptoRow.holds Try.pinned (OpenSpec.upto subLessSpec)

/-- 'medlarlaw08.SubLeaves', WHERE WHAT IT READS IS OF BULK AT MOST 1048576: true; the input reads as it did. -/
def subLeavesUptoRow : OpenClaim := { program := "ytccmoohcpaohmaa", sum := "387f43d317ec7ee136879a4a470455de3f52ed44bcd3e357a45a1184a878b648", func := "medlar/medlarlaw08.SubLeaves", spec := "subLeaves", unfollowed := true, recurses := true, plainKeys := false, apart := false, narrowed := true }
def SubLeavesUptoSaid : Prop := subLeavesUptoRow.holds Try.pinned (OpenSpec.upto subLeavesSpec)

/-- 'medlarlaw08.SubSplits', WHERE WHAT IT READS IS OF BULK AT MOST 1048576: true; the input reads as it did. -/
def subSplitsUptoRow : OpenClaim := { program := "ytccmoohcpaohmaa", sum := "387f43d317ec7ee136879a4a470455de3f52ed44bcd3e357a45a1184a878b648", func := "medlar/medlarlaw08.SubSplits", spec := "subSplits", unfollowed := true, recurses := true, plainKeys := false, apart := false, narrowed := true }
def SubSplitsUptoSaid : Prop := subSplitsUptoRow.holds Try.pinned (OpenSpec.upto subSplitsSpec)

/-- 'medlarlaw08.SubTouches', WHERE WHAT IT READS IS OF BULK AT MOST 1048576: true; the input reads as it did. -/
def subTouchesUptoRow : OpenClaim := { program := "ytccmoohcpaohmaa", sum := "387f43d317ec7ee136879a4a470455de3f52ed44bcd3e357a45a1184a878b648", func := "medlar/medlarlaw08.SubTouches", spec := "subTouches", unfollowed := true, recurses := true, plainKeys := false, apart := false, narrowed := true }
def SubTouchesUptoSaid : Prop := subTouchesUptoRow.holds Try.pinned (OpenSpec.upto subTouchesSpec)

/-- 'medlarlaw08.SubTells', WHERE WHAT IT READS IS OF BULK AT MOST 1048576: true; the input reads as it did. -/
def subTellsUptoRow : OpenClaim := { program := "ytccmoohcpaohmaa", sum := "387f43d317ec7ee136879a4a470455de3f52ed44bcd3e357a45a1184a878b648", func := "medlar/medlarlaw08.SubTells", spec := "subTells", unfollowed := true, recurses := true, plainKeys := false, apart := false, narrowed := true }
def SubTellsUptoSaid : Prop := subTellsUptoRow.holds Try.pinned (OpenSpec.upto subTellsSpec)

/-- 'medlarlaw14.StorePairs', WHERE WHAT IT READS IS OF BULK AT MOST 1048576: true; the input reads as it did. -/
def storePairsUptoRow : OpenClaim := { program := "ytccmoohcpaohmaa", sum := "387f43d317ec7ee136879a4a470455de3f52ed44bcd3e357a45a1184a878b648", func := "medlar/medlarlaw14.StorePairs", spec := "storePairs", recurses := true, plainKeys := false, apart := false, narrowed := true }
def StorePairsUptoSaid : Prop := storePairsUptoRow.holds Try.pinned (OpenSpec.upto storePairsSpec)

/-- 'medlarlaw14.StoreMany', WHERE WHAT IT READS IS OF BULK AT MOST 1048576: true; the input reads as it did. -/
def storeManyUptoRow : OpenClaim := { program := "ytccmoohcpaohmaa", sum := "387f43d317ec7ee136879a4a470455de3f52ed44bcd3e357a45a1184a878b648", func := "medlar/medlarlaw14.StoreMany", spec := "storeMany", plainKeys := false, apart := false, narrowed := true }
def StoreManyUptoSaid : Prop := storeManyUptoRow.holds Try.pinned (OpenSpec.upto storeManySpec)

/-- 'medlarlaw14.StoreTwo', WHERE WHAT IT READS IS OF BULK AT MOST 1048576: true; the input reads as it did. -/
def storeTwoUptoRow : OpenClaim := { program := "ytccmoohcpaohmaa", sum := "387f43d317ec7ee136879a4a470455de3f52ed44bcd3e357a45a1184a878b648", func := "medlar/medlarlaw14.StoreTwo", spec := "storeTwo", unfollowed := true, recurses := true, plainKeys := false, apart := false, narrowed := true }
def StoreTwoUptoSaid : Prop := storeTwoUptoRow.holds Try.pinned (OpenSpec.upto storeTwoSpec)

/-- 'medlarlaw14.StoreIn', WHERE WHAT IT READS IS OF BULK AT MOST 1048576: true; the input reads as it did. -/
def storeInUptoRow : OpenClaim := { program := "ytccmoohcpaohmaa", sum := "387f43d317ec7ee136879a4a470455de3f52ed44bcd3e357a45a1184a878b648", func := "medlar/medlarlaw14.StoreIn", spec := "storeIn", unfollowed := true, recurses := true, plainKeys := false, apart := false, narrowed := true }
def StoreInUptoSaid : Prop := storeInUptoRow.holds Try.pinned (OpenSpec.upto storeInSpec)

end Rows
end Go.Proofs.Ytccmoohcpaohmaa
