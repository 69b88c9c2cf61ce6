/-
  No cell of these rows narrows 'for every input' (looked for: loops, veiled, ifaces, maps, wideKeys, modest, calm, conditions, laid).
  DERIVED. THE GIVEN ROWS OF THIS SEAT. 3 by the template 'for every input the law returns true; each argument reads behind the call as it read before'; 0 by the template 'total and deterministic' (their statements: YtkleiaeihihjnaaTotals.lean).
  GIVEN WITH THE SEED: the statements are not yours to turn. If you find one false, say at which input.
  Laid BY PROGRAM, IN A SANDBOX (cutbox-rows.mjs): the forced cells as the released guide's own fill.sh prints them over the translation 4c1843916472699f… (all of the seat's roots in one cut). By AI agents, Wed Nov 11 2026. No macro, syntax, notation, axiom, sorry.
-/
import Derived.Test.YtkleiaeihihjnaaChecked
import GoSem.Claim
import GoSem.ClaimJoined
import GoSem.ClaimMapViews
import Derived.JoinedTies
import Derived.KernelRfl
namespace Go.Proofs.Ytkleiaeihihjnaa
/- THE CELL 'sum', in the pinned program and in every row, IS THE sha256 OF THE DUMP (.gsa) THAT YtkleiaeihihjnaaProg.lean LOADS. Nothing in Lean hashes anything: it is a label: what it is worth is what the hold of that sum in a sandbox is worth. -/
noncomputable def Try.pinned : Pinned := { name := "ytkleiaeihihjnaa", sum := "4c1843916472699f47f98177c2009937b0ee48097a0b06a6380edc04772082f7", checked := Try.checked }
namespace Rows
def none {H : Type} : Left H := { results := [], args := [] }

/-- 'medlarlaw17.ImageMakes': WHATEVER THE INPUT: true; the input reads as it did. -/
def imageMakesSpec : ChangeSpec := { name := "imageMakes", fn := fun _ => fun
  | [d1, d2, d3, d4] => { results := [.lit (.bool true)], args := [d1, d2, d3, d4] }
  | _ => none }
def imageMakesRow : OpenClaim := { program := "ytkleiaeihihjnaa", sum := "4c1843916472699f47f98177c2009937b0ee48097a0b06a6380edc04772082f7", func := "medlar/medlarlaw17.ImageMakes", spec := "imageMakes", unfollowed := true, recurses := true, plainKeys := false, apart := false }
def ImageMakesSaid : Prop := imageMakesRow.holds Try.pinned (OpenSpec.ofChange imageMakesSpec)

/-- ITS FALSE NEIGHBOUR: 'it returns false'. Refute it at one input. -/
def imageMakesWrong : ChangeSpec := { name := "imageMakes", fn := fun _ => fun
  | [d1, d2, d3, d4] => { results := [.lit (.bool false)], args := [d1, d2, d3, d4] }
  | _ => none }
def ImageMakesWrongFalsely : Prop := imageMakesRow.holds Try.pinned (OpenSpec.ofChange imageMakesWrong)

/-- 'medlarlaw14.StoreMay': WHATEVER THE INPUT: true; the input reads as it did. -/
def storeMaySpec : ChangeSpec := { name := "storeMay", fn := fun _ => fun
  | [d1, d2, d3, d4] => { results := [.lit (.bool true)], args := [d1, d2, d3, d4] }
  | _ => none }
def storeMayRow : OpenClaim := { program := "ytkleiaeihihjnaa", sum := "4c1843916472699f47f98177c2009937b0ee48097a0b06a6380edc04772082f7", func := "medlar/medlarlaw14.StoreMay", spec := "storeMay", unfollowed := true, recurses := true, plainKeys := false, apart := false }
def StoreMaySaid : Prop := storeMayRow.holds Try.pinned (OpenSpec.ofChange storeMaySpec)

/-- ITS FALSE NEIGHBOUR: 'it returns false'. Refute it at one input. -/
def storeMayWrong : ChangeSpec := { name := "storeMay", fn := fun _ => fun
  | [d1, d2, d3, d4] => { results := [.lit (.bool false)], args := [d1, d2, d3, d4] }
  | _ => none }
def StoreMayWrongFalsely : Prop := storeMayRow.holds Try.pinned (OpenSpec.ofChange storeMayWrong)

/-- 'medlarlaw14.StoreMakes': WHATEVER THE INPUT: true; the input reads as it did. -/
def storeMakesSpec : ChangeSpec := { name := "storeMakes", fn := fun _ => fun
  | [d1, d2, d3, d4, d5, d6, d7] => { results := [.lit (.bool true)], args := [d1, d2, d3, d4, d5, d6, d7] }
  | _ => none }
def storeMakesRow : OpenClaim := { program := "ytkleiaeihihjnaa", sum := "4c1843916472699f47f98177c2009937b0ee48097a0b06a6380edc04772082f7", func := "medlar/medlarlaw14.StoreMakes", spec := "storeMakes", unfollowed := true, recurses := true, plainKeys := false, apart := false }
def StoreMakesSaid : Prop := storeMakesRow.holds Try.pinned (OpenSpec.ofChange storeMakesSpec)

/-- ITS FALSE NEIGHBOUR: 'it returns false'. Refute it at one input. -/
def storeMakesWrong : ChangeSpec := { name := "storeMakes", fn := fun _ => fun
  | [d1, d2, d3, d4, d5, d6, d7] => { results := [.lit (.bool false)], args := [d1, d2, d3, d4, d5, d6, d7] }
  | _ => none }
def StoreMakesWrongFalsely : Prop := storeMakesRow.holds Try.pinned (OpenSpec.ofChange storeMakesWrong)

/- THE SECOND FORM. 'bulk': how many values and letters a reading holds, each counted each time it is reached (what is shared counts as often as it is met; a slice's spare places count too). A statement '..UptoSaid' is the law's where the arguments, and the package variables that the reading takes, are together of bulk at most 1048576: NARROWER than '..Said'. Prove '..Said' where nothing that the law and all that it calls make is longer than what came in: it says more and counts as full. Else prove '..UptoSaid'. A law counts once. -/
mutual
def uptoBulk {H : Type} : DataW H → Nat
  | .lit (.string bytes) => bytes.length + 1
  | .lit _ => 1
  | .nil => 1
  | .ptr d => uptoBulk d + 1
  | .slice elems spare => uptoBulkAll elems + uptoBulkAll spare + 1
  | .agg parts => uptoBulkAll parts + 1
  | .iface _ d => uptoBulk d + 1
  | .map entries => uptoBulkEntries entries + 1
  | .held _ => 1
def uptoBulkAll {H : Type} : List (DataW H) → Nat
  | [] => 0
  | d :: r => uptoBulk d + uptoBulkAll r
def uptoBulkEntries {H : Type} : List (Lit × DataW H) → Nat
  | [] => 0
  | x :: r => uptoBulkEntry x + uptoBulkEntries r
def uptoBulkEntry {H : Type} : Lit × DataW H → Nat
  | (.string bytes, d) => bytes.length + uptoBulk d + 1
  | (_, d) => uptoBulk d + 1
 end
def uptoSmall : (H : Type) → List (DataW H) → Bool := fun _ ds => decide (uptoBulkAll ds ≤ 1048576)
def OpenSpec.upto (s : _root_.Go.ChangeSpec) : _root_.Go.OpenSpec := { _root_.Go.OpenSpec.ofChange s with cond := some uptoSmall }

/-- 'medlarlaw17.ImageMakes', WHERE WHAT IT READS IS OF BULK AT MOST 1048576: true; the input reads as it did. -/
def imageMakesUptoRow : OpenClaim := { program := "ytkleiaeihihjnaa", sum := "4c1843916472699f47f98177c2009937b0ee48097a0b06a6380edc04772082f7", func := "medlar/medlarlaw17.ImageMakes", spec := "imageMakes", unfollowed := true, recurses := true, plainKeys := false, apart := false, narrowed := true }
def ImageMakesUptoSaid : Prop := imageMakesUptoRow.holds Try.pinned (OpenSpec.upto imageMakesSpec)

/-- 'medlarlaw14.StoreMay', WHERE WHAT IT READS IS OF BULK AT MOST 1048576: true; the input reads as it did. -/
def storeMayUptoRow : OpenClaim := { program := "ytkleiaeihihjnaa", sum := "4c1843916472699f47f98177c2009937b0ee48097a0b06a6380edc04772082f7", func := "medlar/medlarlaw14.StoreMay", spec := "storeMay", unfollowed := true, recurses := true, plainKeys := false, apart := false, narrowed := true }
def StoreMayUptoSaid : Prop := storeMayUptoRow.holds Try.pinned (OpenSpec.upto storeMaySpec)

/-- 'medlarlaw14.StoreMakes', WHERE WHAT IT READS IS OF BULK AT MOST 1048576: true; the input reads as it did. -/
def storeMakesUptoRow : OpenClaim := { program := "ytkleiaeihihjnaa", sum := "4c1843916472699f47f98177c2009937b0ee48097a0b06a6380edc04772082f7", func := "medlar/medlarlaw14.StoreMakes", spec := "storeMakes", unfollowed := true, recurses := true, plainKeys := false, apart := false, narrowed := true }
def StoreMakesUptoSaid : Prop := storeMakesUptoRow.holds Try.pinned (OpenSpec.upto storeMakesSpec)

end Rows
end Go.Proofs.Ytkleiaeihihjnaa
