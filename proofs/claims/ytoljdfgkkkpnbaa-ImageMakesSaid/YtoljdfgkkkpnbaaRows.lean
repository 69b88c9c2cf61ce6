/-
  No cell of these rows narrows 'for every input' (looked for: loops, veiled, ifaces, maps, wideKeys, modest, calm, conditions, laid).
  DERIVED. THE GIVEN ROWS OF THIS SEAT. 12 by the template 'for every input the law returns true; each argument reads behind the call as it read before'; 0 by the template 'total and deterministic' (their statements: YtoljdfgkkkpnbaaTotals.lean).
  GIVEN WITH THE SEED: the statements are not yours to turn. If you find one false, say at which input.
  Laid BY PROGRAM, IN A SANDBOX (cutbox-rows.mjs): the forced cells as the released guide's own fill.sh prints them over the translation af63fa1131ad2396… (all of the seat's roots in one cut). By AI agents, Wed Nov 11 2026. No macro, syntax, notation, axiom, sorry.
-/
import Derived.Test.YtoljdfgkkkpnbaaChecked
import GoSem.Claim
import GoSem.ClaimJoined
import GoSem.ClaimMapViews
import Derived.JoinedTies
import Derived.KernelRfl
namespace Go.Proofs.Ytoljdfgkkkpnbaa
/- THE CELL 'sum', in the pinned program and in every row, IS THE sha256 OF THE DUMP (.gsa) THAT YtoljdfgkkkpnbaaProg.lean LOADS. Nothing in Lean hashes anything: it is a label: what it is worth is what the hold of that sum in a sandbox is worth. -/
noncomputable def Try.pinned : Pinned := { name := "ytoljdfgkkkpnbaa", sum := "af63fa1131ad2396462658e985b5862e796784744c092279ab7fb15c44087068", checked := Try.checked }
namespace Rows
def none {H : Type} : Left H := { results := [], args := [] }

/-- 'medlarlaw16.HeadParts': WHATEVER THE INPUT: true; the input reads as it did. -/
def headPartsSpec : ChangeSpec := { name := "headParts", fn := fun _ => fun
  | [d1, d2] => { results := [.lit (.bool true)], args := [d1, d2] }
  | _ => none }
def headPartsRow : OpenClaim := { program := "ytoljdfgkkkpnbaa", sum := "af63fa1131ad2396462658e985b5862e796784744c092279ab7fb15c44087068", func := "medlar/medlarlaw16.HeadParts", spec := "headParts", plainKeys := false, apart := false }
def HeadPartsSaid : Prop := headPartsRow.holds Try.pinned (OpenSpec.ofChange headPartsSpec)

/-- ITS FALSE NEIGHBOUR: 'it returns false'. Refute it at one input. -/
def headPartsWrong : ChangeSpec := { name := "headParts", fn := fun _ => fun
  | [d1, d2] => { results := [.lit (.bool false)], args := [d1, d2] }
  | _ => none }
def HeadPartsWrongFalsely : Prop := headPartsRow.holds Try.pinned (OpenSpec.ofChange headPartsWrong)

/-- 'medlarlaw16.HeadLong': WHATEVER THE INPUT: true; the input reads as it did. -/
def headLongSpec : ChangeSpec := { name := "headLong", fn := fun _ => fun
  | [d1, d2] => { results := [.lit (.bool true)], args := [d1, d2] }
  | _ => none }
def headLongRow : OpenClaim := { program := "ytoljdfgkkkpnbaa", sum := "af63fa1131ad2396462658e985b5862e796784744c092279ab7fb15c44087068", func := "medlar/medlarlaw16.HeadLong", spec := "headLong", plainKeys := false, apart := false }
def HeadLongSaid : Prop := headLongRow.holds Try.pinned (OpenSpec.ofChange headLongSpec)

/-- ITS FALSE NEIGHBOUR: 'it returns false'. Refute it at one input. -/
def headLongWrong : ChangeSpec := { name := "headLong", fn := fun _ => fun
  | [d1, d2] => { results := [.lit (.bool false)], args := [d1, d2] }
  | _ => none }
def HeadLongWrongFalsely : Prop := headLongRow.holds Try.pinned (OpenSpec.ofChange headLongWrong)

/-- 'medlarlaw16.HeadDoes': WHATEVER THE INPUT: true; the input reads as it did. -/
def headDoesSpec : ChangeSpec := { name := "headDoes", fn := fun _ => fun
  | [d1, d2, d3, d4] => { results := [.lit (.bool true)], args := [d1, d2, d3, d4] }
  | _ => none }
def headDoesRow : OpenClaim := { program := "ytoljdfgkkkpnbaa", sum := "af63fa1131ad2396462658e985b5862e796784744c092279ab7fb15c44087068", func := "medlar/medlarlaw16.HeadDoes", spec := "headDoes", recurses := true, plainKeys := false, apart := false }
def HeadDoesSaid : Prop := headDoesRow.holds Try.pinned (OpenSpec.ofChange headDoesSpec)

/-- ITS FALSE NEIGHBOUR: 'it returns false'. Refute it at one input. -/
def headDoesWrong : ChangeSpec := { name := "headDoes", fn := fun _ => fun
  | [d1, d2, d3, d4] => { results := [.lit (.bool false)], args := [d1, d2, d3, d4] }
  | _ => none }
def HeadDoesWrongFalsely : Prop := headDoesRow.holds Try.pinned (OpenSpec.ofChange headDoesWrong)

/-- 'medlarlaw16.HeadBack': WHATEVER THE INPUT: true; the input reads as it did. -/
def headBackSpec : ChangeSpec := { name := "headBack", fn := fun _ => fun
  | [d1, d2] => { results := [.lit (.bool true)], args := [d1, d2] }
  | _ => none }
def headBackRow : OpenClaim := { program := "ytoljdfgkkkpnbaa", sum := "af63fa1131ad2396462658e985b5862e796784744c092279ab7fb15c44087068", func := "medlar/medlarlaw16.HeadBack", spec := "headBack", plainKeys := false, apart := false }
def HeadBackSaid : Prop := headBackRow.holds Try.pinned (OpenSpec.ofChange headBackSpec)

/-- ITS FALSE NEIGHBOUR: 'it returns false'. Refute it at one input. -/
def headBackWrong : ChangeSpec := { name := "headBack", fn := fun _ => fun
  | [d1, d2] => { results := [.lit (.bool false)], args := [d1, d2] }
  | _ => none }
def HeadBackWrongFalsely : Prop := headBackRow.holds Try.pinned (OpenSpec.ofChange headBackWrong)

/-- 'medlarlaw16.HeadCut': WHATEVER THE INPUT: true; the input reads as it did. -/
def headCutSpec : ChangeSpec := { name := "headCut", fn := fun _ => fun
  | [d1, d2, d3, d4] => { results := [.lit (.bool true)], args := [d1, d2, d3, d4] }
  | _ => none }
def headCutRow : OpenClaim := { program := "ytoljdfgkkkpnbaa", sum := "af63fa1131ad2396462658e985b5862e796784744c092279ab7fb15c44087068", func := "medlar/medlarlaw16.HeadCut", spec := "headCut", plainKeys := false, apart := false }
def HeadCutSaid : Prop := headCutRow.holds Try.pinned (OpenSpec.ofChange headCutSpec)

/-- ITS FALSE NEIGHBOUR: 'it returns false'. Refute it at one input. -/
def headCutWrong : ChangeSpec := { name := "headCut", fn := fun _ => fun
  | [d1, d2, d3, d4] => { results := [.lit (.bool false)], args := [d1, d2, d3, d4] }
  | _ => none }
def HeadCutWrongFalsely : Prop := headCutRow.holds Try.pinned (OpenSpec.ofChange headCutWrong)

/-- 'medlarlaw17.ImageSets': WHATEVER THE INPUT: true; the input reads as it did. -/
def imageSetsSpec : ChangeSpec := { name := "imageSets", fn := fun _ => fun
  | [d1, d2, d3] => { results := [.lit (.bool true)], args := [d1, d2, d3] }
  | _ => none }
def imageSetsRow : OpenClaim := { program := "ytoljdfgkkkpnbaa", sum := "af63fa1131ad2396462658e985b5862e796784744c092279ab7fb15c44087068", func := "medlar/medlarlaw17.ImageSets", spec := "imageSets", unfollowed := true, recurses := true, plainKeys := false, apart := false }
def ImageSetsSaid : Prop := imageSetsRow.holds Try.pinned (OpenSpec.ofChange imageSetsSpec)

/-- ITS FALSE NEIGHBOUR: 'it returns false'. Refute it at one input. -/
def imageSetsWrong : ChangeSpec := { name := "imageSets", fn := fun _ => fun
  | [d1, d2, d3] => { results := [.lit (.bool false)], args := [d1, d2, d3] }
  | _ => none }
def ImageSetsWrongFalsely : Prop := imageSetsRow.holds Try.pinned (OpenSpec.ofChange imageSetsWrong)

/-- 'medlarlaw17.ImageStores': WHATEVER THE INPUT: true; the input reads as it did. -/
def imageStoresSpec : ChangeSpec := { name := "imageStores", fn := fun _ => fun
  | [d1, d2, d3, d4, d5] => { results := [.lit (.bool true)], args := [d1, d2, d3, d4, d5] }
  | _ => none }
def imageStoresRow : OpenClaim := { program := "ytoljdfgkkkpnbaa", sum := "af63fa1131ad2396462658e985b5862e796784744c092279ab7fb15c44087068", func := "medlar/medlarlaw17.ImageStores", spec := "imageStores", unfollowed := true, recurses := true, plainKeys := false, apart := false }
def ImageStoresSaid : Prop := imageStoresRow.holds Try.pinned (OpenSpec.ofChange imageStoresSpec)

/-- ITS FALSE NEIGHBOUR: 'it returns false'. Refute it at one input. -/
def imageStoresWrong : ChangeSpec := { name := "imageStores", fn := fun _ => fun
  | [d1, d2, d3, d4, d5] => { results := [.lit (.bool false)], args := [d1, d2, d3, d4, d5] }
  | _ => none }
def ImageStoresWrongFalsely : Prop := imageStoresRow.holds Try.pinned (OpenSpec.ofChange imageStoresWrong)

/-- 'medlarlaw17.ImageCut': WHATEVER THE INPUT: true; the input reads as it did. -/
def imageCutSpec : ChangeSpec := { name := "imageCut", fn := fun _ => fun
  | [d1, d2, d3, d4, d5, d6, d7] => { results := [.lit (.bool true)], args := [d1, d2, d3, d4, d5, d6, d7] }
  | _ => none }
def imageCutRow : OpenClaim := { program := "ytoljdfgkkkpnbaa", sum := "af63fa1131ad2396462658e985b5862e796784744c092279ab7fb15c44087068", func := "medlar/medlarlaw17.ImageCut", spec := "imageCut", unfollowed := true, recurses := true, plainKeys := false, apart := false }
def ImageCutSaid : Prop := imageCutRow.holds Try.pinned (OpenSpec.ofChange imageCutSpec)

/-- ITS FALSE NEIGHBOUR: 'it returns false'. Refute it at one input. -/
def imageCutWrong : ChangeSpec := { name := "imageCut", fn := fun _ => fun
  | [d1, d2, d3, d4, d5, d6, d7] => { results := [.lit (.bool false)], args := [d1, d2, d3, d4, d5, d6, d7] }
  | _ => none }
def ImageCutWrongFalsely : Prop := imageCutRow.holds Try.pinned (OpenSpec.ofChange imageCutWrong)

/-- 'medlarlaw17.ImageBack': WHATEVER THE INPUT: true; the input reads as it did. -/
def imageBackSpec : ChangeSpec := { name := "imageBack", fn := fun _ => fun
  | [d1, d2, d3, d4, d5, d6] => { results := [.lit (.bool true)], args := [d1, d2, d3, d4, d5, d6] }
  | _ => none }
def imageBackRow : OpenClaim := { program := "ytoljdfgkkkpnbaa", sum := "af63fa1131ad2396462658e985b5862e796784744c092279ab7fb15c44087068", func := "medlar/medlarlaw17.ImageBack", spec := "imageBack", unfollowed := true, recurses := true, plainKeys := false, apart := false }
def ImageBackSaid : Prop := imageBackRow.holds Try.pinned (OpenSpec.ofChange imageBackSpec)

/-- ITS FALSE NEIGHBOUR: 'it returns false'. Refute it at one input. -/
def imageBackWrong : ChangeSpec := { name := "imageBack", fn := fun _ => fun
  | [d1, d2, d3, d4, d5, d6] => { results := [.lit (.bool false)], args := [d1, d2, d3, d4, d5, d6] }
  | _ => none }
def ImageBackWrongFalsely : Prop := imageBackRow.holds Try.pinned (OpenSpec.ofChange imageBackWrong)

/-- 'medlarlaw17.ImageMakes': WHATEVER THE INPUT: true; the input reads as it did. -/
def imageMakesSpec : ChangeSpec := { name := "imageMakes", fn := fun _ => fun
  | [d1, d2, d3, d4] => { results := [.lit (.bool true)], args := [d1, d2, d3, d4] }
  | _ => none }
def imageMakesRow : OpenClaim := { program := "ytoljdfgkkkpnbaa", sum := "af63fa1131ad2396462658e985b5862e796784744c092279ab7fb15c44087068", func := "medlar/medlarlaw17.ImageMakes", spec := "imageMakes", unfollowed := true, recurses := true, plainKeys := false, apart := false }
def ImageMakesSaid : Prop := imageMakesRow.holds Try.pinned (OpenSpec.ofChange imageMakesSpec)

/-- ITS FALSE NEIGHBOUR: 'it returns false'. Refute it at one input. -/
def imageMakesWrong : ChangeSpec := { name := "imageMakes", fn := fun _ => fun
  | [d1, d2, d3, d4] => { results := [.lit (.bool false)], args := [d1, d2, d3, d4] }
  | _ => none }
def ImageMakesWrongFalsely : Prop := imageMakesRow.holds Try.pinned (OpenSpec.ofChange imageMakesWrong)

/-- 'medlarlaw14.StoreMay': WHATEVER THE INPUT: true; the input reads as it did. -/
def storeMaySpec : ChangeSpec := { name := "storeMay", fn := fun _ => fun
  | [d1, d2, d3, d4] => { results := [.lit (.bool true)], args := [d1, d2, d3, d4] }
  | _ => none }
def storeMayRow : OpenClaim := { program := "ytoljdfgkkkpnbaa", sum := "af63fa1131ad2396462658e985b5862e796784744c092279ab7fb15c44087068", func := "medlar/medlarlaw14.StoreMay", spec := "storeMay", unfollowed := true, recurses := true, plainKeys := false, apart := false }
def StoreMaySaid : Prop := storeMayRow.holds Try.pinned (OpenSpec.ofChange storeMaySpec)

/-- ITS FALSE NEIGHBOUR: 'it returns false'. Refute it at one input. -/
def storeMayWrong : ChangeSpec := { name := "storeMay", fn := fun _ => fun
  | [d1, d2, d3, d4] => { results := [.lit (.bool false)], args := [d1, d2, d3, d4] }
  | _ => none }
def StoreMayWrongFalsely : Prop := storeMayRow.holds Try.pinned (OpenSpec.ofChange storeMayWrong)

/-- 'medlarlaw14.StoreMakes': WHATEVER THE INPUT: true; the input reads as it did. -/
def storeMakesSpec : ChangeSpec := { name := "storeMakes", fn := fun _ => fun
  | [d1, d2, d3, d4, d5, d6, d7] => { results := [.lit (.bool true)], args := [d1, d2, d3, d4, d5, d6, d7] }
  | _ => none }
def storeMakesRow : OpenClaim := { program := "ytoljdfgkkkpnbaa", sum := "af63fa1131ad2396462658e985b5862e796784744c092279ab7fb15c44087068", func := "medlar/medlarlaw14.StoreMakes", spec := "storeMakes", unfollowed := true, recurses := true, plainKeys := false, apart := false }
def StoreMakesSaid : Prop := storeMakesRow.holds Try.pinned (OpenSpec.ofChange storeMakesSpec)

/-- ITS FALSE NEIGHBOUR: 'it returns false'. Refute it at one input. -/
def storeMakesWrong : ChangeSpec := { name := "storeMakes", fn := fun _ => fun
  | [d1, d2, d3, d4, d5, d6, d7] => { results := [.lit (.bool false)], args := [d1, d2, d3, d4, d5, d6, d7] }
  | _ => none }
def StoreMakesWrongFalsely : Prop := storeMakesRow.holds Try.pinned (OpenSpec.ofChange storeMakesWrong)

/- THE SECOND FORM. 'bulk': how many values and letters a reading holds, each counted each time it is reached (what is shared counts as often as it is met; a slice's spare places count too). A statement '..UptoSaid' is the law's where the arguments, and the package variables that the reading takes, are together of bulk at most 1048576: NARROWER than '..Said'. Prove '..Said' where nothing that the law and all that it calls make is longer than what came in: it says more and counts as full. Else prove '..UptoSaid'. A law counts once. -/
mutual
def uptoBulk {H : Type} : DataW H → Nat
  | .lit (.string bytes) => bytes.length + 1
  | .lit _ => 1
  | .nil => 1
  | .ptr d => uptoBulk d + 1
  | .slice elems spare => uptoBulkAll elems + uptoBulkAll spare + 1
  | .agg parts => uptoBulkAll parts + 1
  | .iface _ d => uptoBulk d + 1
  | .map entries => uptoBulkEntries entries + 1
  | .held _ => 1
def uptoBulkAll {H : Type} : List (DataW H) → Nat
  | [] => 0
  | d :: r => uptoBulk d + uptoBulkAll r
def uptoBulkEntries {H : Type} : List (Lit × DataW H) → Nat
  | [] => 0
  | x :: r => uptoBulkEntry x + uptoBulkEntries r
def uptoBulkEntry {H : Type} : Lit × DataW H → Nat
  | (.string bytes, d) => bytes.length + uptoBulk d + 1
  | (_, d) => uptoBulk d + 1
 end
def uptoSmall : (H : Type) → List (DataW H) → Bool := fun _ ds => decide (uptoBulkAll ds ≤ 1048576)
def OpenSpec.upto (s : _root_.Go.ChangeSpec) : _root_.Go.OpenSpec := { _root_.Go.OpenSpec.ofChange s with cond := some uptoSmall }

/-- 'medlarlaw16.HeadParts', WHERE WHAT IT READS IS OF BULK AT MOST 1048576: true; the input reads as it did. -/
def headPartsUptoRow : OpenClaim := { program := "ytoljdfgkkkpnbaa", sum := "af63fa1131ad2396462658e985b5862e796784744c092279ab7fb15c44087068", func := "medlar/medlarlaw16.HeadParts", spec := "headParts", plainKeys := false, apart := false, narrowed := true }
def HeadPartsUptoSaid : Prop := headPartsUptoRow.holds Try.pinned (OpenSpec.upto headPartsSpec)

/-- 'medlarlaw16.HeadLong', WHERE WHAT IT READS IS OF BULK AT MOST 1048576: true; the input reads as it did. -/
def headLongUptoRow : OpenClaim := { program := "ytoljdfgkkkpnbaa", sum := "af63fa1131ad2396462658e985b5862e796784744c092279ab7fb15c44087068", func := "medlar/medlarlaw16.HeadLong", spec := "headLong", plainKeys := false, apart := false, narrowed := true }
def HeadLongUptoSaid : Prop := headLongUptoRow.holds Try.pinned (OpenSpec.upto headLongSpec)

/-- 'medlarlaw16.HeadDoes', WHERE WHAT IT READS IS OF BULK AT MOST 1048576: true; the input reads as it did. -/
def headDoesUptoRow : OpenClaim := { program := "ytoljdfgkkkpnbaa", sum := "af63fa1131ad2396462658e985b5862e796784744c092279ab7fb15c44087068", func := "medlar/medlarlaw16.HeadDoes", spec := "headDoes", recurses := true, plainKeys := false, apart := false, narrowed := true }
def HeadDoesUptoSaid : Prop := headDoesUptoRow.holds Try.pinned (OpenSpec.upto headDoesSpec)

/-- 'medlarlaw16.HeadBack', WHERE WHAT IT READS IS OF BULK AT MOST 1048576: true; the input reads as it did. -/
def headBackUptoRow : OpenClaim := { program := "ytoljdfgkkkpnbaa", sum := "af63fa1131ad2396462658e985b5862e796784744c092279ab7fb15c44087068", func := "medlar/medlarlaw16.HeadBack", spec := "headBack", plainKeys := false, apart := false, narrowed := true }
def HeadBackUptoSaid : Prop := headBackUptoRow.holds Try.pinned (OpenSpec.upto headBackSpec)

/-- 'medlarlaw16.HeadCut', WHERE WHAT IT READS IS OF BULK AT MOST 1048576: true; the input reads as it did. -/
def headCutUptoRow : OpenClaim := { program := "ytoljdfgkkkpnbaa", sum := "af63fa1131ad2396462658e985b5862e796784744c092279ab7fb15c44087068", func := "medlar/medlarlaw16.HeadCut", spec := "headCut", plainKeys := false, apart := false, narrowed := true }
def HeadCutUptoSaid : Prop := headCutUptoRow.holds Try.pinned (OpenSpec.upto headCutSpec)

/-- 'medlarlaw17.ImageSets', WHERE WHAT IT READS IS OF BULK AT MOST 1048576: true; the input reads as it did. -/
def imageSetsUptoRow : OpenClaim := { program := "ytoljdfgkkkpnbaa", sum := "af63fa1131ad2396462658e985b5862e796784744c092279ab7fb15c44087068", func := "medlar/medlarlaw17.ImageSets", spec := "imageSets", unfollowed := true, recurses := true, plainKeys := false, apart := false, narrowed := true }
def ImageSetsUptoSaid : Prop := imageSetsUptoRow.holds Try.pinned (OpenSpec.upto imageSetsSpec)

/-- 'medlarlaw17.ImageStores', WHERE WHAT IT READS IS OF BULK AT MOST 1048576: true; the input reads as it did. -/
def imageStoresUptoRow : OpenClaim := { program := "ytoljdfgkkkpnbaa", sum := "af63fa1131ad2396462658e985b5862e796784744c092279ab7fb15c44087068", func := "medlar/medlarlaw17.ImageStores", spec := "imageStores", unfollowed := true, recurses := true, plainKeys := false, apart := false, narrowed := true }
def ImageStoresUptoSaid : Prop := imageStoresUptoRow.holds Try.pinned (OpenSpec.upto imageStoresSpec)

/-- 'medlarlaw17.ImageCut', WHERE WHAT IT READS IS OF BULK AT MOST 1048576: true; the input reads as it did. -/
def imageCutUptoRow : OpenClaim := { program := "ytoljdfgkkkpnbaa", sum := "af63fa1131ad2396462658e985b5862e796784744c092279ab7fb15c44087068", func := "medlar/medlarlaw17.ImageCut", spec := "imageCut", unfollowed := true, recurses := true, plainKeys := false, apart := false, narrowed := true }
def ImageCutUptoSaid : Prop := imageCutUptoRow.holds Try.pinned (OpenSpec.upto imageCutSpec)

/-- 'medlarlaw17.ImageBack', WHERE WHAT IT READS IS OF BULK AT MOST 1048576: true; the input reads as it did. -/
def imageBackUptoRow : OpenClaim := { program := "ytoljdfgkkkpnbaa", sum := "af63fa1131ad2396462658e985b5862e796784744c092279ab7fb15c44087068", func := "medlar/medlarlaw17.ImageBack", spec := "imageBack", unfollowed := true, recurses := true, plainKeys := false, apart := false, narrowed := true }
def ImageBackUptoSaid : Prop := imageBackUptoRow.holds Try.pinned (OpenSpec.upto imageBackSpec)

/-- 'medlarlaw17.ImageMakes', WHERE WHAT IT READS IS OF BULK AT MOST 1048576: true; the input reads as it did. -/
def imageMakesUptoRow : OpenClaim := { program := "ytoljdfgkkkpnbaa", sum := "af63fa1131ad2396462658e985b5862e796784744c092279ab7fb15c44087068", func := "medlar/medlarlaw17.ImageMakes", spec := "imageMakes", unfollowed := true, recurses := true, plainKeys := false, apart := false, narrowed := true }
def ImageMakesUptoSaid : Prop := imageMakesUptoRow.holds Try.pinned (OpenSpec.upto imageMakesSpec)

/-- 'medlarlaw14.StoreMay', WHERE WHAT IT READS IS OF BULK AT MOST 1048576: true; the input reads as it did. -/
def storeMayUptoRow : OpenClaim := { program := "ytoljdfgkkkpnbaa", sum := "af63fa1131ad2396462658e985b5862e796784744c092279ab7fb15c44087068", func := "medlar/medlarlaw14.StoreMay", spec := "storeMay", unfollowed := true, recurses := true, plainKeys := false, apart := false, narrowed := true }
def StoreMayUptoSaid : Prop := storeMayUptoRow.holds Try.pinned (OpenSpec.upto storeMaySpec)

/-- 'medlarlaw14.StoreMakes', WHERE WHAT IT READS IS OF BULK AT MOST 1048576: true; the input reads as it did. -/
def storeMakesUptoRow : OpenClaim := { program := "ytoljdfgkkkpnbaa", sum := "af63fa1131ad2396462658e985b5862e796784744c092279ab7fb15c44087068", func := "medlar/medlarlaw14.StoreMakes", spec := "storeMakes", unfollowed := true, recurses := true, plainKeys := false, apart := false, narrowed := true }
def StoreMakesUptoSaid : Prop := storeMakesUptoRow.holds Try.pinned (OpenSpec.upto storeMakesSpec)

end Rows
end Go.Proofs.Ytoljdfgkkkpnbaa
