/-
  No cell of these rows narrows 'for every input' (looked for: loops, veiled, ifaces, maps, wideKeys, modest, calm, conditions, laid).
  DERIVED. THE GIVEN ROWS OF THIS SEAT. 7 by the template 'for every input the law returns true; each argument reads behind the call as it read before'; 0 by the template 'total and deterministic' (their statements: YtkfnhbhfadhbkaaTotals.lean).
  GIVEN WITH THE SEED: the statements are not yours to turn. If you find one false, say at which input.
  Laid BY PROGRAM, IN A SANDBOX (cutbox-rows.mjs): the forced cells as the released guide's own fill.sh prints them over the translation 5f6af669dd20541b… (all of the seat's roots in one cut). By AI agents, Wed Nov 11 2026. No macro, syntax, notation, axiom, sorry.
-/
import Derived.Test.YtkfnhbhfadhbkaaChecked
import GoSem.Claim
import GoSem.ClaimJoined
import GoSem.ClaimMapViews
import Derived.JoinedTies
import Derived.KernelRfl
namespace Go.Proofs.Ytkfnhbhfadhbkaa
/- THE CELL 'sum', in the pinned program and in every row, IS THE sha256 OF THE DUMP (.gsa) THAT YtkfnhbhfadhbkaaProg.lean LOADS. Nothing in Lean hashes anything: it is a label: what it is worth is what the hold of that sum in a sandbox is worth. -/
noncomputable def Try.pinned : Pinned := { name := "ytkfnhbhfadhbkaa", sum := "5f6af669dd20541b258c4af0e7fc8d8894f0563ca513ba8310d43b2ea9457124", checked := Try.checked }
namespace Rows
def none {H : Type} : Left H := { results := [], args := [] }

/-- 'hornbeamlaw20.WalkPlaces': WHATEVER THE INPUT: true; the input reads as it did. -/
def walkPlacesSpec : ChangeSpec := { name := "walkPlaces", fn := fun _ => fun
  | [d1, d2] => { results := [.lit (.bool true)], args := [d1, d2] }
  | _ => none }
def walkPlacesRow : OpenClaim := { program := "ytkfnhbhfadhbkaa", sum := "5f6af669dd20541b258c4af0e7fc8d8894f0563ca513ba8310d43b2ea9457124", func := "hornbeam/hornbeamlaw20.WalkPlaces", spec := "walkPlaces", unfollowed := true, recurses := true, apart := false }
def WalkPlacesSaid : Prop := walkPlacesRow.holds Try.pinned (OpenSpec.ofChange walkPlacesSpec)

/-- ITS FALSE NEIGHBOUR: 'it returns false'. Refute it at one input. -/
def walkPlacesWrong : ChangeSpec := { name := "walkPlaces", fn := fun _ => fun
  | [d1, d2] => { results := [.lit (.bool false)], args := [d1, d2] }
  | _ => none }
def WalkPlacesWrongFalsely : Prop := walkPlacesRow.holds Try.pinned (OpenSpec.ofChange walkPlacesWrong)

/-- 'hornbeamlaw20.WalkEnds': WHATEVER THE INPUT: true; the input reads as it did. -/
def walkEndsSpec : ChangeSpec := { name := "walkEnds", fn := fun _ => fun
  | [d1, d2, d3] => { results := [.lit (.bool true)], args := [d1, d2, d3] }
  | _ => none }
def walkEndsRow : OpenClaim := { program := "ytkfnhbhfadhbkaa", sum := "5f6af669dd20541b258c4af0e7fc8d8894f0563ca513ba8310d43b2ea9457124", func := "hornbeam/hornbeamlaw20.WalkEnds", spec := "walkEnds", unfollowed := true, recurses := true, apart := false }
def WalkEndsSaid : Prop := walkEndsRow.holds Try.pinned (OpenSpec.ofChange walkEndsSpec)

/-- ITS FALSE NEIGHBOUR: 'it returns false'. Refute it at one input. -/
def walkEndsWrong : ChangeSpec := { name := "walkEnds", fn := fun _ => fun
  | [d1, d2, d3] => { results := [.lit (.bool false)], args := [d1, d2, d3] }
  | _ => none }
def WalkEndsWrongFalsely : Prop := walkEndsRow.holds Try.pinned (OpenSpec.ofChange walkEndsWrong)

/-- 'hornbeamlaw17.PartParts': WHATEVER THE INPUT: true; the input reads as it did. -/
def partPartsSpec : ChangeSpec := { name := "partParts", fn := fun _ => fun
  | [d1, d2] => { results := [.lit (.bool true)], args := [d1, d2] }
  | _ => none }
def partPartsRow : OpenClaim := { program := "ytkfnhbhfadhbkaa", sum := "5f6af669dd20541b258c4af0e7fc8d8894f0563ca513ba8310d43b2ea9457124", func := "hornbeam/hornbeamlaw17.PartParts", spec := "partParts", unfollowed := true, recurses := true, apart := false }
def PartPartsSaid : Prop := partPartsRow.holds Try.pinned (OpenSpec.ofChange partPartsSpec)

/-- ITS FALSE NEIGHBOUR: 'it returns false'. Refute it at one input. -/
def partPartsWrong : ChangeSpec := { name := "partParts", fn := fun _ => fun
  | [d1, d2] => { results := [.lit (.bool false)], args := [d1, d2] }
  | _ => none }
def PartPartsWrongFalsely : Prop := partPartsRow.holds Try.pinned (OpenSpec.ofChange partPartsWrong)

/-- 'hornbeamlaw17.PartAll': WHATEVER THE INPUT: true; the input reads as it did. -/
def partAllSpec : ChangeSpec := { name := "partAll", fn := fun _ => fun
  | [d1, d2] => { results := [.lit (.bool true)], args := [d1, d2] }
  | _ => none }
def partAllRow : OpenClaim := { program := "ytkfnhbhfadhbkaa", sum := "5f6af669dd20541b258c4af0e7fc8d8894f0563ca513ba8310d43b2ea9457124", func := "hornbeam/hornbeamlaw17.PartAll", spec := "partAll", unfollowed := true, recurses := true, apart := false }
def PartAllSaid : Prop := partAllRow.holds Try.pinned (OpenSpec.ofChange partAllSpec)

/-- ITS FALSE NEIGHBOUR: 'it returns false'. Refute it at one input. -/
def partAllWrong : ChangeSpec := { name := "partAll", fn := fun _ => fun
  | [d1, d2] => { results := [.lit (.bool false)], args := [d1, d2] }
  | _ => none }
def PartAllWrongFalsely : Prop := partAllRow.holds Try.pinned (OpenSpec.ofChange partAllWrong)

/-- 'hornbeamlaw17.PartTwice': WHATEVER THE INPUT: true; the input reads as it did. -/
def partTwiceSpec : ChangeSpec := { name := "partTwice", fn := fun _ => fun
  | [d1, d2] => { results := [.lit (.bool true)], args := [d1, d2] }
  | _ => none }
def partTwiceRow : OpenClaim := { program := "ytkfnhbhfadhbkaa", sum := "5f6af669dd20541b258c4af0e7fc8d8894f0563ca513ba8310d43b2ea9457124", func := "hornbeam/hornbeamlaw17.PartTwice", spec := "partTwice", unfollowed := true, recurses := true, apart := false }
def PartTwiceSaid : Prop := partTwiceRow.holds Try.pinned (OpenSpec.ofChange partTwiceSpec)

/-- ITS FALSE NEIGHBOUR: 'it returns false'. Refute it at one input. -/
def partTwiceWrong : ChangeSpec := { name := "partTwice", fn := fun _ => fun
  | [d1, d2] => { results := [.lit (.bool false)], args := [d1, d2] }
  | _ => none }
def PartTwiceWrongFalsely : Prop := partTwiceRow.holds Try.pinned (OpenSpec.ofChange partTwiceWrong)

/-- 'hornbeamlaw17.PartDrawn': WHATEVER THE INPUT: true; the input reads as it did. -/
def partDrawnSpec : ChangeSpec := { name := "partDrawn", fn := fun _ => fun
  | [d] => { results := [.lit (.bool true)], args := [d] }
  | _ => none }
def partDrawnRow : OpenClaim := { program := "ytkfnhbhfadhbkaa", sum := "5f6af669dd20541b258c4af0e7fc8d8894f0563ca513ba8310d43b2ea9457124", func := "hornbeam/hornbeamlaw17.PartDrawn", spec := "partDrawn", unfollowed := true, recurses := true, apart := false }
def PartDrawnSaid : Prop := partDrawnRow.holds Try.pinned (OpenSpec.ofChange partDrawnSpec)

/-- ITS FALSE NEIGHBOUR: 'it returns false'. Refute it at one input. -/
def partDrawnWrong : ChangeSpec := { name := "partDrawn", fn := fun _ => fun
  | [d] => { results := [.lit (.bool false)], args := [d] }
  | _ => none }
def PartDrawnWrongFalsely : Prop := partDrawnRow.holds Try.pinned (OpenSpec.ofChange partDrawnWrong)

/-- 'hornbeamlaw20.WalkMatrix': WHATEVER THE INPUT: true; the input reads as it did. -/
def walkMatrixSpec : ChangeSpec := { name := "walkMatrix", fn := fun _ => fun
  | [d1, d2] => { results := [.lit (.bool true)], args := [d1, d2] }
  | _ => none }
def walkMatrixRow : OpenClaim := { program := "ytkfnhbhfadhbkaa", sum := "5f6af669dd20541b258c4af0e7fc8d8894f0563ca513ba8310d43b2ea9457124", func := "hornbeam/hornbeamlaw20.WalkMatrix", spec := "walkMatrix", unfollowed := true, recurses := true, apart := false }
def WalkMatrixSaid : Prop := walkMatrixRow.holds Try.pinned (OpenSpec.ofChange walkMatrixSpec)

/-- ITS FALSE NEIGHBOUR: 'it returns false'. Refute it at one input. -/
def walkMatrixWrong : ChangeSpec := { name := "walkMatrix", fn := fun _ => fun
  | [d1, d2] => { results := [.lit (.bool false)], args := [d1, d2] }
  | _ => none }
def WalkMatrixWrongFalsely : Prop := walkMatrixRow.holds Try.pinned (OpenSpec.ofChange walkMatrixWrong)

/- THE SECOND FORM. 'bulk': how many values and letters a reading holds, each counted each time it is reached (what is shared counts as often as it is met; a slice's spare places count too). A statement '..UptoSaid' is the law's where the arguments, and the package variables that the reading takes, are together of bulk at most 1048576: NARROWER than '..Said'. Prove '..Said' where nothing that the law and all that it calls make is longer than what came in: it says more and counts as full. Else prove '..UptoSaid'. A law counts once. -/
mutual
def uptoBulk {H : Type} : DataW H → Nat
  | .lit (.string bytes) => bytes.length + 1
  | .lit _ => 1
  | .nil => 1
  | .ptr d => uptoBulk d + 1
  | .slice elems spare => uptoBulkAll elems + uptoBulkAll spare + 1
  | .agg parts => uptoBulkAll parts + 1
  | .iface _ d => uptoBulk d + 1
  | .map entries => uptoBulkEntries entries + 1
  | .held _ => 1
def uptoBulkAll {H : Type} : List (DataW H) → Nat
  | [] => 0
  | d :: r => uptoBulk d + uptoBulkAll r
def uptoBulkEntries {H : Type} : List (Lit × DataW H) → Nat
  | [] => 0
  | x :: r => uptoBulkEntry x + uptoBulkEntries r
def uptoBulkEntry {H : Type} : Lit × DataW H → Nat
  | (.string bytes, d) => bytes.length + uptoBulk d + 1
  | (_, d) => uptoBulk d + 1
 end
def uptoSmall : (H : Type) → List (DataW H) → Bool := fun _ ds => decide (uptoBulkAll ds ≤ 1048576)
def OpenSpec.upto (s : _root_.Go.ChangeSpec) : _root_.Go.OpenSpec := { _root_.Go.OpenSpec.ofChange s with cond := some uptoSmall }

/-- 'hornbeamlaw20.WalkPlaces', WHERE WHAT IT READS IS OF BULK AT MOST 1048576: true; the input reads as it did. -/
def walkPlacesUptoRow : OpenClaim := { program := "ytkfnhbhfadhbkaa", sum := "5f6af669dd20541b258c4af0e7fc8d8894f0563ca513ba8310d43b2ea9457124", func := "hornbeam/hornbeamlaw20.WalkPlaces", spec := "walkPlaces", unfollowed := true, recurses := true, apart := false, narrowed := true }
def WalkPlacesUptoSaid : Prop := walkPlacesUptoRow.holds Try.pinned (OpenSpec.upto walkPlacesSpec)

/-- 'hornbeamlaw20.WalkEnds', WHERE WHAT IT READS IS OF BULK AT MOST 1048576: true; the input reads as it did. -/
def walkEndsUptoRow : OpenClaim := { program := "ytkfnhbhfadhbkaa", sum := "5f6af669dd20541b258c4af0e7fc8d8894f0563ca513ba8310d43b2ea9457124", func := "hornbeam/hornbeamlaw20.WalkEnds", spec := "walkEnds", unfollowed := true, recurses := true, apart := false, narrowed := true }
def WalkEndsUptoSaid : Prop := walkEndsUptoRow.holds Try.pinned (OpenSpec.upto walkEndsSpec)

/-- 'hornbeamlaw17.PartParts', WHERE WHAT IT READS IS OF BULK AT MOST 1048576: true; the input reads as it did. -/
def partPartsUptoRow : OpenClaim := { program := "ytkfnhbhfadhbkaa", sum := "5f6af669dd20541b258c4af0e7fc8d8894f0563ca513ba8310d43b2ea9457124", func := "hornbeam/hornbeamlaw17.PartParts", spec := "partParts", unfollowed := true, recurses := true, apart := false, narrowed := true }
def PartPartsUptoSaid : Prop := partPartsUptoRow.holds Try.pinned (OpenSpec.upto partPartsSpec)

/-- 'hornbeamlaw17.PartAll', WHERE WHAT IT READS IS OF BULK AT MOST 1048576: true; the input reads as it did. -/
def partAllUptoRow : OpenClaim := { program := "ytkfnhbhfadhbkaa", sum := "5f6af669dd20541b258c4af0e7fc8d8894f0563ca513ba8310d43b2ea9457124", func := "hornbeam/hornbeamlaw17.PartAll", spec := "partAll", unfollowed := true, recurses := true, apart := false, narrowed := true }
def PartAllUptoSaid : Prop := partAllUptoRow.holds Try.pinned (OpenSpec.upto partAllSpec)

/-- 'hornbeamlaw17.PartTwice', WHERE WHAT IT READS IS OF BULK AT MOST 1048576: true; the input reads as it did. -/
def partTwiceUptoRow : OpenClaim := { program := "ytkfnhbhfadhbkaa", sum := "5f6af669dd20541b258c4af0e7fc8d8894f0563ca513ba8310d43b2ea9457124", func := "hornbeam/hornbeamlaw17.PartTwice", spec := "partTwice", unfollowed := true, recurses := true, apart := false, narrowed := true }
def PartTwiceUptoSaid : Prop := partTwiceUptoRow.holds Try.pinned (OpenSpec.upto partTwiceSpec)

/-- 'hornbeamlaw17.PartDrawn', WHERE WHAT IT READS IS OF BULK AT MOST 1048576: true; the input reads as it did. -/
def partDrawnUptoRow : OpenClaim := { program := "ytkfnhbhfadhbkaa", sum := "5f6af669dd20541b258c4af0e7fc8d8894f0563ca513ba8310d43b2ea9457124", func := "hornbeam/hornbeamlaw17.PartDrawn", spec := "partDrawn", unfollowed := true, recurses := true, apart := false, narrowed := true }
def PartDrawnUptoSaid : Prop := partDrawnUptoRow.holds Try.pinned (OpenSpec.upto partDrawnSpec)

/-- 'hornbeamlaw20.WalkMatrix', WHERE WHAT IT READS IS OF BULK AT MOST 1048576: true; the input reads as it did. -/
def walkMatrixUptoRow : OpenClaim := { program := "ytkfnhbhfadhbkaa", sum := "5f6af669dd20541b258c4af0e7fc8d8894f0563ca513ba8310d43b2ea9457124", func := "hornbeam/hornbeamlaw20.WalkMatrix", spec := "walkMatrix", unfollowed := true, recurses := true, apart := false, narrowed := true }
def WalkMatrixUptoSaid : Prop := walkMatrixUptoRow.holds Try.pinned (OpenSpec.upto walkMatrixSpec)

end Rows
end Go.Proofs.Ytkfnhbhfadhbkaa
