/-
  No cell of these rows narrows 'for every input' (looked for: loops, veiled, ifaces, maps, wideKeys, modest, calm, conditions, laid).
  DERIVED. THE GIVEN ROWS OF THIS SEAT. 9 by the template 'for every input the law returns true; each argument reads behind the call as it read before'; 0 by the template 'total and deterministic' (their statements: YtnagfbadjbkhmaaTotals.lean).
  GIVEN WITH THE SEED: the statements are not yours to turn. If you find one false, say at which input.
  Laid BY PROGRAM, IN A SANDBOX (cutbox-rows.mjs): the forced cells as the released guide's own fill.sh prints them over the translation 91748cf477c99d5d… (all of the seat's roots in one cut). By AI agents, Wed Nov 11 2026. No macro, syntax, notation, axiom, sorry.
-/
import Derived.Test.YtnagfbadjbkhmaaChecked
import GoSem.Claim
import GoSem.ClaimJoined
import GoSem.ClaimMapViews
import Derived.JoinedTies
import Derived.KernelRfl
namespace Go.Proofs.Ytnagfbadjbkhmaa
/- THE CELL 'sum', in the pinned program and in every row, IS THE sha256 OF THE DUMP (.gsa) THAT YtnagfbadjbkhmaaProg.lean LOADS. Nothing in Lean hashes anything: it is a label: what it is worth is what the hold of that sum in a sandbox is worth. -/
noncomputable def Try.pinned : Pinned := { name := "ytnagfbadjbkhmaa", sum := "91748cf477c99d5d4f6f6575b13666aa819f35d6d30fa4e3c038965c75417ef2", checked := Try.checked }
namespace Rows
def none {H : Type} : Left H := { results := [], args := [] }

/-- 'hornbeamlaw09.DatasetParts': WHATEVER THE INPUT: true; the input reads as it did. -/
def datasetPartsSpec : ChangeSpec := { name := "datasetParts", fn := fun _ => fun
  | [d1, d2] => { results := [.lit (.bool true)], args := [d1, d2] }
  | _ => none }
def datasetPartsRow : OpenClaim := { program := "ytnagfbadjbkhmaa", sum := "91748cf477c99d5d4f6f6575b13666aa819f35d6d30fa4e3c038965c75417ef2", func := "hornbeam/hornbeamlaw09.DatasetParts", spec := "datasetParts", inPlace := ["math.Float64frombits", "math.Float64bits"], unfollowed := true, recurses := true, apart := false }
def DatasetPartsSaid : Prop := datasetPartsRow.holds Try.pinned (OpenSpec.ofChange datasetPartsSpec)

/-- ITS FALSE NEIGHBOUR: 'it returns false'. Refute it at one input. -/
def datasetPartsWrong : ChangeSpec := { name := "datasetParts", fn := fun _ => fun
  | [d1, d2] => { results := [.lit (.bool false)], args := [d1, d2] }
  | _ => none }
def DatasetPartsWrongFalsely : Prop := datasetPartsRow.holds Try.pinned (OpenSpec.ofChange datasetPartsWrong)

/-- 'hornbeamlaw09.DatasetPuts': WHATEVER THE INPUT: true; the input reads as it did. -/
def datasetPutsSpec : ChangeSpec := { name := "datasetPuts", fn := fun _ => fun
  | [d] => { results := [.lit (.bool true)], args := [d] }
  | _ => none }
def datasetPutsRow : OpenClaim := { program := "ytnagfbadjbkhmaa", sum := "91748cf477c99d5d4f6f6575b13666aa819f35d6d30fa4e3c038965c75417ef2", func := "hornbeam/hornbeamlaw09.DatasetPuts", spec := "datasetPuts", inPlace := ["math.Float64frombits", "math.Float64bits"], unfollowed := true, recurses := true, apart := false }
def DatasetPutsSaid : Prop := datasetPutsRow.holds Try.pinned (OpenSpec.ofChange datasetPutsSpec)

/-- ITS FALSE NEIGHBOUR: 'it returns false'. Refute it at one input. -/
def datasetPutsWrong : ChangeSpec := { name := "datasetPuts", fn := fun _ => fun
  | [d] => { results := [.lit (.bool false)], args := [d] }
  | _ => none }
def DatasetPutsWrongFalsely : Prop := datasetPutsRow.holds Try.pinned (OpenSpec.ofChange datasetPutsWrong)

/-- 'hornbeamlaw09.DatasetGets': WHATEVER THE INPUT: true; the input reads as it did. -/
def datasetGetsSpec : ChangeSpec := { name := "datasetGets", fn := fun _ => fun
  | [d] => { results := [.lit (.bool true)], args := [d] }
  | _ => none }
def datasetGetsRow : OpenClaim := { program := "ytnagfbadjbkhmaa", sum := "91748cf477c99d5d4f6f6575b13666aa819f35d6d30fa4e3c038965c75417ef2", func := "hornbeam/hornbeamlaw09.DatasetGets", spec := "datasetGets", inPlace := ["math.Float64frombits", "math.Float64bits"], unfollowed := true, recurses := true, apart := false }
def DatasetGetsSaid : Prop := datasetGetsRow.holds Try.pinned (OpenSpec.ofChange datasetGetsSpec)

/-- ITS FALSE NEIGHBOUR: 'it returns false'. Refute it at one input. -/
def datasetGetsWrong : ChangeSpec := { name := "datasetGets", fn := fun _ => fun
  | [d] => { results := [.lit (.bool false)], args := [d] }
  | _ => none }
def DatasetGetsWrongFalsely : Prop := datasetGetsRow.holds Try.pinned (OpenSpec.ofChange datasetGetsWrong)

/-- 'hornbeamlaw09.DatasetCuts': WHATEVER THE INPUT: true; the input reads as it did. -/
def datasetCutsSpec : ChangeSpec := { name := "datasetCuts", fn := fun _ => fun
  | [d1, d2, d3] => { results := [.lit (.bool true)], args := [d1, d2, d3] }
  | _ => none }
def datasetCutsRow : OpenClaim := { program := "ytnagfbadjbkhmaa", sum := "91748cf477c99d5d4f6f6575b13666aa819f35d6d30fa4e3c038965c75417ef2", func := "hornbeam/hornbeamlaw09.DatasetCuts", spec := "datasetCuts", inPlace := ["math.Float64frombits", "math.Float64bits"], unfollowed := true, recurses := true, apart := false }
def DatasetCutsSaid : Prop := datasetCutsRow.holds Try.pinned (OpenSpec.ofChange datasetCutsSpec)

/-- ITS FALSE NEIGHBOUR: 'it returns false'. Refute it at one input. -/
def datasetCutsWrong : ChangeSpec := { name := "datasetCuts", fn := fun _ => fun
  | [d1, d2, d3] => { results := [.lit (.bool false)], args := [d1, d2, d3] }
  | _ => none }
def DatasetCutsWrongFalsely : Prop := datasetCutsRow.holds Try.pinned (OpenSpec.ofChange datasetCutsWrong)

/-- 'hornbeamlaw11.BinsOf': WHATEVER THE INPUT: true; the input reads as it did. -/
def binsOfSpec : ChangeSpec := { name := "binsOf", fn := fun _ => fun
  | [d1, d2] => { results := [.lit (.bool true)], args := [d1, d2] }
  | _ => none }
def binsOfRow : OpenClaim := { program := "ytnagfbadjbkhmaa", sum := "91748cf477c99d5d4f6f6575b13666aa819f35d6d30fa4e3c038965c75417ef2", func := "hornbeam/hornbeamlaw11.BinsOf", spec := "binsOf", inPlace := ["math.Float64frombits", "math.Float64bits"], unfollowed := true, recurses := true, apart := false }
def BinsOfSaid : Prop := binsOfRow.holds Try.pinned (OpenSpec.ofChange binsOfSpec)

/-- ITS FALSE NEIGHBOUR: 'it returns false'. Refute it at one input. -/
def binsOfWrong : ChangeSpec := { name := "binsOf", fn := fun _ => fun
  | [d1, d2] => { results := [.lit (.bool false)], args := [d1, d2] }
  | _ => none }
def BinsOfWrongFalsely : Prop := binsOfRow.holds Try.pinned (OpenSpec.ofChange binsOfWrong)

/-- 'hornbeamlaw11.BinsTurns': WHATEVER THE INPUT: true; the input reads as it did. -/
def binsTurnsSpec : ChangeSpec := { name := "binsTurns", fn := fun _ => fun
  | [d1, d2, d3] => { results := [.lit (.bool true)], args := [d1, d2, d3] }
  | _ => none }
def binsTurnsRow : OpenClaim := { program := "ytnagfbadjbkhmaa", sum := "91748cf477c99d5d4f6f6575b13666aa819f35d6d30fa4e3c038965c75417ef2", func := "hornbeam/hornbeamlaw11.BinsTurns", spec := "binsTurns", inPlace := ["math.Float64frombits", "math.Float64bits"], unfollowed := true, recurses := true, apart := false }
def BinsTurnsSaid : Prop := binsTurnsRow.holds Try.pinned (OpenSpec.ofChange binsTurnsSpec)

/-- ITS FALSE NEIGHBOUR: 'it returns false'. Refute it at one input. -/
def binsTurnsWrong : ChangeSpec := { name := "binsTurns", fn := fun _ => fun
  | [d1, d2, d3] => { results := [.lit (.bool false)], args := [d1, d2, d3] }
  | _ => none }
def BinsTurnsWrongFalsely : Prop := binsTurnsRow.holds Try.pinned (OpenSpec.ofChange binsTurnsWrong)

/-- 'hornbeamlaw11.BinsBack': WHATEVER THE INPUT: true; the input reads as it did. -/
def binsBackSpec : ChangeSpec := { name := "binsBack", fn := fun _ => fun
  | [d1, d2, d3] => { results := [.lit (.bool true)], args := [d1, d2, d3] }
  | _ => none }
def binsBackRow : OpenClaim := { program := "ytnagfbadjbkhmaa", sum := "91748cf477c99d5d4f6f6575b13666aa819f35d6d30fa4e3c038965c75417ef2", func := "hornbeam/hornbeamlaw11.BinsBack", spec := "binsBack", inPlace := ["math.Float64frombits", "math.Float64bits"], unfollowed := true, recurses := true, apart := false }
def BinsBackSaid : Prop := binsBackRow.holds Try.pinned (OpenSpec.ofChange binsBackSpec)

/-- ITS FALSE NEIGHBOUR: 'it returns false'. Refute it at one input. -/
def binsBackWrong : ChangeSpec := { name := "binsBack", fn := fun _ => fun
  | [d1, d2, d3] => { results := [.lit (.bool false)], args := [d1, d2, d3] }
  | _ => none }
def BinsBackWrongFalsely : Prop := binsBackRow.holds Try.pinned (OpenSpec.ofChange binsBackWrong)

/-- 'hornbeamlaw11.BinsOrder': WHATEVER THE INPUT: true; the input reads as it did. -/
def binsOrderSpec : ChangeSpec := { name := "binsOrder", fn := fun _ => fun
  | [d] => { results := [.lit (.bool true)], args := [d] }
  | _ => none }
def binsOrderRow : OpenClaim := { program := "ytnagfbadjbkhmaa", sum := "91748cf477c99d5d4f6f6575b13666aa819f35d6d30fa4e3c038965c75417ef2", func := "hornbeam/hornbeamlaw11.BinsOrder", spec := "binsOrder", inPlace := ["math.Float64frombits", "math.Float64bits"], unfollowed := true, recurses := true, apart := false }
def BinsOrderSaid : Prop := binsOrderRow.holds Try.pinned (OpenSpec.ofChange binsOrderSpec)

/-- ITS FALSE NEIGHBOUR: 'it returns false'. Refute it at one input. -/
def binsOrderWrong : ChangeSpec := { name := "binsOrder", fn := fun _ => fun
  | [d] => { results := [.lit (.bool false)], args := [d] }
  | _ => none }
def BinsOrderWrongFalsely : Prop := binsOrderRow.holds Try.pinned (OpenSpec.ofChange binsOrderWrong)

/-- 'hornbeamlaw11.BinsCells': WHATEVER THE INPUT: true; the input reads as it did. -/
def binsCellsSpec : ChangeSpec := { name := "binsCells", fn := fun _ => fun
  | [d1, d2, d3] => { results := [.lit (.bool true)], args := [d1, d2, d3] }
  | _ => none }
def binsCellsRow : OpenClaim := { program := "ytnagfbadjbkhmaa", sum := "91748cf477c99d5d4f6f6575b13666aa819f35d6d30fa4e3c038965c75417ef2", func := "hornbeam/hornbeamlaw11.BinsCells", spec := "binsCells", inPlace := ["math.Float64frombits", "math.Float64bits"], unfollowed := true, recurses := true, apart := false }
def BinsCellsSaid : Prop := binsCellsRow.holds Try.pinned (OpenSpec.ofChange binsCellsSpec)

/-- ITS FALSE NEIGHBOUR: 'it returns false'. Refute it at one input. -/
def binsCellsWrong : ChangeSpec := { name := "binsCells", fn := fun _ => fun
  | [d1, d2, d3] => { results := [.lit (.bool false)], args := [d1, d2, d3] }
  | _ => none }
def BinsCellsWrongFalsely : Prop := binsCellsRow.holds Try.pinned (OpenSpec.ofChange binsCellsWrong)

/- THE SECOND FORM. 'bulk': how many values and letters a reading holds, each counted each time it is reached (what is shared counts as often as it is met; a slice's spare places count too). A statement '..UptoSaid' is the law's where the arguments, and the package variables that the reading takes, are together of bulk at most 1048576: NARROWER than '..Said'. Prove '..Said' where nothing that the law and all that it calls make is longer than what came in: it says more and counts as full. Else prove '..UptoSaid'. A law counts once. -/
mutual
def uptoBulk {H : Type} : DataW H → Nat
  | .lit (.string bytes) => bytes.length + 1
  | .lit _ => 1
  | .nil => 1
  | .ptr d => uptoBulk d + 1
  | .slice elems spare => uptoBulkAll elems + uptoBulkAll spare + 1
  | .agg parts => uptoBulkAll parts + 1
  | .iface _ d => uptoBulk d + 1
  | .map entries => uptoBulkEntries entries + 1
  | .held _ => 1
def uptoBulkAll {H : Type} : List (DataW H) → Nat
  | [] => 0
  | d :: r => uptoBulk d + uptoBulkAll r
def uptoBulkEntries {H : Type} : List (Lit × DataW H) → Nat
  | [] => 0
  | x :: r => uptoBulkEntry x + uptoBulkEntries r
def uptoBulkEntry {H : Type} : Lit × DataW H → Nat
  | (.string bytes, d) => bytes.length + uptoBulk d + 1
  | (_, d) => uptoBulk d + 1
 end
def uptoSmall : (H : Type) → List (DataW H) → Bool := fun _ ds => decide (uptoBulkAll ds ≤ 1048576)
def OpenSpec.upto (s : _root_.Go.ChangeSpec) : _root_.Go.OpenSpec := { _root_.Go.OpenSpec.ofChange s with cond := some uptoSmall }

/-- 'hornbeamlaw09.DatasetParts', WHERE WHAT IT READS IS OF BULK AT MOST 1048576: true; the input reads as it did. -/
def datasetPartsUptoRow : OpenClaim := { program := "ytnagfbadjbkhmaa", sum := "91748cf477c99d5d4f6f6575b13666aa819f35d6d30fa4e3c038965c75417ef2", func := "hornbeam/hornbeamlaw09.DatasetParts", spec := "datasetParts", inPlace := ["math.Float64frombits", "math.Float64bits"], unfollowed := true, recurses := true, apart := false, narrowed := true }
def DatasetPartsUptoSaid : Prop := datasetPartsUptoRow.holds Try.pinned (OpenSpec.upto datasetPartsSpec)

/-- 'hornbeamlaw09.DatasetPuts', WHERE WHAT IT READS IS OF BULK AT MOST 1048576: true; the input reads as it did. -/
def datasetPutsUptoRow : OpenClaim := { program := "ytnagfbadjbkhmaa", sum := "91748cf477c99d5d4f6f6575b13666aa819f35d6d30fa4e3c038965c75417ef2", func := "hornbeam/hornbeamlaw09.DatasetPuts", spec := "datasetPuts", inPlace := ["math.Float64frombits", "math.Float64bits"], unfollowed := true, recurses := true, apart := false, narrowed := true }
def DatasetPutsUptoSaid : Prop := datasetPutsUptoRow.holds Try.pinned (OpenSpec.upto datasetPutsSpec)

/-- 'hornbeamlaw09.DatasetGets', WHERE WHAT IT READS IS OF BULK AT MOST 1048576: true; the input reads as it did. -/
def datasetGetsUptoRow : OpenClaim := { program := "ytnagfbadjbkhmaa", sum := "91748cf477c99d5d4f6f6575b13666aa819f35d6d30fa4e3c038965c75417ef2", func := "hornbeam/hornbeamlaw09.DatasetGets", spec := "datasetGets", inPlace := ["math.Float64frombits", "math.Float64bits"], unfollowed := true, recurses := true, apart := false, narrowed := true }
def DatasetGetsUptoSaid : Prop := datasetGetsUptoRow.holds Try.pinned (OpenSpec.upto datasetGetsSpec)

/-- 'hornbeamlaw09.DatasetCuts', WHERE WHAT IT READS IS OF BULK AT MOST 1048576: true; the input reads as it did. -/
def datasetCutsUptoRow : OpenClaim := { program := "ytnagfbadjbkhmaa", sum := "91748cf477c99d5d4f6f6575b13666aa819f35d6d30fa4e3c038965c75417ef2", func := "hornbeam/hornbeamlaw09.DatasetCuts", spec := "datasetCuts", inPlace := ["math.Float64frombits", "math.Float64bits"], unfollowed := true, recurses := true, apart := false, narrowed := true }
def DatasetCutsUptoSaid : Prop := datasetCutsUptoRow.holds Try.pinned (OpenSpec.upto datasetCutsSpec)

/-- 'hornbeamlaw11.BinsOf', WHERE WHAT IT READS IS OF BULK AT MOST 1048576: true; the input reads as it did. -/
def binsOfUptoRow : OpenClaim := { program := "ytnagfbadjbkhmaa", sum := "91748cf477c99d5d4f6f6575b13666aa819f35d6d30fa4e3c038965c75417ef2", func := "hornbeam/hornbeamlaw11.BinsOf", spec := "binsOf", inPlace := ["math.Float64frombits", "math.Float64bits"], unfollowed := true, recurses := true, apart := false, narrowed := true }
def BinsOfUptoSaid : Prop := binsOfUptoRow.holds Try.pinned (OpenSpec.upto binsOfSpec)

/-- 'hornbeamlaw11.BinsTurns', WHERE WHAT IT READS IS OF BULK AT MOST 1048576: true; the input reads as it did. -/
def binsTurnsUptoRow : OpenClaim := { program := "ytnagfbadjbkhmaa", sum := "91748cf477c99d5d4f6f6575b13666aa819f35d6d30fa4e3c038965c75417ef2", func := "hornbeam/hornbeamlaw11.BinsTurns", spec := "binsTurns", inPlace := ["math.Float64frombits", "math.Float64bits"], unfollowed := true, recurses := true, apart := false, narrowed := true }
def BinsTurnsUptoSaid : Prop := binsTurnsUptoRow.holds Try.pinned (OpenSpec.upto binsTurnsSpec)

/-- 'hornbeamlaw11.BinsBack', WHERE WHAT IT READS IS OF BULK AT MOST 1048576: true; the input reads as it did. -/
def binsBackUptoRow : OpenClaim := { program := "ytnagfbadjbkhmaa", sum := "91748cf477c99d5d4f6f6575b13666aa819f35d6d30fa4e3c038965c75417ef2", func := "hornbeam/hornbeamlaw11.BinsBack", spec := "binsBack", inPlace := ["math.Float64frombits", "math.Float64bits"], unfollowed := true, recurses := true, apart := false, narrowed := true }
def BinsBackUptoSaid : Prop := binsBackUptoRow.holds Try.pinned (OpenSpec.upto binsBackSpec)

/-- 'hornbeamlaw11.BinsOrder', WHERE WHAT IT READS IS OF BULK AT MOST 1048576: true; the input reads as it did. -/
def binsOrderUptoRow : OpenClaim := { program := "ytnagfbadjbkhmaa", sum := "91748cf477c99d5d4f6f6575b13666aa819f35d6d30fa4e3c038965c75417ef2", func := "hornbeam/hornbeamlaw11.BinsOrder", spec := "binsOrder", inPlace := ["math.Float64frombits", "math.Float64bits"], unfollowed := true, recurses := true, apart := false, narrowed := true }
def BinsOrderUptoSaid : Prop := binsOrderUptoRow.holds Try.pinned (OpenSpec.upto binsOrderSpec)

/-- 'hornbeamlaw11.BinsCells', WHERE WHAT IT READS IS OF BULK AT MOST 1048576: true; the input reads as it did. -/
def binsCellsUptoRow : OpenClaim := { program := "ytnagfbadjbkhmaa", sum := "91748cf477c99d5d4f6f6575b13666aa819f35d6d30fa4e3c038965c75417ef2", func := "hornbeam/hornbeamlaw11.BinsCells", spec := "binsCells", inPlace := ["math.Float64frombits", "math.Float64bits"], unfollowed := true, recurses := true, apart := false, narrowed := true }
def BinsCellsUptoSaid : Prop := binsCellsUptoRow.holds Try.pinned (OpenSpec.upto binsCellsSpec)

end Rows
end Go.Proofs.Ytnagfbadjbkhmaa
