/-
  No cell of these rows narrows 'for every input' (looked for: loops, veiled, ifaces, maps, wideKeys, modest, calm, conditions, laid).
  DERIVED. THE GIVEN ROWS OF THIS SEAT. 12 by the template 'for every input the law returns true; each argument reads behind the call as it read before'; 0 by the template 'total and deterministic' (their statements: YtlmmlhljflladaaTotals.lean).
  GIVEN WITH THE SEED: the statements are not yours to turn. If you find one false, say at which input.
  Laid BY PROGRAM, IN A SANDBOX (cutbox-rows.mjs): the forced cells as the released guide's own fill.sh prints them over the translation 96ceaf396588b7f3… (all of the seat's roots in one cut). By AI agents, Wed Nov 11 2026. No macro, syntax, notation, axiom, sorry.
-/
import Derived.Test.YtlmmlhljflladaaChecked
import GoSem.Claim
import GoSem.ClaimJoined
import GoSem.ClaimMapViews
import Derived.JoinedTies
import Derived.KernelRfl
namespace Go.Proofs.Ytlmmlhljflladaa
/- THE CELL 'sum', in the pinned program and in every row, IS THE sha256 OF THE DUMP (.gsa) THAT YtlmmlhljflladaaProg.lean LOADS. Nothing in Lean hashes anything: it is a label: what it is worth is what the hold of that sum in a sandbox is worth. -/
noncomputable def Try.pinned : Pinned := { name := "ytlmmlhljflladaa", sum := "96ceaf396588b7f334ad2be2309de1e3ae97d1192416f6ee2488eeebe67ec57c", checked := Try.checked }
namespace Rows
def none {H : Type} : Left H := { results := [], args := [] }

/-- 'hornbeamlaw06.RankKeys': WHATEVER THE INPUT: true; the input reads as it did. -/
def rankKeysSpec : ChangeSpec := { name := "rankKeys", fn := fun _ => fun
  | [d] => { results := [.lit (.bool true)], args := [d] }
  | _ => none }
def rankKeysRow : OpenClaim := { program := "ytlmmlhljflladaa", sum := "96ceaf396588b7f334ad2be2309de1e3ae97d1192416f6ee2488eeebe67ec57c", func := "hornbeam/hornbeamlaw06.RankKeys", spec := "rankKeys", inPlace := ["math.Float64frombits", "math.Float64bits"], apart := false }
def RankKeysSaid : Prop := rankKeysRow.holds Try.pinned (OpenSpec.ofChange rankKeysSpec)

/-- ITS FALSE NEIGHBOUR: 'it returns false'. Refute it at one input. -/
def rankKeysWrong : ChangeSpec := { name := "rankKeys", fn := fun _ => fun
  | [d] => { results := [.lit (.bool false)], args := [d] }
  | _ => none }
def RankKeysWrongFalsely : Prop := rankKeysRow.holds Try.pinned (OpenSpec.ofChange rankKeysWrong)

/-- 'hornbeamlaw06.RankOf': WHATEVER THE INPUT: true; the input reads as it did. -/
def rankOfSpec : ChangeSpec := { name := "rankOf", fn := fun _ => fun
  | [d] => { results := [.lit (.bool true)], args := [d] }
  | _ => none }
def rankOfRow : OpenClaim := { program := "ytlmmlhljflladaa", sum := "96ceaf396588b7f334ad2be2309de1e3ae97d1192416f6ee2488eeebe67ec57c", func := "hornbeam/hornbeamlaw06.RankOf", spec := "rankOf", inPlace := ["math.Float64frombits", "math.Float64bits"], apart := false }
def RankOfSaid : Prop := rankOfRow.holds Try.pinned (OpenSpec.ofChange rankOfSpec)

/-- ITS FALSE NEIGHBOUR: 'it returns false'. Refute it at one input. -/
def rankOfWrong : ChangeSpec := { name := "rankOf", fn := fun _ => fun
  | [d] => { results := [.lit (.bool false)], args := [d] }
  | _ => none }
def RankOfWrongFalsely : Prop := rankOfRow.holds Try.pinned (OpenSpec.ofChange rankOfWrong)

/-- 'hornbeamlaw06.RankOrder': WHATEVER THE INPUT: true; the input reads as it did. -/
def rankOrderSpec : ChangeSpec := { name := "rankOrder", fn := fun _ => fun
  | [d1, d2] => { results := [.lit (.bool true)], args := [d1, d2] }
  | _ => none }
def rankOrderRow : OpenClaim := { program := "ytlmmlhljflladaa", sum := "96ceaf396588b7f334ad2be2309de1e3ae97d1192416f6ee2488eeebe67ec57c", func := "hornbeam/hornbeamlaw06.RankOrder", spec := "rankOrder", inPlace := ["math.Float64frombits", "math.Float64bits"], apart := false }
def RankOrderSaid : Prop := rankOrderRow.holds Try.pinned (OpenSpec.ofChange rankOrderSpec)

/-- ITS FALSE NEIGHBOUR: 'it returns false'. Refute it at one input. -/
def rankOrderWrong : ChangeSpec := { name := "rankOrder", fn := fun _ => fun
  | [d1, d2] => { results := [.lit (.bool false)], args := [d1, d2] }
  | _ => none }
def RankOrderWrongFalsely : Prop := rankOrderRow.holds Try.pinned (OpenSpec.ofChange rankOrderWrong)

/-- 'hornbeamlaw06.RankChains': WHATEVER THE INPUT: true; the input reads as it did. -/
def rankChainsSpec : ChangeSpec := { name := "rankChains", fn := fun _ => fun
  | [d1, d2, d3] => { results := [.lit (.bool true)], args := [d1, d2, d3] }
  | _ => none }
def rankChainsRow : OpenClaim := { program := "ytlmmlhljflladaa", sum := "96ceaf396588b7f334ad2be2309de1e3ae97d1192416f6ee2488eeebe67ec57c", func := "hornbeam/hornbeamlaw06.RankChains", spec := "rankChains", inPlace := ["math.Float64frombits", "math.Float64bits"], apart := false }
def RankChainsSaid : Prop := rankChainsRow.holds Try.pinned (OpenSpec.ofChange rankChainsSpec)

/-- ITS FALSE NEIGHBOUR: 'it returns false'. Refute it at one input. -/
def rankChainsWrong : ChangeSpec := { name := "rankChains", fn := fun _ => fun
  | [d1, d2, d3] => { results := [.lit (.bool false)], args := [d1, d2, d3] }
  | _ => none }
def RankChainsWrongFalsely : Prop := rankChainsRow.holds Try.pinned (OpenSpec.ofChange rankChainsWrong)

/-- 'hornbeamlaw06.RankSorts': WHATEVER THE INPUT: true; the input reads as it did. -/
def rankSortsSpec : ChangeSpec := { name := "rankSorts", fn := fun _ => fun
  | [d] => { results := [.lit (.bool true)], args := [d] }
  | _ => none }
def rankSortsRow : OpenClaim := { program := "ytlmmlhljflladaa", sum := "96ceaf396588b7f334ad2be2309de1e3ae97d1192416f6ee2488eeebe67ec57c", func := "hornbeam/hornbeamlaw06.RankSorts", spec := "rankSorts", inPlace := ["math.Float64frombits", "math.Float64bits"], unfollowed := true, recurses := true, apart := false }
def RankSortsSaid : Prop := rankSortsRow.holds Try.pinned (OpenSpec.ofChange rankSortsSpec)

/-- ITS FALSE NEIGHBOUR: 'it returns false'. Refute it at one input. -/
def rankSortsWrong : ChangeSpec := { name := "rankSorts", fn := fun _ => fun
  | [d] => { results := [.lit (.bool false)], args := [d] }
  | _ => none }
def RankSortsWrongFalsely : Prop := rankSortsRow.holds Try.pinned (OpenSpec.ofChange rankSortsWrong)

/-- 'hornbeamlaw10.EdgesCut': WHATEVER THE INPUT: true; the input reads as it did. -/
def edgesCutSpec : ChangeSpec := { name := "edgesCut", fn := fun _ => fun
  | [d1, d2] => { results := [.lit (.bool true)], args := [d1, d2] }
  | _ => none }
def edgesCutRow : OpenClaim := { program := "ytlmmlhljflladaa", sum := "96ceaf396588b7f334ad2be2309de1e3ae97d1192416f6ee2488eeebe67ec57c", func := "hornbeam/hornbeamlaw10.EdgesCut", spec := "edgesCut", inPlace := ["math.Float64frombits", "math.Float64bits"], unfollowed := true, recurses := true, apart := false }
def EdgesCutSaid : Prop := edgesCutRow.holds Try.pinned (OpenSpec.ofChange edgesCutSpec)

/-- ITS FALSE NEIGHBOUR: 'it returns false'. Refute it at one input. -/
def edgesCutWrong : ChangeSpec := { name := "edgesCut", fn := fun _ => fun
  | [d1, d2] => { results := [.lit (.bool false)], args := [d1, d2] }
  | _ => none }
def EdgesCutWrongFalsely : Prop := edgesCutRow.holds Try.pinned (OpenSpec.ofChange edgesCutWrong)

/-- 'hornbeamlaw10.EdgesEven': WHATEVER THE INPUT: true; the input reads as it did. -/
def edgesEvenSpec : ChangeSpec := { name := "edgesEven", fn := fun _ => fun
  | [d1, d2] => { results := [.lit (.bool true)], args := [d1, d2] }
  | _ => none }
def edgesEvenRow : OpenClaim := { program := "ytlmmlhljflladaa", sum := "96ceaf396588b7f334ad2be2309de1e3ae97d1192416f6ee2488eeebe67ec57c", func := "hornbeam/hornbeamlaw10.EdgesEven", spec := "edgesEven", inPlace := ["math.Float64frombits", "math.Float64bits"], unfollowed := true, recurses := true, apart := false }
def EdgesEvenSaid : Prop := edgesEvenRow.holds Try.pinned (OpenSpec.ofChange edgesEvenSpec)

/-- ITS FALSE NEIGHBOUR: 'it returns false'. Refute it at one input. -/
def edgesEvenWrong : ChangeSpec := { name := "edgesEven", fn := fun _ => fun
  | [d1, d2] => { results := [.lit (.bool false)], args := [d1, d2] }
  | _ => none }
def EdgesEvenWrongFalsely : Prop := edgesEvenRow.holds Try.pinned (OpenSpec.ofChange edgesEvenWrong)

/-- 'hornbeamlaw10.EdgesOrder': WHATEVER THE INPUT: true; the input reads as it did. -/
def edgesOrderSpec : ChangeSpec := { name := "edgesOrder", fn := fun _ => fun
  | [d1, d2, d3] => { results := [.lit (.bool true)], args := [d1, d2, d3] }
  | _ => none }
def edgesOrderRow : OpenClaim := { program := "ytlmmlhljflladaa", sum := "96ceaf396588b7f334ad2be2309de1e3ae97d1192416f6ee2488eeebe67ec57c", func := "hornbeam/hornbeamlaw10.EdgesOrder", spec := "edgesOrder", inPlace := ["math.Float64frombits", "math.Float64bits"], unfollowed := true, recurses := true, apart := false }
def EdgesOrderSaid : Prop := edgesOrderRow.holds Try.pinned (OpenSpec.ofChange edgesOrderSpec)

/-- ITS FALSE NEIGHBOUR: 'it returns false'. Refute it at one input. -/
def edgesOrderWrong : ChangeSpec := { name := "edgesOrder", fn := fun _ => fun
  | [d1, d2, d3] => { results := [.lit (.bool false)], args := [d1, d2, d3] }
  | _ => none }
def EdgesOrderWrongFalsely : Prop := edgesOrderRow.holds Try.pinned (OpenSpec.ofChange edgesOrderWrong)

/-- 'hornbeamlaw10.EdgesOf': WHATEVER THE INPUT: true; the input reads as it did. -/
def edgesOfSpec : ChangeSpec := { name := "edgesOf", fn := fun _ => fun
  | [d1, d2] => { results := [.lit (.bool true)], args := [d1, d2] }
  | _ => none }
def edgesOfRow : OpenClaim := { program := "ytlmmlhljflladaa", sum := "96ceaf396588b7f334ad2be2309de1e3ae97d1192416f6ee2488eeebe67ec57c", func := "hornbeam/hornbeamlaw10.EdgesOf", spec := "edgesOf", inPlace := ["math.Float64frombits", "math.Float64bits"], unfollowed := true, recurses := true, apart := false }
def EdgesOfSaid : Prop := edgesOfRow.holds Try.pinned (OpenSpec.ofChange edgesOfSpec)

/-- ITS FALSE NEIGHBOUR: 'it returns false'. Refute it at one input. -/
def edgesOfWrong : ChangeSpec := { name := "edgesOf", fn := fun _ => fun
  | [d1, d2] => { results := [.lit (.bool false)], args := [d1, d2] }
  | _ => none }
def EdgesOfWrongFalsely : Prop := edgesOfRow.holds Try.pinned (OpenSpec.ofChange edgesOfWrong)

/-- 'hornbeamlaw10.EdgesBins': WHATEVER THE INPUT: true; the input reads as it did. -/
def edgesBinsSpec : ChangeSpec := { name := "edgesBins", fn := fun _ => fun
  | [d1, d2] => { results := [.lit (.bool true)], args := [d1, d2] }
  | _ => none }
def edgesBinsRow : OpenClaim := { program := "ytlmmlhljflladaa", sum := "96ceaf396588b7f334ad2be2309de1e3ae97d1192416f6ee2488eeebe67ec57c", func := "hornbeam/hornbeamlaw10.EdgesBins", spec := "edgesBins", inPlace := ["math.Float64frombits", "math.Float64bits"], unfollowed := true, recurses := true, apart := false }
def EdgesBinsSaid : Prop := edgesBinsRow.holds Try.pinned (OpenSpec.ofChange edgesBinsSpec)

/-- ITS FALSE NEIGHBOUR: 'it returns false'. Refute it at one input. -/
def edgesBinsWrong : ChangeSpec := { name := "edgesBins", fn := fun _ => fun
  | [d1, d2] => { results := [.lit (.bool false)], args := [d1, d2] }
  | _ => none }
def EdgesBinsWrongFalsely : Prop := edgesBinsRow.holds Try.pinned (OpenSpec.ofChange edgesBinsWrong)

/-- 'hornbeamlaw20.WalkRows': WHATEVER THE INPUT: true; the input reads as it did. -/
def walkRowsSpec : ChangeSpec := { name := "walkRows", fn := fun _ => fun
  | [d1, d2] => { results := [.lit (.bool true)], args := [d1, d2] }
  | _ => none }
def walkRowsRow : OpenClaim := { program := "ytlmmlhljflladaa", sum := "96ceaf396588b7f334ad2be2309de1e3ae97d1192416f6ee2488eeebe67ec57c", func := "hornbeam/hornbeamlaw20.WalkRows", spec := "walkRows", inPlace := ["math.Float64frombits", "math.Float64bits"], unfollowed := true, recurses := true, apart := false }
def WalkRowsSaid : Prop := walkRowsRow.holds Try.pinned (OpenSpec.ofChange walkRowsSpec)

/-- ITS FALSE NEIGHBOUR: 'it returns false'. Refute it at one input. -/
def walkRowsWrong : ChangeSpec := { name := "walkRows", fn := fun _ => fun
  | [d1, d2] => { results := [.lit (.bool false)], args := [d1, d2] }
  | _ => none }
def WalkRowsWrongFalsely : Prop := walkRowsRow.holds Try.pinned (OpenSpec.ofChange walkRowsWrong)

/-- 'hornbeamlaw20.WalkValues': WHATEVER THE INPUT: true; the input reads as it did. -/
def walkValuesSpec : ChangeSpec := { name := "walkValues", fn := fun _ => fun
  | [d1, d2, d3] => { results := [.lit (.bool true)], args := [d1, d2, d3] }
  | _ => none }
def walkValuesRow : OpenClaim := { program := "ytlmmlhljflladaa", sum := "96ceaf396588b7f334ad2be2309de1e3ae97d1192416f6ee2488eeebe67ec57c", func := "hornbeam/hornbeamlaw20.WalkValues", spec := "walkValues", inPlace := ["math.Float64frombits", "math.Float64bits"], unfollowed := true, recurses := true, apart := false }
def WalkValuesSaid : Prop := walkValuesRow.holds Try.pinned (OpenSpec.ofChange walkValuesSpec)

/-- ITS FALSE NEIGHBOUR: 'it returns false'. Refute it at one input. -/
def walkValuesWrong : ChangeSpec := { name := "walkValues", fn := fun _ => fun
  | [d1, d2, d3] => { results := [.lit (.bool false)], args := [d1, d2, d3] }
  | _ => none }
def WalkValuesWrongFalsely : Prop := walkValuesRow.holds Try.pinned (OpenSpec.ofChange walkValuesWrong)

/- THE SECOND FORM. 'bulk': how many values and letters a reading holds, each counted each time it is reached (what is shared counts as often as it is met; a slice's spare places count too). A statement '..UptoSaid' is the law's where the arguments, and the package variables that the reading takes, are together of bulk at most 1048576: NARROWER than '..Said'. Prove '..Said' where nothing that the law and all that it calls make is longer than what came in: it says more and counts as full. Else prove '..UptoSaid'. A law counts once. -/
mutual
def uptoBulk {H : Type} : DataW H → Nat
  | .lit (.string bytes) => bytes.length + 1
  | .lit _ => 1
  | .nil => 1
  | .ptr d => uptoBulk d + 1
  | .slice elems spare => uptoBulkAll elems + uptoBulkAll spare + 1
  | .agg parts => uptoBulkAll parts + 1
  | .iface _ d => uptoBulk d + 1
  | .map entries => uptoBulkEntries entries + 1
  | .held _ => 1
def uptoBulkAll {H : Type} : List (DataW H) → Nat
  | [] => 0
  | d :: r => uptoBulk d + uptoBulkAll r
def uptoBulkEntries {H : Type} : List (Lit × DataW H) → Nat
  | [] => 0
  | x :: r => uptoBulkEntry x + uptoBulkEntries r
def uptoBulkEntry {H : Type} : Lit × DataW H → Nat
  | (.string bytes, d) => bytes.length + uptoBulk d + 1
  | (_, d) => uptoBulk d + 1
 end
def uptoSmall : (H : Type) → List (DataW H) → Bool := fun _ ds => decide (uptoBulkAll ds ≤ 1048576)
def OpenSpec.upto (s : _root_.Go.ChangeSpec) : _root_.Go.OpenSpec := { _root_.Go.OpenSpec.ofChange s with cond := some uptoSmall }

/-- 'hornbeamlaw06.RankKeys', WHERE WHAT IT READS IS OF BULK AT MOST 1048576: true; the input reads as it did. -/
def rankKeysUptoRow : OpenClaim := { program := "ytlmmlhljflladaa", sum := "96ceaf396588b7f334ad2be2309de1e3ae97d1192416f6ee2488eeebe67ec57c", func := "hornbeam/hornbeamlaw06.RankKeys", spec := "rankKeys", inPlace := ["math.Float64frombits", "math.Float64bits"], apart := false, narrowed := true }
def RankKeysUptoSaid : Prop := rankKeysUptoRow.holds Try.pinned (OpenSpec.upto rankKeysSpec)

/-- 'hornbeamlaw06.RankOf', WHERE WHAT IT READS IS OF BULK AT MOST 1048576: true; the input reads as it did. -/
def rankOfUptoRow : OpenClaim := { program := "ytlmmlhljflladaa", sum := "96ceaf396588b7f334ad2be2309de1e3ae97d1192416f6ee2488eeebe67ec57c", func := "hornbeam/hornbeamlaw06.RankOf", spec := "rankOf", inPlace := ["math.Float64frombits", "math.Float64bits"], apart := false, narrowed := true }
def RankOfUptoSaid : Prop := rankOfUptoRow.holds Try.pinned (OpenSpec.upto rankOfSpec)

/-- 'hornbeamlaw06.RankOrder', WHERE WHAT IT READS IS OF BULK AT MOST 1048576: true; the input reads as it did. -/
def rankOrderUptoRow : OpenClaim := { program := "ytlmmlhljflladaa", sum := "96ceaf396588b7f334ad2be2309de1e3ae97d1192416f6ee2488eeebe67ec57c", func := "hornbeam/hornbeamlaw06.RankOrder", spec := "rankOrder", inPlace := ["math.Float64frombits", "math.Float64bits"], apart := false, narrowed := true }
def RankOrderUptoSaid : Prop := rankOrderUptoRow.holds Try.pinned (OpenSpec.upto rankOrderSpec)

/-- 'hornbeamlaw06.RankChains', WHERE WHAT IT READS IS OF BULK AT MOST 1048576: true; the input reads as it did. -/
def rankChainsUptoRow : OpenClaim := { program := "ytlmmlhljflladaa", sum := "96ceaf396588b7f334ad2be2309de1e3ae97d1192416f6ee2488eeebe67ec57c", func := "hornbeam/hornbeamlaw06.RankChains", spec := "rankChains", inPlace := ["math.Float64frombits", "math.Float64bits"], apart := false, narrowed := true }
def RankChainsUptoSaid : Prop := rankChainsUptoRow.holds Try.pinned (OpenSpec.upto rankChainsSpec)

/-- 'hornbeamlaw06.RankSorts', WHERE WHAT IT READS IS OF BULK AT MOST 1048576: true; the input reads as it did. -/
def rankSortsUptoRow : OpenClaim := { program := "ytlmmlhljflladaa", sum := "96ceaf396588b7f334ad2be2309de1e3ae97d1192416f6ee2488eeebe67ec57c", func := "hornbeam/hornbeamlaw06.RankSorts", spec := "rankSorts", inPlace := ["math.Float64frombits", "math.Float64bits"], unfollowed := true, recurses := true, apart := false, narrowed := true }
def RankSortsUptoSaid : Prop := rankSortsUptoRow.holds Try.pinned (OpenSpec.upto rankSortsSpec)

/-- 'hornbeamlaw10.EdgesCut', WHERE WHAT IT READS IS OF BULK AT MOST 1048576: true; the input reads as it did. -/
def edgesCutUptoRow : OpenClaim := { program := "ytlmmlhljflladaa", sum := "96ceaf396588b7f334ad2be2309de1e3ae97d1192416f6ee2488eeebe67ec57c", func := "hornbeam/hornbeamlaw10.EdgesCut", spec := "edgesCut", inPlace := ["math.Float64frombits", "math.Float64bits"], unfollowed := true, recurses := true, apart := false, narrowed := true }
def EdgesCutUptoSaid : Prop := edgesCutUptoRow.holds Try.pinned (OpenSpec.upto edgesCutSpec)

/-- 'hornbeamlaw10.EdgesEven', WHERE WHAT IT READS IS OF BULK AT MOST 1048576: true; the input reads as it did. -/
def edgesEvenUptoRow : OpenClaim := { program := "ytlmmlhljflladaa", sum := "96ceaf396588b7f334ad2be2309de1e3ae97d1192416f6ee2488eeebe67ec57c", func := "hornbeam/hornbeamlaw10.EdgesEven", spec := "edgesEven", inPlace := ["math.Float64frombits", "math.Float64bits"], unfollowed := true, recurses := true, apart := false, narrowed := true }
def EdgesEvenUptoSaid : Prop := edgesEvenUptoRow.holds Try.pinned (OpenSpec.upto edgesEvenSpec)

/-- 'hornbeamlaw10.EdgesOrder', WHERE WHAT IT READS IS OF BULK AT MOST 1048576: true; the input reads as it did. -/
def edgesOrderUptoRow : OpenClaim := { program := "ytlmmlhljflladaa", sum := "96ceaf396588b7f334ad2be2309de1e3ae97d1192416f6ee2488eeebe67ec57c", func := "hornbeam/hornbeamlaw10.EdgesOrder", spec := "edgesOrder", inPlace := ["math.Float64frombits", "math.Float64bits"], unfollowed := true, recurses := true, apart := false, narrowed := true }
def EdgesOrderUptoSaid : Prop := edgesOrderUptoRow.holds Try.pinned (OpenSpec.upto edgesOrderSpec)

/-- 'hornbeamlaw10.EdgesOf', WHERE WHAT IT READS IS OF BULK AT MOST 1048576: true; the input reads as it did. -/
def edgesOfUptoRow : OpenClaim := { program := "ytlmmlhljflladaa", sum := "96ceaf396588b7f334ad2be2309de1e3ae97d1192416f6ee2488eeebe67ec57c", func := "hornbeam/hornbeamlaw10.EdgesOf", spec := "edgesOf", inPlace := ["math.Float64frombits", "math.Float64bits"], unfollowed := true, recurses := true, apart := false, narrowed := true }
def EdgesOfUptoSaid : Prop := edgesOfUptoRow.holds Try.pinned (OpenSpec.upto edgesOfSpec)

/-- 'hornbeamlaw10.EdgesBins', WHERE WHAT IT READS IS OF BULK AT MOST 1048576: true; the input reads as it did. -/
def edgesBinsUptoRow : OpenClaim := { program := "ytlmmlhljflladaa", sum := "96ceaf396588b7f334ad2be2309de1e3ae97d1192416f6ee2488eeebe67ec57c", func := "hornbeam/hornbeamlaw10.EdgesBins", spec := "edgesBins", inPlace := ["math.Float64frombits", "math.Float64bits"], unfollowed := true, recurses := true, apart := false, narrowed := true }
def EdgesBinsUptoSaid : Prop := edgesBinsUptoRow.holds Try.pinned (OpenSpec.upto edgesBinsSpec)

/-- 'hornbeamlaw20.WalkRows', WHERE WHAT IT READS IS OF BULK AT MOST 1048576: true; the input reads as it did. -/
def walkRowsUptoRow : OpenClaim := { program := "ytlmmlhljflladaa", sum := "96ceaf396588b7f334ad2be2309de1e3ae97d1192416f6ee2488eeebe67ec57c", func := "hornbeam/hornbeamlaw20.WalkRows", spec := "walkRows", inPlace := ["math.Float64frombits", "math.Float64bits"], unfollowed := true, recurses := true, apart := false, narrowed := true }
def WalkRowsUptoSaid : Prop := walkRowsUptoRow.holds Try.pinned (OpenSpec.upto walkRowsSpec)

/-- 'hornbeamlaw20.WalkValues', WHERE WHAT IT READS IS OF BULK AT MOST 1048576: true; the input reads as it did. -/
def walkValuesUptoRow : OpenClaim := { program := "ytlmmlhljflladaa", sum := "96ceaf396588b7f334ad2be2309de1e3ae97d1192416f6ee2488eeebe67ec57c", func := "hornbeam/hornbeamlaw20.WalkValues", spec := "walkValues", inPlace := ["math.Float64frombits", "math.Float64bits"], unfollowed := true, recurses := true, apart := false, narrowed := true }
def WalkValuesUptoSaid : Prop := walkValuesUptoRow.holds Try.pinned (OpenSpec.upto walkValuesSpec)

end Rows
end Go.Proofs.Ytlmmlhljflladaa
