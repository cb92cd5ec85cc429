/-
  No cell of these rows narrows 'for every input' (looked for: loops, veiled, ifaces, maps, wideKeys, modest, calm, conditions, laid).
  DERIVED. THE GIVEN ROWS OF THIS SEAT. 12 by the template 'for every input the law returns true; each argument reads behind the call as it read before'; 0 by the template 'total and deterministic' (their statements: YtebbnjgaikppgaaTotals.lean).
  GIVEN WITH THE SEED: the statements are not yours to turn. If you find one false, say at which input.
  Laid BY PROGRAM, IN A SANDBOX (cutbox-rows.mjs): the forced cells as the released guide's own fill.sh prints them over the translation 51a659d2e6b839c2… (all of the seat's roots in one cut). By AI agents, Wed Nov 11 2026. No macro, syntax, notation, axiom, sorry.
-/
import Derived.Test.YtebbnjgaikppgaaChecked
import GoSem.Claim
import GoSem.ClaimJoined
import GoSem.ClaimMapViews
import Derived.JoinedTies
import Derived.KernelRfl
namespace Go.Proofs.Ytebbnjgaikppgaa
/- THE CELL 'sum', in the pinned program and in every row, IS THE sha256 OF THE DUMP (.gsa) THAT YtebbnjgaikppgaaProg.lean LOADS. Nothing in Lean hashes anything: it is a label: what it is worth is what the hold of that sum in a sandbox is worth. -/
noncomputable def Try.pinned : Pinned := { name := "ytebbnjgaikppgaa", sum := "51a659d2e6b839c21920ff1319a376bb12243f4bdb0b433164275e7ac7b25273", checked := Try.checked }
namespace Rows
def none {H : Type} : Left H := { results := [], args := [] }

/-- 'hornbeamlaw07.TakePlays': WHATEVER THE INPUT: true; the input reads as it did. -/
def takePlaysSpec : ChangeSpec := { name := "takePlays", fn := fun _ => fun
  | [d1, d2] => { results := [.lit (.bool true)], args := [d1, d2] }
  | _ => none }
def takePlaysRow : OpenClaim := { program := "ytebbnjgaikppgaa", sum := "51a659d2e6b839c21920ff1319a376bb12243f4bdb0b433164275e7ac7b25273", func := "hornbeam/hornbeamlaw07.TakePlays", spec := "takePlays", unfollowed := true, recurses := true, apart := false }
def TakePlaysSaid : Prop := takePlaysRow.holds Try.pinned (OpenSpec.ofChange takePlaysSpec)

/-- ITS FALSE NEIGHBOUR: 'it returns false'. Refute it at one input. -/
def takePlaysWrong : ChangeSpec := { name := "takePlays", fn := fun _ => fun
  | [d1, d2] => { results := [.lit (.bool false)], args := [d1, d2] }
  | _ => none }
def TakePlaysWrongFalsely : Prop := takePlaysRow.holds Try.pinned (OpenSpec.ofChange takePlaysWrong)

/-- 'hornbeamlaw07.TakeFails': WHATEVER THE INPUT: true; the input reads as it did. -/
def takeFailsSpec : ChangeSpec := { name := "takeFails", fn := fun _ => fun
  | [d1, d2, d3] => { results := [.lit (.bool true)], args := [d1, d2, d3] }
  | _ => none }
def takeFailsRow : OpenClaim := { program := "ytebbnjgaikppgaa", sum := "51a659d2e6b839c21920ff1319a376bb12243f4bdb0b433164275e7ac7b25273", func := "hornbeam/hornbeamlaw07.TakeFails", spec := "takeFails", unfollowed := true, recurses := true, apart := false }
def TakeFailsSaid : Prop := takeFailsRow.holds Try.pinned (OpenSpec.ofChange takeFailsSpec)

/-- ITS FALSE NEIGHBOUR: 'it returns false'. Refute it at one input. -/
def takeFailsWrong : ChangeSpec := { name := "takeFails", fn := fun _ => fun
  | [d1, d2, d3] => { results := [.lit (.bool false)], args := [d1, d2, d3] }
  | _ => none }
def TakeFailsWrongFalsely : Prop := takeFailsRow.holds Try.pinned (OpenSpec.ofChange takeFailsWrong)

/-- 'hornbeamlaw07.TakePuts': WHATEVER THE INPUT: true; the input reads as it did. -/
def takePutsSpec : ChangeSpec := { name := "takePuts", fn := fun _ => fun
  | [d1, d2, d3] => { results := [.lit (.bool true)], args := [d1, d2, d3] }
  | _ => none }
def takePutsRow : OpenClaim := { program := "ytebbnjgaikppgaa", sum := "51a659d2e6b839c21920ff1319a376bb12243f4bdb0b433164275e7ac7b25273", func := "hornbeam/hornbeamlaw07.TakePuts", spec := "takePuts", inPlace := ["math.Float64frombits", "math.Float64bits"], unfollowed := true, recurses := true, apart := false }
def TakePutsSaid : Prop := takePutsRow.holds Try.pinned (OpenSpec.ofChange takePutsSpec)

/-- ITS FALSE NEIGHBOUR: 'it returns false'. Refute it at one input. -/
def takePutsWrong : ChangeSpec := { name := "takePuts", fn := fun _ => fun
  | [d1, d2, d3] => { results := [.lit (.bool false)], args := [d1, d2, d3] }
  | _ => none }
def TakePutsWrongFalsely : Prop := takePutsRow.holds Try.pinned (OpenSpec.ofChange takePutsWrong)

/-- 'hornbeamlaw07.TakeBack': WHATEVER THE INPUT: true; the input reads as it did. -/
def takeBackSpec : ChangeSpec := { name := "takeBack", fn := fun _ => fun
  | [d1, d2] => { results := [.lit (.bool true)], args := [d1, d2] }
  | _ => none }
def takeBackRow : OpenClaim := { program := "ytebbnjgaikppgaa", sum := "51a659d2e6b839c21920ff1319a376bb12243f4bdb0b433164275e7ac7b25273", func := "hornbeam/hornbeamlaw07.TakeBack", spec := "takeBack", inPlace := ["math.Float64frombits", "math.Float64bits"], unfollowed := true, recurses := true, apart := false }
def TakeBackSaid : Prop := takeBackRow.holds Try.pinned (OpenSpec.ofChange takeBackSpec)

/-- ITS FALSE NEIGHBOUR: 'it returns false'. Refute it at one input. -/
def takeBackWrong : ChangeSpec := { name := "takeBack", fn := fun _ => fun
  | [d1, d2] => { results := [.lit (.bool false)], args := [d1, d2] }
  | _ => none }
def TakeBackWrongFalsely : Prop := takeBackRow.holds Try.pinned (OpenSpec.ofChange takeBackWrong)

/-- 'hornbeamlaw08.ConfigEnds': WHATEVER THE INPUT: true; the input reads as it did. -/
def configEndsSpec : ChangeSpec := { name := "configEnds", fn := fun _ => fun
  | [d1, d2] => { results := [.lit (.bool true)], args := [d1, d2] }
  | _ => none }
def configEndsRow : OpenClaim := { program := "ytebbnjgaikppgaa", sum := "51a659d2e6b839c21920ff1319a376bb12243f4bdb0b433164275e7ac7b25273", func := "hornbeam/hornbeamlaw08.ConfigEnds", spec := "configEnds", apart := false }
def ConfigEndsSaid : Prop := configEndsRow.holds Try.pinned (OpenSpec.ofChange configEndsSpec)

/-- ITS FALSE NEIGHBOUR: 'it returns false'. Refute it at one input. -/
def configEndsWrong : ChangeSpec := { name := "configEnds", fn := fun _ => fun
  | [d1, d2] => { results := [.lit (.bool false)], args := [d1, d2] }
  | _ => none }
def ConfigEndsWrongFalsely : Prop := configEndsRow.holds Try.pinned (OpenSpec.ofChange configEndsWrong)

/-- 'hornbeamlaw08.ConfigFirst': WHATEVER THE INPUT: true; the input reads as it did. -/
def configFirstSpec : ChangeSpec := { name := "configFirst", fn := fun _ => fun
  | [d1, d2] => { results := [.lit (.bool true)], args := [d1, d2] }
  | _ => none }
def configFirstRow : OpenClaim := { program := "ytebbnjgaikppgaa", sum := "51a659d2e6b839c21920ff1319a376bb12243f4bdb0b433164275e7ac7b25273", func := "hornbeam/hornbeamlaw08.ConfigFirst", spec := "configFirst", apart := false }
def ConfigFirstSaid : Prop := configFirstRow.holds Try.pinned (OpenSpec.ofChange configFirstSpec)

/-- ITS FALSE NEIGHBOUR: 'it returns false'. Refute it at one input. -/
def configFirstWrong : ChangeSpec := { name := "configFirst", fn := fun _ => fun
  | [d1, d2] => { results := [.lit (.bool false)], args := [d1, d2] }
  | _ => none }
def ConfigFirstWrongFalsely : Prop := configFirstRow.holds Try.pinned (OpenSpec.ofChange configFirstWrong)

/-- 'hornbeamlaw08.ConfigChecks': WHATEVER THE INPUT: true; the input reads as it did. -/
def configChecksSpec : ChangeSpec := { name := "configChecks", fn := fun _ => fun
  | [d1, d2] => { results := [.lit (.bool true)], args := [d1, d2] }
  | _ => none }
def configChecksRow : OpenClaim := { program := "ytebbnjgaikppgaa", sum := "51a659d2e6b839c21920ff1319a376bb12243f4bdb0b433164275e7ac7b25273", func := "hornbeam/hornbeamlaw08.ConfigChecks", spec := "configChecks", unfollowed := true, recurses := true, apart := false }
def ConfigChecksSaid : Prop := configChecksRow.holds Try.pinned (OpenSpec.ofChange configChecksSpec)

/-- ITS FALSE NEIGHBOUR: 'it returns false'. Refute it at one input. -/
def configChecksWrong : ChangeSpec := { name := "configChecks", fn := fun _ => fun
  | [d1, d2] => { results := [.lit (.bool false)], args := [d1, d2] }
  | _ => none }
def ConfigChecksWrongFalsely : Prop := configChecksRow.holds Try.pinned (OpenSpec.ofChange configChecksWrong)

/-- 'hornbeamlaw08.ConfigTakes': WHATEVER THE INPUT: true; the input reads as it did. -/
def configTakesSpec : ChangeSpec := { name := "configTakes", fn := fun _ => fun
  | [d] => { results := [.lit (.bool true)], args := [d] }
  | _ => none }
def configTakesRow : OpenClaim := { program := "ytebbnjgaikppgaa", sum := "51a659d2e6b839c21920ff1319a376bb12243f4bdb0b433164275e7ac7b25273", func := "hornbeam/hornbeamlaw08.ConfigTakes", spec := "configTakes", unfollowed := true, recurses := true, apart := false }
def ConfigTakesSaid : Prop := configTakesRow.holds Try.pinned (OpenSpec.ofChange configTakesSpec)

/-- ITS FALSE NEIGHBOUR: 'it returns false'. Refute it at one input. -/
def configTakesWrong : ChangeSpec := { name := "configTakes", fn := fun _ => fun
  | [d] => { results := [.lit (.bool false)], args := [d] }
  | _ => none }
def ConfigTakesWrongFalsely : Prop := configTakesRow.holds Try.pinned (OpenSpec.ofChange configTakesWrong)

/-- 'hornbeamlaw18.NodeOne': WHATEVER THE INPUT: true; the input reads as it did. -/
def nodeOneSpec : ChangeSpec := { name := "nodeOne", fn := fun _ => fun
  | [d1, d2] => { results := [.lit (.bool true)], args := [d1, d2] }
  | _ => none }
def nodeOneRow : OpenClaim := { program := "ytebbnjgaikppgaa", sum := "51a659d2e6b839c21920ff1319a376bb12243f4bdb0b433164275e7ac7b25273", func := "hornbeam/hornbeamlaw18.NodeOne", spec := "nodeOne", unfollowed := true, recurses := true, apart := false }
def NodeOneSaid : Prop := nodeOneRow.holds Try.pinned (OpenSpec.ofChange nodeOneSpec)

/-- ITS FALSE NEIGHBOUR: 'it returns false'. Refute it at one input. -/
def nodeOneWrong : ChangeSpec := { name := "nodeOne", fn := fun _ => fun
  | [d1, d2] => { results := [.lit (.bool false)], args := [d1, d2] }
  | _ => none }
def NodeOneWrongFalsely : Prop := nodeOneRow.holds Try.pinned (OpenSpec.ofChange nodeOneWrong)

/-- 'hornbeamlaw18.NodeCounts': WHATEVER THE INPUT: true; the input reads as it did. -/
def nodeCountsSpec : ChangeSpec := { name := "nodeCounts", fn := fun _ => fun
  | [d] => { results := [.lit (.bool true)], args := [d] }
  | _ => none }
def nodeCountsRow : OpenClaim := { program := "ytebbnjgaikppgaa", sum := "51a659d2e6b839c21920ff1319a376bb12243f4bdb0b433164275e7ac7b25273", func := "hornbeam/hornbeamlaw18.NodeCounts", spec := "nodeCounts", unfollowed := true, recurses := true, apart := false }
def NodeCountsSaid : Prop := nodeCountsRow.holds Try.pinned (OpenSpec.ofChange nodeCountsSpec)

/-- ITS FALSE NEIGHBOUR: 'it returns false'. Refute it at one input. -/
def nodeCountsWrong : ChangeSpec := { name := "nodeCounts", fn := fun _ => fun
  | [d] => { results := [.lit (.bool false)], args := [d] }
  | _ => none }
def NodeCountsWrongFalsely : Prop := nodeCountsRow.holds Try.pinned (OpenSpec.ofChange nodeCountsWrong)

/-- 'hornbeamlaw18.NodeRight': WHATEVER THE INPUT: true; the input reads as it did. -/
def nodeRightSpec : ChangeSpec := { name := "nodeRight", fn := fun _ => fun
  | [d1, d2, d3] => { results := [.lit (.bool true)], args := [d1, d2, d3] }
  | _ => none }
def nodeRightRow : OpenClaim := { program := "ytebbnjgaikppgaa", sum := "51a659d2e6b839c21920ff1319a376bb12243f4bdb0b433164275e7ac7b25273", func := "hornbeam/hornbeamlaw18.NodeRight", spec := "nodeRight", unfollowed := true, recurses := true, apart := false }
def NodeRightSaid : Prop := nodeRightRow.holds Try.pinned (OpenSpec.ofChange nodeRightSpec)

/-- ITS FALSE NEIGHBOUR: 'it returns false'. Refute it at one input. -/
def nodeRightWrong : ChangeSpec := { name := "nodeRight", fn := fun _ => fun
  | [d1, d2, d3] => { results := [.lit (.bool false)], args := [d1, d2, d3] }
  | _ => none }
def NodeRightWrongFalsely : Prop := nodeRightRow.holds Try.pinned (OpenSpec.ofChange nodeRightWrong)

/-- 'hornbeamlaw18.NodeTakes': WHATEVER THE INPUT: true; the input reads as it did. -/
def nodeTakesSpec : ChangeSpec := { name := "nodeTakes", fn := fun _ => fun
  | [d1, d2] => { results := [.lit (.bool true)], args := [d1, d2] }
  | _ => none }
def nodeTakesRow : OpenClaim := { program := "ytebbnjgaikppgaa", sum := "51a659d2e6b839c21920ff1319a376bb12243f4bdb0b433164275e7ac7b25273", func := "hornbeam/hornbeamlaw18.NodeTakes", spec := "nodeTakes", unfollowed := true, recurses := true, apart := false }
def NodeTakesSaid : Prop := nodeTakesRow.holds Try.pinned (OpenSpec.ofChange nodeTakesSpec)

/-- ITS FALSE NEIGHBOUR: 'it returns false'. Refute it at one input. -/
def nodeTakesWrong : ChangeSpec := { name := "nodeTakes", fn := fun _ => fun
  | [d1, d2] => { results := [.lit (.bool false)], args := [d1, d2] }
  | _ => none }
def NodeTakesWrongFalsely : Prop := nodeTakesRow.holds Try.pinned (OpenSpec.ofChange nodeTakesWrong)

/- THE SECOND FORM. 'bulk': how many values and letters a reading holds, each counted each time it is reached (what is shared counts as often as it is met; a slice's spare places count too). A statement '..UptoSaid' is the law's where the arguments, and the package variables that the reading takes, are together of bulk at most 1048576: NARROWER than '..Said'. Prove '..Said' where nothing that the law and all that it calls make is longer than what came in: it says more and counts as full. Else prove '..UptoSaid'. A law counts once. -/
mutual
def uptoBulk {H : Type} : DataW H → Nat
  | .lit (.string bytes) => bytes.length + 1
  | .lit _ => 1
  | .nil => 1
  | .ptr d => uptoBulk d + 1
  | .slice elems spare => uptoBulkAll elems + uptoBulkAll spare + 1
  | .agg parts => uptoBulkAll parts + 1
  | .iface _ d => uptoBulk d + 1
  | .map entries => uptoBulkEntries entries + 1
  | .held _ => 1
def uptoBulkAll {H : Type} : List (DataW H) → Nat
  | [] => 0
  | d :: r => uptoBulk d + uptoBulkAll r
def uptoBulkEntries {H : Type} : List (Lit × DataW H) → Nat
  | [] => 0
  | x :: r => uptoBulkEntry x + uptoBulkEntries r
def uptoBulkEntry {H : Type} : Lit × DataW H → Nat
  | (.string bytes, d) => bytes.length + uptoBulk d + 1
  | (_, d) => uptoBulk d + 1
 end
def uptoSmall : (H : Type) → List (DataW H) → Bool := fun _ ds => decide (uptoBulkAll ds ≤ 1048576)
def OpenSpec.upto (s : _root_.Go.ChangeSpec) : _root_.Go.OpenSpec := { _root_.Go.OpenSpec.ofChange s with cond := some uptoSmall }

/-- 'hornbeamlaw07.TakePlays', WHERE WHAT IT READS IS OF BULK AT MOST 1048576: true; the input reads as it did. -/
def takePlaysUptoRow : OpenClaim := { program := "ytebbnjgaikppgaa", sum := "51a659d2e6b839c21920ff1319a376bb12243f4bdb0b433164275e7ac7b25273", func := "hornbeam/hornbeamlaw07.TakePlays", spec := "takePlays", unfollowed := true, recurses := true, apart := false, narrowed := true }
def TakePlaysUptoSaid : Prop := takePlaysUptoRow.holds Try.pinned (OpenSpec.upto takePlaysSpec)

/-- 'hornbeamlaw07.TakeFails', WHERE WHAT IT READS IS OF BULK AT MOST 1048576: true; the input reads as it did. -/
def takeFailsUptoRow : OpenClaim := { program := "ytebbnjgaikppgaa", sum := "51a659d2e6b839c21920ff1319a376bb12243f4bdb0b433164275e7ac7b25273", func := "hornbeam/hornbeamlaw07.TakeFails", spec := "takeFails", unfollowed := true, recurses := true, apart := false, narrowed := true }
def TakeFailsUptoSaid : Prop := takeFailsUptoRow.holds Try.pinned (OpenSpec.upto takeFailsSpec)

/-- 'hornbeamlaw07.TakePuts', WHERE WHAT IT READS IS OF BULK AT MOST 1048576: true; the input reads as it did. -/
def takePutsUptoRow : OpenClaim := { program := "ytebbnjgaikppgaa", sum := "51a659d2e6b839c21920ff1319a376bb12243f4bdb0b433164275e7ac7b25273", func := "hornbeam/hornbeamlaw07.TakePuts", spec := "takePuts", inPlace := ["math.Float64frombits", "math.Float64bits"], unfollowed := true, recurses := true, apart := false, narrowed := true }
def TakePutsUptoSaid : Prop := takePutsUptoRow.holds Try.pinned (OpenSpec.upto takePutsSpec)

/-- 'hornbeamlaw07.TakeBack', WHERE WHAT IT READS IS OF BULK AT MOST 1048576: true; the input reads as it did. -/
def takeBackUptoRow : OpenClaim := { program := "ytebbnjgaikppgaa", sum := "51a659d2e6b839c21920ff1319a376bb12243f4bdb0b433164275e7ac7b25273", func := "hornbeam/hornbeamlaw07.TakeBack", spec := "takeBack", inPlace := ["math.Float64frombits", "math.Float64bits"], unfollowed := true, recurses := true, apart := false, narrowed := true }
def TakeBackUptoSaid : Prop := takeBackUptoRow.holds Try.pinned (OpenSpec.upto takeBackSpec)

/-- 'hornbeamlaw08.ConfigEnds', WHERE WHAT IT READS IS OF BULK AT MOST 1048576: true; the input reads as it did. -/
def configEndsUptoRow : OpenClaim := { program := "ytebbnjgaikppgaa", sum := "51a659d2e6b839c21920ff1319a376bb12243f4bdb0b433164275e7ac7b25273", func := "hornbeam/hornbeamlaw08.ConfigEnds", spec := "configEnds", apart := false, narrowed := true }
def ConfigEndsUptoSaid : Prop := configEndsUptoRow.holds Try.pinned (OpenSpec.upto configEndsSpec)

/-- 'hornbeamlaw08.ConfigFirst', WHERE WHAT IT READS IS OF BULK AT MOST 1048576: true; the input reads as it did. -/
def configFirstUptoRow : OpenClaim := { program := "ytebbnjgaikppgaa", sum := "51a659d2e6b839c21920ff1319a376bb12243f4bdb0b433164275e7ac7b25273", func := "hornbeam/hornbeamlaw08.ConfigFirst", spec := "configFirst", apart := false, narrowed := true }
def ConfigFirstUptoSaid : Prop := configFirstUptoRow.holds Try.pinned (OpenSpec.upto configFirstSpec)

/-- 'hornbeamlaw08.ConfigChecks', WHERE WHAT IT READS IS OF BULK AT MOST 1048576: true; the input reads as it did. -/
def configChecksUptoRow : OpenClaim := { program := "ytebbnjgaikppgaa", sum := "51a659d2e6b839c21920ff1319a376bb12243f4bdb0b433164275e7ac7b25273", func := "hornbeam/hornbeamlaw08.ConfigChecks", spec := "configChecks", unfollowed := true, recurses := true, apart := false, narrowed := true }
def ConfigChecksUptoSaid : Prop := configChecksUptoRow.holds Try.pinned (OpenSpec.upto configChecksSpec)

/-- 'hornbeamlaw08.ConfigTakes', WHERE WHAT IT READS IS OF BULK AT MOST 1048576: true; the input reads as it did. -/
def configTakesUptoRow : OpenClaim := { program := "ytebbnjgaikppgaa", sum := "51a659d2e6b839c21920ff1319a376bb12243f4bdb0b433164275e7ac7b25273", func := "hornbeam/hornbeamlaw08.ConfigTakes", spec := "configTakes", unfollowed := true, recurses := true, apart := false, narrowed := true }
def ConfigTakesUptoSaid : Prop := configTakesUptoRow.holds Try.pinned (OpenSpec.upto configTakesSpec)

/-- 'hornbeamlaw18.NodeOne', WHERE WHAT IT READS IS OF BULK AT MOST 1048576: true; the input reads as it did. -/
def nodeOneUptoRow : OpenClaim := { program := "ytebbnjgaikppgaa", sum := "51a659d2e6b839c21920ff1319a376bb12243f4bdb0b433164275e7ac7b25273", func := "hornbeam/hornbeamlaw18.NodeOne", spec := "nodeOne", unfollowed := true, recurses := true, apart := false, narrowed := true }
def NodeOneUptoSaid : Prop := nodeOneUptoRow.holds Try.pinned (OpenSpec.upto nodeOneSpec)

/-- 'hornbeamlaw18.NodeCounts', WHERE WHAT IT READS IS OF BULK AT MOST 1048576: true; the input reads as it did. -/
def nodeCountsUptoRow : OpenClaim := { program := "ytebbnjgaikppgaa", sum := "51a659d2e6b839c21920ff1319a376bb12243f4bdb0b433164275e7ac7b25273", func := "hornbeam/hornbeamlaw18.NodeCounts", spec := "nodeCounts", unfollowed := true, recurses := true, apart := false, narrowed := true }
def NodeCountsUptoSaid : Prop := nodeCountsUptoRow.holds Try.pinned (OpenSpec.upto nodeCountsSpec)

/-- 'hornbeamlaw18.NodeRight', WHERE WHAT IT READS IS OF BULK AT MOST 1048576: true; the input reads as it did. -/
def nodeRightUptoRow : OpenClaim := { program := "ytebbnjgaikppgaa", sum := "51a659d2e6b839c21920ff1319a376bb12243f4bdb0b433164275e7ac7b25273", func := "hornbeam/hornbeamlaw18.NodeRight", spec := "nodeRight", unfollowed := true, recurses := true, apart := false, narrowed := true }
def NodeRightUptoSaid : Prop := nodeRightUptoRow.holds Try.pinned (OpenSpec.upto nodeRightSpec)

/-- 'hornbeamlaw18.NodeTakes', WHERE WHAT IT READS IS OF BULK AT MOST 1048576: true; the input reads as it did. -/
def nodeTakesUptoRow : OpenClaim := { program := "ytebbnjgaikppgaa", sum := "51a659d2e6b839c21920ff1319a376bb12243f4bdb0b433164275e7ac7b25273", func := "hornbeam/hornbeamlaw18.NodeTakes", spec := "nodeTakes", unfollowed := true, recurses := true, apart := false, narrowed := true }
def NodeTakesUptoSaid : Prop := nodeTakesUptoRow.holds Try.pinned (OpenSpec.upto nodeTakesSpec)

end Rows
end Go.Proofs.Ytebbnjgaikppgaa
