-- Written by a program of this session (wip/hp) out of the translation of seat Ytlmmlhljflladaa.
import Derived.Test.YtlmmlhljflladaaProg
import Derived.Below
import Derived.Deep.Draws
import Derived.Deep.AppendLies
import Derived.Maps.AppendAt
import Derived.OwnWalk
import Derived.Laws.BytesArg
import Derived.Laws.MakeOwn
import Derived.Laws.OwnMore
import Derived.Deep.OwnRows
import Derived.Tactics
import Derived.Lib.ConvBytes
import Derived.Laws.Slices
import Derived.WalkKit
import Derived.KernelRfl
import Derived.RowKit3
import Derived.Deep.LoopGhost
import Derived.Deep.QuietTactic
import Derived.BigQuiet
import Derived.WideLaws
import Derived.Deep.DeepCutAuto
import Derived.Deep.CutBlock
import Derived.Deep.RegionHeld3
import Derived.Laws.Rows
import Derived.Lib.AppendStr
import Derived.ArgAppend
import Derived.Laws.IdiomCopy
import Derived.OrdersHeld
import Derived.Laws.BitsLemmas
import Derived.RowKit
import Derived.Test.YtlmmlhljflladaaFlt
import Derived.Test.YtlmmlhljflladaaWWords
import Derived.Test.YtlmmlhljflladaaWLast
import Derived.Test.YtlmmlhljflladaaWTab
import Derived.Test.YtlmmlhljflladaaWFour
import Derived.Test.YtlmmlhljflladaaWQPut
import Derived.Test.YtlmmlhljflladaaWApart
import Derived.Test.YtlmmlhljflladaaWArr
import Derived.Test.YtlmmlhljflladaaWZeros
import Derived.Test.YtlmmlhljflladaaWFoot
import Derived.Test.YtlmmlhljflladaaWKept
import Derived.Test.YtlmmlhljflladaaWShare
import Derived.Test.YtlmmlhljflladaaWN
import Derived.Test.YtlmmlhljflladaaWFootNe
import Derived.Test.YtlmmlhljflladaaWAt
import Derived.Test.YtlmmlhljflladaaWEqStruct
import Derived.Test.YtlmmlhljflladaaWRepsOne
import Derived.Test.YtlmmlhljflladaaWInv
import Derived.Test.YtlmmlhljflladaaWInvWords
import Derived.Test.YtlmmlhljflladaaWGuard
import Derived.Test.YtlmmlhljflladaaWNEv
import Derived.Test.YtlmmlhljflladaaWMore
namespace Go.Proofs.Ytlmmlhljflladaa.PA
open Go.RowKit Go.Proofs.YtlmmlhljflladaaW.PrintWords Go.Proofs.YtlmmlhljflladaaW.PrintLast Go.Proofs.YtlmmlhljflladaaW.PrintMore
attribute [local go_sem] max2_int min2_int max_two min_two max_three min_three max_four min_four   -- for this text's walks alone
attribute [local go_sem high] Flt.fold_eq Flt.fold_ne Flt.fold_lt Flt.fold_gt Flt.fold_le Flt.fold_ge Flt.run_bits Flt.run_frombits
set_option linter.unusedVariables false
set_option linter.unusedSimpArgs false



def errW : Option Int → Value
  | none => .nilIface
  | some c => .iface 0 (.int .i64 c)
theorem errW_none : errW none = .nilIface := rfl
theorem errW_some (c : Int) : errW (some c) = .iface 0 (.int .i64 c) := rfl

-- the values' own types

end Go.Proofs.Ytlmmlhljflladaa.PA
