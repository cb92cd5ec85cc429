import Derived.Test.YtnagfbadjbkhmaaProg
import Derived.Below
import Derived.Deep.Draws
import Derived.Deep.AppendLies
import Derived.Maps.AppendAt
import Derived.OwnWalk
import Derived.Laws.BytesArg
import Derived.Laws.MakeOwn
import Derived.Laws.OwnMore
import Derived.Deep.OwnRows
import Derived.Tactics
import Derived.Lib.ConvBytes
import Derived.Laws.Slices
import Derived.WalkKit
import Derived.KernelRfl
import Derived.RowKit3
import Derived.Deep.LoopGhost
import Derived.Deep.QuietTactic
import Derived.BigQuiet
import Derived.WideLaws
import Derived.Deep.DeepCutAuto
import Derived.Deep.CutBlock
import Derived.Deep.RegionHeld3
import Derived.Laws.Rows
import Derived.Lib.AppendStr
import Derived.ArgAppend
import Derived.Laws.IdiomCopy
import Derived.OrdersHeld
import Derived.Laws.BitsLemmas
import Derived.RowKit
import Derived.Test.YtnagfbadjbkhmaaFlt
import Derived.Test.YtnagfbadjbkhmaaFTake
import Derived.Test.YtnagfbadjbkhmaaFMake
import Derived.Test.YtnagfbadjbkhmaaFStore
import Derived.Test.YtnagfbadjbkhmaaWWords
import Derived.Test.YtnagfbadjbkhmaaWLast
import Derived.Test.YtnagfbadjbkhmaaWTab
import Derived.Test.YtnagfbadjbkhmaaWFour
import Derived.Test.YtnagfbadjbkhmaaWQPut
import Derived.Test.YtnagfbadjbkhmaaWApart
import Derived.Test.YtnagfbadjbkhmaaWArr
import Derived.Test.YtnagfbadjbkhmaaWZeros
import Derived.Test.YtnagfbadjbkhmaaWFoot
import Derived.Test.YtnagfbadjbkhmaaWKept
import Derived.Test.YtnagfbadjbkhmaaWShare
import Derived.Test.YtnagfbadjbkhmaaWN
import Derived.Test.YtnagfbadjbkhmaaWFootNe
import Derived.Test.YtnagfbadjbkhmaaWAt
import Derived.Test.YtnagfbadjbkhmaaWEqStruct
import Derived.Test.YtnagfbadjbkhmaaWRepsOne
import Derived.Test.YtnagfbadjbkhmaaWInv
import Derived.Test.YtnagfbadjbkhmaaWInvWords
import Derived.Test.YtnagfbadjbkhmaaWGuard
import Derived.Test.YtnagfbadjbkhmaaWNEv
import Derived.Test.YtnagfbadjbkhmaaWMore
namespace Go.Proofs.Ytnagfbadjbkhmaa.PA
open Go.RowKit Go.Proofs.YtnagfbadjbkhmaaW.PrintWords Go.Proofs.YtnagfbadjbkhmaaW.PrintLast Go.Proofs.YtnagfbadjbkhmaaW.PrintMore
attribute [local go_sem] max2_int min2_int max_two min_two max_three min_three max_four min_four   -- for this text's walks alone
attribute [local go_sem high] Flt.fold_eq Flt.fold_ne Flt.fold_lt Flt.fold_gt Flt.fold_le Flt.fold_ge Flt.run_bits Flt.run_frombits
set_option linter.unusedVariables false
set_option linter.unusedSimpArgs false



def errW : Option Int → Value
 | none=>.nilIface
 | some c=>.iface 0 (.int .i64 c)
theorem errW_none : errW none = .nilIface:=rfl
theorem errW_some (c : Int) : errW (some c) = .iface 0 (.int .i64 c):=rfl

theorem info2 : (Try.prog.info? 2).map (fun i=>(i.zero,i.size,i.bytes)) = some (some (.int .i64 0),1,8):=by kernel_rfl
theorem info3 : (Try.prog.info? 3).map (fun i=>(i.zero,i.size,i.bytes)) = some (some (.int .i64 0),1,8):=by kernel_rfl
theorem info5 : (Try.prog.info? 5).map (fun i=>(i.zero,i.size,i.bytes)) = some (some (.int .u8 0),1,1):=by kernel_rfl
theorem info36 : (Try.prog.info? 36).map (fun i=>(i.zero,i.size,i.bytes)) = some (some (.float .f64 0),1,8):=by kernel_rfl
theorem info37 : (Try.prog.info? 37).map (fun i=>(i.zero,i.size,i.bytes)) = some (some (.int .u64 0),1,8):=by kernel_rfl

end Go.Proofs.Ytnagfbadjbkhmaa.PA
