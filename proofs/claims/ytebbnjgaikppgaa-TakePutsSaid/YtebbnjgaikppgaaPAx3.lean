-- Written by a program of this session (wip/hp) out of the translation of seat Ytebbnjgaikppgaa.
import Derived.Test.YtebbnjgaikppgaaPAx0
namespace Go.Proofs.Ytebbnjgaikppgaa.PA
open Go.RowKit Go.Proofs.YtebbnjgaikppgaaW.PrintWords Go.Proofs.YtebbnjgaikppgaaW.PrintLast Go.Proofs.YtebbnjgaikppgaaW.PrintMore
attribute [local go_sem] max2_int min2_int max_two min_two max_three min_three max_four min_four   -- for this text's walks alone
attribute [local go_sem high] Flt.fold_eq Flt.fold_ne Flt.fold_lt Flt.fold_gt Flt.fold_le Flt.fold_ge Flt.run_bits Flt.run_frombits
set_option linter.unusedVariables false
set_option linter.unusedSimpArgs false

-- NOT PRINTED: function 16 (take_Try)

/-! ### hornbeamlaw07_fixed: function 15, by hand -/
def hornbeamlaw07_fixed.f : Option Bool := some true
theorem hornbeamlaw07_fixed.calls (r : Bool) (w : World) (h : hornbeamlaw07_fixed.f = some r) : Calls Try.prog 15 #[] w fun e w' => e = .returned (.bool r) ∧ Below w.heap.size w w' := by
  obtain rfl := Option.some.inj h
  exact FTake07.calls_fixed w


end Go.Proofs.Ytebbnjgaikppgaa.PA
