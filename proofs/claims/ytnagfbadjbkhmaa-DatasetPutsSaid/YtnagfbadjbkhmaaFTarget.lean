/- dataset.target and what it hands out, by walks: what a target may be. -/
import Derived.Test.YtnagfbadjbkhmaaFTake
import Derived.Test.YtnagfbadjbkhmaaFStore
namespace Go.Proofs.Ytnagfbadjbkhmaa.FTarget
open Go.RowKit Go.Shelf Go.Proofs.YtnagfbadjbkhmaaW.PrintWords Go.Proofs.YtnagfbadjbkhmaaW.PrintLast Go.Proofs.YtnagfbadjbkhmaaW.PrintMore
set_option linter.unusedVariables false
set_option linter.unusedSimpArgs false
/-- What is wrong with a target. -/
def mean (t : Int) : Int:=if t < -1048576 ∨ t > 1048576 then 4 else 0
def class_ (classes t : Int) : Int:=if t < 0 ∨ t ≥ classes then 5 else 0
def may (kind classes t : Int) : Int:=if kind = 1 then mean t else class_ classes t
theorem mean_calls (k0 k1 k2 k3 k4 k5 k6 t : Int) (w : World) : Calls Try.prog 80 #[.agg #[.int .i64 k0,.int .i64 k1,.int .i64 k2,.int .i64 k3,.int .i64 k4,.int .i64 k5,.int .i64 k6],.int .i64 t] w fun e w'=>e = .returned (.int .i64 (mean t)) ∧ Below w.heap.size w w':=by
 unfold mean
 by_cases h1 : t < -1048576
 ·have d1 : decide (t < -1048576) = true:=decide_eq_true h1
  rw [if_pos (Or.inl h1)]
  clear h1
  go_enter Try.func80,Try.ntmps80
  go_wp2
  go_ret
  exact ⟨rfl,below_alloc (Below.refl _ _) _⟩
 ·have d1 : decide (t < -1048576) = false:=decide_eq_false h1
  by_cases h2 : t > 1048576
  ·have d2 : decide (t > 1048576) = true:=decide_eq_true h2
   rw [if_pos (Or.inr h2)]
   clear h1 h2
   go_enter Try.func80,Try.ntmps80
   go_wp2
   go_ret
   exact ⟨rfl,below_alloc (Below.refl _ _) _⟩
  ·have d2 : decide (t > 1048576) = false:=decide_eq_false h2
   rw [if_neg (fun h=>h.elim h1 h2)]
   clear h1 h2
   go_enter Try.func80,Try.ntmps80
   go_wp2
   go_ret
   exact ⟨rfl,below_alloc (Below.refl _ _) _⟩
theorem class_calls (k0 k1 k2 k3 k4 k5 k6 t : Int) (w : World) : Calls Try.prog 81 #[.agg #[.int .i64 k0,.int .i64 k1,.int .i64 k2,.int .i64 k3,.int .i64 k4,.int .i64 k5,.int .i64 k6],.int .i64 t] w fun e w'=>e = .returned (.int .i64 (class_ k1 t)) ∧ Below w.heap.size w w':=by
 unfold class_
 by_cases h1 : t < 0
 ·have d1 : decide (t < 0) = true:=decide_eq_true h1
  rw [if_pos (Or.inl h1)]
  clear h1
  go_enter Try.func81,Try.ntmps81
  go_wp2
  go_ret
  exact ⟨rfl,below_alloc (Below.refl _ _) _⟩
 ·have d1 : decide (t < 0) = false:=decide_eq_false h1
  by_cases h2 : t ≥ k1
  ·have d2 : decide (t ≥ k1) = true:=decide_eq_true h2
   rw [if_pos (Or.inr h2)]
   clear h1 h2
   go_enter Try.func81,Try.ntmps81
   go_wp2
   go_ret
   exact ⟨rfl,below_alloc (Below.refl _ _) _⟩
  ·have d2 : decide (t ≥ k1) = false:=decide_eq_false h2
   rw [if_neg (fun h=>h.elim h1 h2)]
   clear h1 h2
   go_enter Try.func81,Try.ntmps81
   go_wp2
   go_ret
   exact ⟨rfl,below_alloc (Below.refl _ _) _⟩
/-- The function that is handed out. -/
def fn (kind : Int) : Nat:=if kind = 1 then 80 else 81
set_option maxHeartbeats 2000000 in
theorem target_calls (k0 k1 k2 k3 k4 k5 k6 : Int) (w : World) : Calls Try.prog 54 #[.agg #[.int .i64 k0,.int .i64 k1,.int .i64 k2,.int .i64 k3,.int .i64 k4,.int .i64 k5,.int .i64 k6]] w fun e w' =>
  e = .returned (.func (.func (fn k0)) #[.agg #[.int .i64 k0,.int .i64 k1,.int .i64 k2,.int .i64 k3,.int .i64 k4,.int .i64 k5,.int .i64 k6]] #[]) ∧ Below w.heap.size w w':=by
 have hmf : ∀ (fn : Fn) (first cap : Array Value) (W : World),(Instr.makeFunc fn first cap).run Try.prog W = .ok (.func fn first cap) W:=fun _ _ _ _=>rfl
 unfold fn
 by_cases h1 : k0 = 1
 ·have d1 : (k0 == 1) = true:=beq_iff_eq.2 h1
  rw [if_pos h1]
  clear h1
  go_enter Try.func54,Try.ntmps54
  go_wp2
  go_ret
  exact ⟨by simp_all,below_alloc (below_alloc (Below.refl _ _) _) _⟩
 ·have d1 : (k0 == 1) = false:=beq_eq_false_iff_ne.2 h1
  rw [if_neg h1]
  clear h1
  go_enter Try.func54,Try.ntmps54
  go_wp2
  go_ret
  exact ⟨rfl,below_alloc (below_alloc (Below.refl _ _) _) _⟩
end Go.Proofs.Ytnagfbadjbkhmaa.FTarget
