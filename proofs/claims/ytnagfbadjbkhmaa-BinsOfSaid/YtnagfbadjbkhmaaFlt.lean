/- Floats for the printed walks: a float64's cell by its bits; the six comparisons; math.Float64bits and math.Float64frombits. -/
import Derived.Test.YtnagfbadjbkhmaaWMore
import Derived.WalkLawsBesides
import Derived.Test.YtnagfbadjbkhmaaProg
namespace Go.Proofs.Ytnagfbadjbkhmaa.Flt
open Go.RowKit Go.Proofs.YtnagfbadjbkhmaaW.PrintWords Go.Proofs.YtnagfbadjbkhmaaW.PrintLast Go.Proofs.YtnagfbadjbkhmaaW.PrintMore
set_option linter.unusedVariables false
/-- A float's cell: by its bits. -/
def kf : Kd Nat := Kd.scalar (Value.float .f64) (fun _ => rfl)
theorem heap_kf : Kd.Heap kf := ⟨fun _ h => h⟩
theorem at_kf {w : World} {A : Option Addr} {n : Nat} {xs : List Nat} (h : Kd.C kf w A n xs) (i : Int) (h0 : 0 ≤ i) (h1 : i < n) : ∃ ad, A = some ad ∧ w.cell? (ad.add i.toNat) = some (.float .f64 (rdOf (0 : Nat) xs i)) :=
  ReadsOf.at_ (Kd.reads_of_C (enc := Value.float .f64) (d := (0 : Nat)) (h1 := fun _ => rfl) h) i h0 h1
theorem own_len (A : Option Addr) (n m c c' : Nat) : (Value.slice A n c).ownBlock = (Value.slice A m c').ownBlock := by cases A <;> rfl
/-- The comparisons. -/
def eq (a b : Nat) : Bool := FloatKind.f64.format.order a b == some .eq
def lt (a b : Nat) : Bool := FloatKind.f64.format.order a b == some .lt
def le (a b : Nat) : Bool := FloatKind.f64.format.order a b == some .lt || FloatKind.f64.format.order a b == some .eq
def gt (a b : Nat) : Bool := FloatKind.f64.format.order a b == some .gt
def ge (a b : Nat) : Bool := FloatKind.f64.format.order a b == some .gt || FloatKind.f64.format.order a b == some .eq
theorem fold_eq (a b : Nat) : (FloatKind.f64.format.order a b == some Ordering.eq) = eq a b := rfl
theorem fold_ne (a b : Nat) : (FloatKind.f64.format.order a b != some Ordering.eq) = !(eq a b) := rfl
theorem fold_lt (a b : Nat) : (FloatKind.f64.format.order a b == some Ordering.lt) = lt a b := rfl
theorem fold_gt (a b : Nat) : (FloatKind.f64.format.order a b == some Ordering.gt) = gt a b := rfl
theorem fold_le (a b : Nat) : (lt a b || eq a b) = le a b := rfl
theorem fold_ge (a b : Nat) : (gt a b || eq a b) = ge a b := rfl
/-- The bits of a float, as a whole number, and back. -/
def ubits (b : Nat) : Int := (b : Int)
def fbits (n : Int) : Nat := n.toNat
theorem run_bits (b : Nat) (w : World) : (callFunc 18 #[.float .f64 b]).run Try.prog w = .ok (.value (.int .u64 (ubits b))) w := by kernel_rfl
theorem run_frombits (n : Int) (w : World) : (callFunc 65 #[.int .u64 n]).run Try.prog w = .ok (.value (.float .f64 (fbits n))) w := by kernel_rfl
end Go.Proofs.Ytnagfbadjbkhmaa.Flt
