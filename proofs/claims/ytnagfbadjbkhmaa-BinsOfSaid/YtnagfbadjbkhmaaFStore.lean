/- A whole struct or array stored at once into its variable's block, for walks by hand. -/
import Derived.Test.YtnagfbadjbkhmaaWMore
import Derived.WalkLawsBesides
import Derived.Laws.Tables
import Derived.Laws.CopyOwn
namespace Go.Proofs.Ytnagfbadjbkhmaa.FStore
open Go.RowKit Go.Proofs.YtnagfbadjbkhmaaW.PrintWords Go.Proofs.YtnagfbadjbkhmaaW.PrintLast Go.Proofs.YtnagfbadjbkhmaaW.PrintMore
set_option linter.unusedVariables false
variable {P : Program} {ops : Array Oper} {rest : List Oper} {o : Oper} {a : Act} {Q : Exit → Act → World → Prop}
theorem store_all {W : World} (g : Nat) (T t : TypeId) (p : Tmp) (v : Operand) (old cs : Array Value) (hgd : o.guard = none) (hdst : o.dst = none) (ho : o.op = .store T (.tmp p) v)
    (hp : a.eval (.tmp p) = .pointer (some ⟨g, 0, none⟩)) (hv : a.eval v = .agg cs) (hb : W.heap[g]? = some (.cells old t (0, 0)))
    (hi : (P.info? T).map (·.size) = some cs.size) (hs : old.size = cs.size) (h1 : cs.all (·.oneCell') = true)
    (h : ∀ W1, W1.heap[g]? = some (.cells cs t (0, 0)) → (∀ B w0, B ≤ g → Below B w0 W → Below B w0 W1) → (∀ k, k ≠ g → W1.heap[k]? = W.heap[k]?) → wpList P ops Q rest a W1) :
    wpList P ops Q (o :: rest) a W := by
  refine wpList_store_row hgd T (.tmp p) v ho g cs hp hv t old hb hi hs h1 ?_
  have := h (W.setRow g cs) (setRow_heap W g old cs t (0, 0) hb) (fun B w0 hB hw => below_setRow hw hB cs) (fun k hk => setRow_other W g k cs hk)
  rw [hdst]; exact this
end Go.Proofs.Ytnagfbadjbkhmaa.FStore
