/- Bytes that came in, turned to a string in a later world, for walks. -/
import Derived.Test.YtnagfbadjbkhmaaWMore
namespace Go.Proofs.Ytnagfbadjbkhmaa.FConv
open Go.RowKit Go.Proofs.YtnagfbadjbkhmaaW.PrintWords Go.Proofs.YtnagfbadjbkhmaaW.PrintLast Go.Proofs.YtnagfbadjbkhmaaW.PrintMore
set_option linter.unusedVariables false
theorem upon_str {P : Program} {src dst e : TypeId} {o : Oper} {a : Act} {K : Act → World → Prop} {Q : Exit → Act → World → Prop} {w W : World} {A : Option Addr} {c : Nat} {l : List Int} {f : Value → World → Result Next}
    (hs : P.underlying src = some (.slice e)) (he : P.underlying e = some (.int .u8)) (hd : P.underlying dst = some .string) (hC : Kd.C (Kd.int .u8) w A l.length l) (hB : Below w.heap.size w W)
    (h : o.upon P a K Q ((Result.ok (Value.string (strOfNums l)) W).andThen f)) : o.upon P a K Q (((convert src dst (.slice A l.length c)).run P W).andThen f) := by
  rw [Kd.C_string hs he hd (Kd.C_below hC hB)]; exact h
end Go.Proofs.Ytnagfbadjbkhmaa.FConv
