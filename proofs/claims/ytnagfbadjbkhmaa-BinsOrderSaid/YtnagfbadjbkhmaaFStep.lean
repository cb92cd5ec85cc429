/- A whole struct stored at once in a region that draws its order, for walks by hand; the cells of a struct of seven numbers. -/
import Derived.Test.YtnagfbadjbkhmaaFStore
namespace Go.Proofs.Ytnagfbadjbkhmaa.FStep
open Go.RowKit Go.Proofs.YtnagfbadjbkhmaaW.PrintWords Go.Proofs.YtnagfbadjbkhmaaW.PrintLast Go.Proofs.YtnagfbadjbkhmaaW.PrintMore
set_option linter.unusedVariables false
variable {P : Program} {ops : Array Oper} {Q : Exit → Act → World → Prop}
theorem store_step {oi : Oper} {a : Act} {W : World} {K : Act → World → Prop} (hw : Region.wanted oi (yielded ops a.tmps) = true) (hN : oi.dst = none) (T : TypeId) (p v : Operand) (ho : oi.op = .store T p v) (g : Nat) (cells : Array Value)
    (hx : a.eval p = .pointer (some ⟨g, 0, none⟩)) (hy : a.eval v = .agg cells) (t : TypeId) (old : Array Value) (hg : W.heap[g]? = some (.cells old t (0, 0))) (hi : (P.info? T).map (·.size) = some cells.size) (hold : old.size = cells.size) (h1 : cells.all (·.oneCell') = true)
    (h : ∀ W1, W1.heap[g]? = some (.cells cells t (0, 0)) → (∀ k, k ≠ g → W1.heap[k]? = W.heap[k]?) → (∀ B w0, B ≤ g → Below B w0 W → Below B w0 W1) → K a W1) :
    if Region.wanted oi (yielded ops a.tmps) = true then Oper.wp P oi a W K Q else K (a.put none undef) W := by
  rw [if_pos hw]
  refine wp_store_row T p v ho g cells hx hy t old hg hi hold h1 ?_
  rw [hN]
  exact h (W.setRow g cells) (setRow_heap W g old cells t (0, 0) hg) (fun k hk => setRow_other W g k cells hk) (fun B w0 hB hw => below_setRow hw hB cells)
/-- Seven numbers in a block. -/
def Blk7 (W : World) (g : Nat) (T : TypeId) (a b c d e f h : Int) : Prop := W.heap[g]? = some (.cells #[.int .i64 a, .int .i64 b, .int .i64 c, .int .i64 d, .int .i64 e, .int .i64 f, .int .i64 h] T (0, 0))
namespace Blk7
variable {W : World} {g T : Nat} {a b c d e f h : Int}
theorem c0 (H : Blk7 W g T a b c d e f h) : W.cell? ⟨g, 0, none⟩ = some (.int .i64 a) := (blk_cell H 0).trans rfl
theorem c1 (H : Blk7 W g T a b c d e f h) : W.cell? ⟨g, 1, none⟩ = some (.int .i64 b) := (blk_cell H 1).trans rfl
theorem c2 (H : Blk7 W g T a b c d e f h) : W.cell? ⟨g, 2, none⟩ = some (.int .i64 c) := (blk_cell H 2).trans rfl
theorem c3 (H : Blk7 W g T a b c d e f h) : W.cell? ⟨g, 3, none⟩ = some (.int .i64 d) := (blk_cell H 3).trans rfl
theorem c4 (H : Blk7 W g T a b c d e f h) : W.cell? ⟨g, 4, none⟩ = some (.int .i64 e) := (blk_cell H 4).trans rfl
theorem c5 (H : Blk7 W g T a b c d e f h) : W.cell? ⟨g, 5, none⟩ = some (.int .i64 f) := (blk_cell H 5).trans rfl
theorem c6 (H : Blk7 W g T a b c d e f h) : W.cell? ⟨g, 6, none⟩ = some (.int .i64 h) := (blk_cell H 6).trans rfl
theorem fr (H : Blk7 W g T a b c d e f h) (i : Nat) : W.frozen? ⟨g, i, none⟩ = false := blk_frozen H i
theorem below {W' : World} (H : Blk7 W g T a b c d e f h) (hb : Below W.heap.size W W') : Blk7 W' g T a b c d e f h := blk_below H hb
theorem lt (H : Blk7 W g T a b c d e f h) : g < W.heap.size := blk_lt H
theorem eq {W' : World} (H : Blk7 W g T a b c d e f h) (hb : W'.heap[g]? = W.heap[g]?) : Blk7 W' g T a b c d e f h := hb.trans H
end Blk7
end Go.Proofs.Ytnagfbadjbkhmaa.FStep
