/- The iterator edges.places: to which places it hands on, for every loop body. -/
import Derived.RangeFuncBox
import Derived.Maps.AppendAt
import Derived.RangeFuncNested
import Derived.RangeFuncBound
import Derived.RangeFuncCalls
import Derived.RangeFuncLeaves
import Derived.Shelf.Abstract
import Derived.Shelf.RegionOpen
import Derived.WalkKit
import Derived.OwnWalkIn
import Derived.TacticsInMore
import Derived.LoopNIn
import Derived.LoopIn
import Derived.Lib.Hide
import Derived.Outline
import Derived.Sort.QuietTacIn
import Derived.Test.YtnagfbadjbkhmaaProg
namespace Go.Proofs.Ytnagfbadjbkhmaa.FPlaces
open Go.RowKit Go.Shelf
attribute [local go_sem] Oper.semAt_some
set_option linter.unusedVariables false
set_option linter.unusedSimpArgs false
/-! ### The iterator -/
/-- The places at which n values are cut. -/
def places (n bins : Nat) (h : 0 < n) : List (Fin n) := (List.range (bins - 1)).map fun q => ⟨(q + 1) * n / bins % n, Nat.mod_lt _ h⟩
theorem places_len (n bins : Nat) (h : 0 < n) : (places n bins h).length = bins - 1 := by simp [places]
theorem places_get (n bins : Nat) (h : 0 < n) (q : Nat) (hq : q + 1 < bins) : ∃ x : Fin n, x.1 = (q + 1) * n / bins ∧ (places n bins h).take (q + 1) = (places n bins h).take q ++ [x] := by
  have hlt : (q + 1) * n / bins < n := by
    rw [Nat.div_lt_iff_lt_mul (by omega)]
    rw [Nat.mul_comm n bins]
    exact Nat.mul_lt_mul_of_pos_right hq h
  refine ⟨⟨(q + 1) * n / bins % n, Nat.mod_lt _ h⟩, Nat.mod_eq_of_lt hlt, ?_⟩
  rw [List.take_add_one]
  congr 1
  simp [places, show q < bins - 1 by omega]
/-- Two blocks are as they were. -/
def Keep2 (a b : Nat) (W W' : World) : Prop := W'.heap[a]? = W.heap[a]? ∧ W'.heap[b]? = W.heap[b]?
theorem Keep2.refl (a b : Nat) (W : World) : Keep2 a b W W := ⟨rfl, rfl⟩
theorem Keep2.trans {a b : Nat} {A B C : World} (h : Keep2 a b A B) (k : Keep2 a b B C) : Keep2 a b A C := ⟨k.1.trans h.1, k.2.trans h.2⟩
theorem Keep2.put {a b : Nat} {w : World} (ha : a < w.heap.size) (hb : b < w.heap.size) (W : World) (l : Nat) (o o' : Obj) (hl : w.heap.size ≤ l) (_ : W.heap[l]? = some o) (_ : o.isCells = false) (_ : o.isWalk = false) : Keep2 a b W (W.putObj l o') :=
  ⟨World.putObj_heap_other (by omega), World.putObj_heap_other (by omega)⟩
theorem Keep2.of {a b : Nat} {W W' : World} {B : Nat} (h : ∀ k, k < W.heap.size → B ≤ k → W'.heap[k]? = W.heap[k]?) (ha : B ≤ a) (hb : B ≤ b) (ha2 : a < W.heap.size) (hb2 : b < W.heap.size) : Keep2 a b W W' := ⟨h a ha2 ha, h b hb2 hb⟩
set_option maxRecDepth 100000 in
set_option maxHeartbeats 2000000 in
theorem places1_in (n : Nat) (hn : 1 ≤ n) (l Bb Bn len bins : Nat) (hlen : 0 < len) (hlen2 : len ≤ 1000000000000) (hb2 : 2 ≤ bins) (hbins : bins ≤ 256) (J Jx : List (Fin len) → World → Prop)
    (hY : ∀ (pre : List (Fin len)) (x : Fin len) W, J pre W → pre.length < bins → YieldAt Fence.wide (n - 1) Try.prog l #[.int .i64 (x.1 : Int)] W fun e W' =>
      (e = .returned (.bool true) ∧ J (pre ++ [x]) W' ∧ Keep2 Bb Bn W W') ∨ (e = .returned (.bool false) ∧ Jx (pre ++ [x]) W'))
    (W : World) (hBb : W.cell? ⟨Bb, 0, none⟩ = some (.int .i64 bins)) (hBn : W.cell? ⟨Bn, 0, none⟩ = some (.int .i64 len)) (h0 : J [] W) :
    CallsIn Fence.wide n Try.prog 99 #[.func (.yield l) #[] #[], .pointer (some ⟨Bb, 0, none⟩), .pointer (some ⟨Bn, 0, none⟩)] W fun e W' => (∃ v, e = .returned v) ∧
      ((∃ ys, ys = places len bins hlen ∧ J ys W') ∨ (∃ pre, pre <+: places len bins hlen ∧ Jx pre W')) := by
  have hpl := places_len len bins hlen
  refine callsIn_of_wp Try.func99 rfl trivial ?_ rfl
  simp only [Try.ntmps99, List.size_toArray, List.length_cons, List.length_nil, Nat.reduceAdd, Nat.reduceSub, Array.replicate_succ, Array.replicate_zero, List.push_toArray, List.append_toArray, List.nil_append, List.cons_append]
  gi_wp2
  gi_loopw [4] (fun va wr => ∃ (q : Nat), q < bins ∧ va = .int .i64 ((q + 1 : Nat) : Int) ∧ J ((places len bins hlen).take q) wr ∧ Keep2 Bb Bn W wr)
    (fun v _ => bins - (intOf v).toNat)
  case atStart => exact ⟨0, by omega, rfl, by simpa using h0, Keep2.refl _ _ _⟩
  case round =>
    obtain ⟨q, hq, rfl, hJs, hnx⟩ := hrel
    have hBb' := (World.cell?_of_block (a := ⟨Bb, 0, none⟩) hnx.1).trans hBb
    have hBn' := (World.cell?_of_block (a := ⟨Bn, 0, none⟩) hnx.2).trans hBn
    by_cases hlt : q + 1 < bins
    · have d0 : decide (((q + 1 : Nat) : Int) < (bins : Int)) = true := decide_eq_true (by omega)
      obtain ⟨x, hx, htk⟩ := places_get len bins hlen q hlt
      obtain ⟨fn, tmps, assign, body, hy, hRd⟩ := hY _ x wr hJs (by rw [List.length_take]; omega)
      have hm1 : (q + 1) * len ≤ 256 * 1000000000000 := Nat.mul_le_mul (by omega) hlen2
      have hw1 : wrap64 (((q : Int) + 1) * (len : Int)) = (((q + 1) * len : Nat) : Int) := by
        rw [show (q : Int) + 1 = ((q + 1 : Nat) : Int) by omega, ← Int.natCast_mul]; unfold wrap64; omega
      have hval : wrap64 ((wrap64 (((q : Int) + 1) * (len : Int))).tdiv (bins : Int)) = (x.1 : Int) := by
        rw [hw1, show Int.tdiv (((q + 1) * len : Nat) : Int) (bins : Int) = (x.1 : Int) by rw [hx]; rfl]
        have := x.2; unfold wrap64; omega
      try dsimp only at hy
      rw [← hval] at hy
      have HT := Lib.hid htk
      have Hb : Hid (bins ≠ 0) := by unfold Hid; omega
      have hb0 : ((bins : Int) == 0) = false := beq_eq_false_iff_ne.2 (by omega)
      clear htk hx hw1 hval
      gi_wp2
      refine hRd.mono ?_
      rintro e W3 (⟨rfl, hJ3, hk3⟩ | ⟨rfl, hJx3⟩)
      · gi_wp2
        exact ⟨⟨q + 1, hlt, by go_num, by rw [HT.out]; exact hJ3, hnx.trans hk3⟩, by simp [intOf]; omega⟩
      · gi_wp2
        refine bodyPost_ret (results_none rfl _ _ _) rfl ?_
        exact ⟨⟨_, rfl⟩, .inr ⟨_, by rw [← HT.out]; exact List.take_prefix _ _, hJx3⟩⟩
    · have d0 : decide (((q + 1 : Nat) : Int) < (bins : Int)) = false := decide_eq_false (by omega)
      gi_wp2
      go_end0
      refine ⟨⟨_, rfl⟩, .inl ⟨_, ?_, hJs⟩⟩
      exact List.take_of_length_le (by omega)
set_option maxHeartbeats 1000000 in
/-- edges.places: both arguments are boxed; the function value captures the boxes. -/
theorem places_in (n : Nat) (a b : Int) (w : World) :
    CallsIn Fence.wide n Try.prog 94 #[.int .i64 a, .int .i64 b] w fun e w' =>
      e = .returned (.func (.func 99) #[] #[.pointer (some ⟨w.heap.size + 1, 0, none⟩), .pointer (some ⟨w.heap.size, 0, none⟩)]) ∧ w' = (w.alloc (.cells #[.int .i64 a] 3)).alloc (.cells #[.int .i64 b] 3) := by
  refine callsIn_of_wp Try.func94 rfl trivial ?_ rfl
  simp only [Try.ntmps94, List.size_toArray, List.length_cons, List.length_nil, Nat.reduceAdd, Nat.reduceSub, Array.replicate_succ, Array.replicate_zero, List.push_toArray, List.append_toArray, List.nil_append, List.cons_append]
  gi_wp2
  go_ret
  exact ⟨rfl, rfl⟩
end Go.Proofs.Ytnagfbadjbkhmaa.FPlaces
