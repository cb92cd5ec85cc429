/- bins.permutes by a walk: a set of numbers in a map. -/
import Derived.Test.YtnagfbadjbkhmaaWMore
import Derived.Maps.OwnSet
import Derived.WalkKit
import Derived.Lib.Hide
import Derived.Test.YtnagfbadjbkhmaaFTake
import Derived.Test.YtnagfbadjbkhmaaProg
namespace Go.Proofs.Ytnagfbadjbkhmaa.FPermutes
open Go.RowKit Go.Maps Go.Proofs.YtnagfbadjbkhmaaW.PrintWords Go.Proofs.YtnagfbadjbkhmaaW.PrintLast Go.Proofs.YtnagfbadjbkhmaaW.PrintMore
set_option linter.unusedVariables false
set_option linter.unusedSimpArgs false
/-- The set of the numbers so far. -/
def st (l : List Int) : DataW Unit := setOf (.agg []) (l.map (Lit.int .i64))
theorem law3 : Keyed Try.prog 3 := int_keyed Try.underlying3
/-- Are they those from 0 to ahead of n, each once? -/
def perm (l : List Int) (n : Int) : Bool := if l.all (fun x => decide (0 ≤ x) && decide (x < n)) then decide ((l.length : Int) = n) && decide ((size (st l) : Int) = n) else false
theorem perm_bad {l : List Int} {n x : Int} (hx : x ∈ l) (h : x < 0 ∨ n ≤ x) : perm l n = false := by
  unfold perm
  rw [if_neg]
  intro ha
  have := List.all_eq_true.1 ha x hx
  simp only [Bool.and_eq_true, decide_eq_true_eq] at this
  omega
theorem st_snoc (l : List Int) (x : Int) : st (l ++ [x]) = (st l).put (.int .i64 x) (.agg []) := by
  unfold st; rw [List.map_append]; exact setOf_snoc _ _ _
set_option maxRecDepth 100000 in
set_option maxHeartbeats 2000000 in
theorem calls (A0 : Option Addr) (c0 : Nat) (l0 : List Int) (a1 : Int) (w : World) (hr0 : Kd.C (Kd.int .i64) w A0 l0.length l0) (hc0 : l0.length ≤ c0) (hwf : ∀ x ∈ l0, (Lit.int .i64 x).wf = true) :
    Calls Try.prog 73 #[.slice A0 l0.length c0, .int .i64 a1] w fun e w' => e = .returned (.bool (perm l0 a1)) ∧ Below w.heap.size w w' := by
  have hmm := @run_makeMap Try.prog
  have hlen : l0.length ≤ 9223372036854775807 := hr0.2.1
  go_enter Try.func73, Try.ntmps73
  go_wp2
  go_loopw [11] (fun i wr => ∃ k : Nat, k ≤ l0.length ∧ i = .int .i64 k ∧ wr.ownsMap Try.prog 3 unitElem w.heap.size k (st (l0.take k)) ∧ Below w.heap.size w wr ∧ ∀ x ∈ l0.take k, 0 ≤ x ∧ x < a1)
    (fun i _ => l0.length - (intOf i).toNat)
  case atStart => exact ⟨0, Nat.zero_le _, rfl, World.ownsMap_made _ _ _ _, (Below.refl _ _).alloc (Nat.le_refl _) _, fun x hx => by simp at hx⟩
  case round =>
    obtain ⟨k, hk, rfl, hown, hnx, hin⟩ := hrel
    by_cases hlt : k < l0.length
    · have d0 : decide ((k : Int) < (l0.length : Int)) = true := decide_eq_true (by omega)
      obtain ⟨ad, rfl, hx0⟩ := Kd.at_int hr0 (k : Int) (by omega) (by omega)
      simp only [Int.toNat_natCast] at hx0
      replace hx0 := (hnx.cell (World.block_lt_of_cell? w _ hx0)).trans hx0
      have hmem : rd l0 (k : Int) ∈ l0 := by simp [rd, List.getD_eq_getElem?_getD, hlt]
      have htk : l0.take (k + 1) = l0.take k ++ [rd l0 (k : Int)] := by
        rw [show rd l0 (k : Int) = l0[k] by simp [rd, hlt]]; exact List.take_succ_eq_append_getElem hlt
      generalize hxv : rd l0 (k : Int) = xv at *
      have hkey : keyOf Try.prog 3 (.int .i64 xv) = some (.int .i64 xv) := keyOf_int_mk Try.underlying3 (hwf xv hmem)
      have p0 : (0 : Int) ≤ (k : Int) := by omega
      have p1 : (k : Int) < (l0.length : Int) := by omega
      by_cases h0 : xv < 0
      · have e0 : decide (xv < 0) = true := decide_eq_true h0
        have Hp := Lib.hid (perm_bad (n := a1) hmem (.inl h0))
        clear hin htk
        go_wp2
        go_ret
        exact ⟨by rw [Hp.out]; rfl, hnx⟩
      · have e0 : decide (xv < 0) = false := decide_eq_false h0
        by_cases h1 : xv ≥ a1
        · have e1 : decide (xv ≥ a1) = true := decide_eq_true h1
          have Hp := Lib.hid (perm_bad (n := a1) hmem (.inr h1))
          clear hin htk
          go_wp2
          go_ret
          exact ⟨by rw [Hp.out]; rfl, hnx⟩
        · have e1 : decide (xv ≥ a1) = false := decide_eq_false h1
          have Htk := Lib.hid htk
          clear htk
          go_wp2_with (at_mapUpdate; refine wpList_mapUpdate_own _ rfl _ _ _ 134 rfl 3 136 law3 Try.underlying134 _ w.heap.size k _ rfl hown (by unfold maxLen; omega) _ _ _ rfl rfl hkey _ [] unitElem_mk ?_; intro w1 hown1 hgrow1)
          refine ⟨⟨k + 1, hlt, by simp, by rw [Htk.out, st_snoc]; exact hown1, hnx.grown hgrow1 hnx.size (fun j hj => by cases hj; exact Nat.le_refl _), ?_⟩, by simp [intOf]; omega⟩
          rw [Htk.out]
          intro x hx
          rcases List.mem_append.1 hx with hx | hx
          · exact hin x hx
          · obtain rfl := List.mem_singleton.1 hx; omega
    · have d0 : decide ((k : Int) < (l0.length : Int)) = false := decide_eq_false (by omega)
      obtain rfl : k = l0.length := by omega
      rw [List.take_of_length_le (Nat.le_refl _)] at hown hin
      have hm := hown.len Try.underlying134 3
      have Hp : Hid (perm l0 a1 = (decide ((l0.length : Int) = a1) && decide ((size (st l0) : Int) = a1))) := by
        unfold Hid perm
        rw [if_pos]
        rw [List.all_eq_true]
        intro x hx
        have := hin x hx
        simp; omega
      clear hin
      by_cases h0 : (l0.length : Int) = a1
      · have e0 : ((l0.length : Int) == a1) = true := beq_iff_eq.2 h0
        have E0 := Lib.hid h0
        clear h0
        go_wp2
        go_ret
        refine ⟨?_, hnx⟩
        rw [Hp.out, decide_eq_true E0.out]
        rw [Bool.true_and]
        have hb : ((size (st l0) : Int) == a1) = decide ((size (st l0) : Int) = a1) := by
          by_cases h : (size (st l0) : Int) = a1
          · rw [decide_eq_true h]; exact beq_iff_eq.2 h
          · rw [decide_eq_false h]; exact beq_eq_false_iff_ne.2 h
        first | rfl | (rw [← hb]; rfl)
      · have e0 : ((l0.length : Int) == a1) = false := beq_eq_false_iff_ne.2 h0
        have E0 := Lib.hid h0
        clear h0
        go_wp2
        go_ret
        refine ⟨?_, hnx⟩
        rw [Hp.out, decide_eq_false E0.out]
        rfl
end Go.Proofs.Ytnagfbadjbkhmaa.FPermutes
