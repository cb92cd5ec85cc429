/- The plain law behind PartAll: both sides together have each row as often as it was there, each side in the order in which they stood. -/
import Derived.Test.YtkfnhbhfadhbkaaPurePart
import Derived.Test.YtkfnhbhfadhbkaaPAx16
namespace Go.Proofs.Ytkfnhbhfadhbkaa.Pure
open Go.RowKit Go.Proofs.YtkfnhbhfadhbkaaW.PrintWords Go.Proofs.YtkfnhbhfadhbkaaW.PrintLast Go.Proofs.YtkfnhbhfadhbkaaW.PrintMore Go.Proofs.Ytkfnhbhfadhbkaa.PA
set_option linter.unusedVariables false

theorem rd_cons (x : Int) (l : List Int) : rd (x :: l) 0 = x := rfl

theorem all_loop (r c : Int) (l : List Int) (col bin : Int) (rows : List Int) (hw : ∀ x ∈ l, (Lit.int .u16 x).wf = true) (hl : rows.length ≤ 200) (hr : rightB r c l = true ∧ 0 ≤ col ∧ col < c) (ha : rows.any (fun i => decide (i < 0 ∨ i ≥ r)) = false) :
    ∀ (d k i : Nat), i + d = rows.length → 2 * d + 10 < k →
      hornbeamlaw17_PartAll.l0 k ((rows.drop i).filter (fun i => decide (rd l (col * r + i) ≤ bin))) ((rows.drop i).filter (fun i => !decide (rd l (col * r + i) ≤ bin))) rows (rows.length : Int) (i : Int) r c l col bin rows = some true := by
  intro d
  induction d with
  | zero =>
    intro k i hi hk
    obtain ⟨k, rfl⟩ : ∃ m, k = m + 1 := ⟨k - 1, by omega⟩
    simp only [hornbeamlaw17_PartAll.l0]
    rw [if_neg (by omega), part_fixed k (by omega), List.drop_eq_nil_of_le (by omega)]
    simp
  | succ d ih =>
    intro k i hi hk
    obtain ⟨k, rfl⟩ : ∃ m, k = m + 2 := ⟨k - 2, by omega⟩
    have hmem : rd rows (i : Int) ∈ rows := rd_mem (by omega) (by omega)
    have hx : ¬ (rd rows (i : Int) < 0 ∨ rd rows (i : Int) ≥ r) := fun h => by
      have hh : rows.any (fun i => decide (i < 0 ∨ i ≥ r)) = true := List.any_eq_true.2 ⟨rd rows (i : Int), hmem, decide_eq_true h⟩
      rw [ha] at hh; simp at hh
    have hc : cellS r c l (rd rows (i : Int)) col = rd l (col * r + rd rows (i : Int)) := by unfold cellS; rw [if_pos ⟨hr.1, by omega, by omega, hr.2.1, hr.2.2⟩]
    have ih' := ih k (i + 1) (by omega) (by omega)
    rw [show (((i + 1 : Nat)) : Int) = (i : Int) + 1 by omega] at ih'
    rw [drop_rd rows i (by omega)]
    simp only [hornbeamlaw17_PartAll.l0]
    rw [if_pos (by omega), if_pos (by omega), if_pos (by omega)]
    generalize rd rows (i : Int) = x at hx hc
    rw [ref_cell_f r c l _ _ hw, hc]
    simp only [Option.bind_some]
    by_cases hb : rd l (col * r + x) ≤ bin
    · simp only [List.filter_cons, hb, decide_true, if_true, Bool.not_true, Bool.false_eq_true, if_false, List.length_cons, rd_cons]
      rw [if_pos (by omega), if_pos (by omega)]
      simp only [hornbeamlaw17_PartAll.j2, if_true, List.length_cons]
      rw [if_pos (by omega), wrap_in (by omega) (by omega)]
      simpa using ih'
    · have hbf : decide (rd l (col * r + x) ≤ bin) = false := decide_eq_false hb
      simp only [List.filter_cons, hbf, Bool.false_eq_true, if_false, Bool.not_false, if_true]
      have hj : hornbeamlaw17_PartAll.j2 (k + 1) ((rows.drop (i + 1)).filter (fun i => decide (rd l (col * r + i) ≤ bin))) (x :: (rows.drop (i + 1)).filter (fun i => !decide (rd l (col * r + i) ≤ bin))) x rows (rows.length : Int) (i : Int) false r c l col bin rows = some true := by
        simp only [hornbeamlaw17_PartAll.j2, Bool.false_eq_true, if_false, List.length_cons, rd_cons, if_true]
        rw [if_pos (by omega), if_pos (by omega), ref_cell_f r c l _ _ hw, hc]
        simp only [Option.bind_some]
        rw [if_pos (by omega), if_pos (by omega), wrap_in (by omega) (by omega)]
        simpa using ih'
      by_cases g1 : (((rows.drop (i + 1)).filter (fun i => decide (rd l (col * r + i) ≤ bin))).length : Int) > 0
      · rw [if_pos g1, if_pos (by omega)]
        by_cases g2 : rd ((rows.drop (i + 1)).filter (fun i => decide (rd l (col * r + i) ≤ bin))) 0 = x
        · rw [if_pos g2]; exact hj
        · rw [if_neg g2]; exact hj
      · rw [if_neg g1]; exact hj

theorem PartAll : hornbeamlaw17_PartAll.Pure := by
  intro r c l col bin rows h0 h1
  have hw := h0.2.2.2.2
  refine ⟨1000, ?_⟩
  have yes : hornbeamlaw17_PartAll.j0 1000 true r c l col bin rows = some true := by
    simp only [hornbeamlaw17_PartAll.j0, if_true]
    rw [part_fixed 999 (by omega)]
    rfl
  unfold hornbeamlaw17_PartAll.f
  by_cases hg : (l.length : Int) > 500
  · rw [if_pos hg]; exact yes
  · rw [if_neg hg]
    by_cases hg2 : (rows.length : Int) > 200
    · rw [decide_eq_true hg2]; exact yes
    · rw [decide_eq_false hg2]
      simp only [hornbeamlaw17_PartAll.j0, Bool.false_eq_true, if_false]
      rw [part_f r c l col bin rows hw (by omega), part_fixed 999 (by omega)]
      simp only [Option.bind_some, if_true]
      by_cases hr : rightB r c l = true ∧ 0 ≤ col ∧ col < c
      · by_cases ha : rows.any (fun i => decide (i < 0 ∨ i ≥ r)) = true
        · have e : partS r c l col bin rows = ([], [], 5) := by unfold partS; rw [if_pos hr, if_pos ha]
          rw [e, if_neg (by simp)]; rfl
        · have e : partS r c l col bin rows = (rows.filter (fun i => decide (rd l (col * r + i) ≤ bin)), rows.filter (fun i => !decide (rd l (col * r + i) ≤ bin)), 0) := by unfold partS; rw [if_pos hr, if_neg ha]
          rw [e, if_pos rfl]
          have := all_loop r c l col bin rows hw (by omega) hr (by simpa using ha) rows.length 999 0 (by omega) (by omega)
          simpa using this
      · have e : partS r c l col bin rows = ([], [], 8) := by unfold partS; rw [if_neg hr]
        rw [e, if_neg (by simp)]; rfl
end Go.Proofs.Ytkfnhbhfadhbkaa.Pure
