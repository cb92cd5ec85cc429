/- The plain law behind PartTwice: parted again behind the same bin, the left ones all go left, and the right ones right. -/
import Derived.Test.YtkfnhbhfadhbkaaPurePart
import Derived.Test.YtkfnhbhfadhbkaaPAx17
namespace Go.Proofs.Ytkfnhbhfadhbkaa.Pure
open Go.RowKit Go.Proofs.YtkfnhbhfadhbkaaW.PrintWords Go.Proofs.YtkfnhbhfadhbkaaW.PrintLast Go.Proofs.YtkfnhbhfadhbkaaW.PrintMore Go.Proofs.Ytkfnhbhfadhbkaa.PA
set_option linter.unusedVariables false

theorem any_filter {p q : Int → Bool} {l : List Int} (h : l.any p = false) : (l.filter q).any p = false := by
  rw [Bool.eq_false_iff]
  intro hh
  obtain ⟨x, hx, hp⟩ := List.any_eq_true.1 hh
  exact absurd (List.any_eq_true.2 ⟨x, (List.mem_filter.1 hx).1, hp⟩) (by rw [h]; simp)

theorem twice_eq (r c : Int) (l : List Int) (col bin : Int) (rows : List Int) (h : (partS r c l col bin rows).2.2 = 0) :
    partS r c l col bin (partS r c l col bin rows).1 = ((partS r c l col bin rows).1, [], 0) ∧ partS r c l col bin (partS r c l col bin rows).2.1 = ([], (partS r c l col bin rows).2.1, 0) := by
  unfold partS at h ⊢
  by_cases hr : rightB r c l = true ∧ 0 ≤ col ∧ col < c
  · simp only [hr, and_self, if_true] at h ⊢
    by_cases ha : rows.any (fun i => decide (i < 0 ∨ i ≥ r)) = true
    · rw [if_pos ha] at h; simp at h
    · have ha' : rows.any (fun i => decide (i < 0 ∨ i ≥ r)) = false := by simpa using ha
      simp only [if_neg ha, any_filter ha', Bool.false_eq_true, if_false]
      constructor <;> simp [List.filter_filter]
  · rw [if_neg hr] at h; simp at h

theorem PartTwice : hornbeamlaw17_PartTwice.Pure := by
  intro r c l col bin rows h0 h1
  have hw := h0.2.2.2.2
  refine ⟨1000, ?_⟩
  have yes : hornbeamlaw17_PartTwice.j0 1000 true r c l col bin rows = some true := by
    simp only [hornbeamlaw17_PartTwice.j0, if_true]
    rw [part_fixed 999 (by omega)]
    rfl
  unfold hornbeamlaw17_PartTwice.f
  by_cases hg : (l.length : Int) > 500
  · rw [if_pos hg]; exact yes
  · rw [if_neg hg]
    by_cases hg2 : (rows.length : Int) > 200
    · rw [decide_eq_true hg2]; exact yes
    · rw [decide_eq_false hg2]
      simp only [hornbeamlaw17_PartTwice.j0, Bool.false_eq_true, if_false]
      rw [part_f r c l col bin rows hw (by omega)]
      simp only [Option.bind_some]
      by_cases he : (partS r c l col bin rows).2.2 = 0
      · obtain ⟨e1, e2⟩ := twice_eq r c l col bin rows he
        have hlen : (partS r c l col bin rows).1.length ≤ 200 ∧ (partS r c l col bin rows).2.1.length ≤ 200 := by
          unfold partS
          split
          · split
            · simp
            · exact ⟨Nat.le_trans (List.length_filter_le _ _) (by omega), Nat.le_trans (List.length_filter_le _ _) (by omega)⟩
          · simp
        rw [if_pos he, part_f r c l col bin _ hw (by omega), part_f r c l col bin _ hw (by omega), e1, e2, part_fixed 999 (by omega)]
        simp only [Option.bind_some, if_true]
        rw [same_f _ _ (by omega) 999 (by omega)]
        simp only [Option.bind_some, decide_true, if_true]
        rw [same_f _ _ (by omega) 999 (by omega)]
        simp only [Option.bind_some, decide_true, if_true]
        simp [wrap64]
      · rw [if_neg he, part_fixed 999 (by omega)]
        rfl
end Go.Proofs.Ytkfnhbhfadhbkaa.Pure
