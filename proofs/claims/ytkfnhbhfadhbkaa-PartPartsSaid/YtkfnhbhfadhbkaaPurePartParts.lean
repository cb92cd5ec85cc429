/- The plain law behind PartParts: how rows are parted is the document's, and the rows stay. -/
import Derived.Test.YtkfnhbhfadhbkaaPurePart
import Derived.Test.YtkfnhbhfadhbkaaPAx15
namespace Go.Proofs.Ytkfnhbhfadhbkaa.Pure
open Go.RowKit Go.Proofs.YtkfnhbhfadhbkaaW.PrintWords Go.Proofs.YtkfnhbhfadhbkaaW.PrintLast Go.Proofs.YtkfnhbhfadhbkaaW.PrintMore Go.Proofs.Ytkfnhbhfadhbkaa.PA
set_option linter.unusedVariables false

theorem pp_l1 (rows : List Int) (hl : rows.length ≤ 200) (c b : Int) (n : Nat) : ∀ (d k i : Nat) (x7 : List Int), x7.length = n → n ≤ 200 → i + d = n → d + 210 < k →
    hornbeamlaw17_PartParts.l1 k rows x7 true (n : Int) (i : Int) c b rows = some true := by
  intro d
  induction d with
  | zero =>
    intro k i x7 h7 hn hi hk
    obtain ⟨k, rfl⟩ : ∃ m, k = m + 1 := ⟨k - 1, by omega⟩
    simp only [hornbeamlaw17_PartParts.l1]
    rw [if_neg (by omega), part_fixed k (by omega)]
    simp only [Option.bind_some, if_true]
    rw [same_f _ _ (by omega) k (by omega)]
    simp
  | succ d ih =>
    intro k i x7 h7 hn hi hk
    obtain ⟨k, rfl⟩ : ∃ m, k = m + 1 := ⟨k - 1, by omega⟩
    simp only [hornbeamlaw17_PartParts.l1]
    rw [if_pos (by omega), if_pos (by omega), if_pos (by omega), wrap_in (by omega) (by omega)]
    exact ih k (i + 1) _ (by rw [List.length_set]; exact h7) hn (by omega) (by omega)

theorem pp_l0 (rows : List Int) (hl : rows.length ≤ 200) (c b : Int) (x7 : List Int) (h7 : x7.length ≤ 200) (n : Nat) : ∀ (d k i : Nat) (x6 : List Int), x6.length = n → n ≤ 200 → i + d = n → d + 420 < k →
    hornbeamlaw17_PartParts.l0 k rows x6 x7 true (n : Int) (i : Int) c b rows = some true := by
  intro d
  induction d with
  | zero =>
    intro k i x6 h6 hn hi hk
    obtain ⟨k, rfl⟩ : ∃ m, k = m + 1 := ⟨k - 1, by omega⟩
    simp only [hornbeamlaw17_PartParts.l0]
    rw [if_neg (by omega)]
    exact pp_l1 rows hl c b x7.length x7.length k 0 x7 rfl h7 (by omega) (by omega)
  | succ d ih =>
    intro k i x6 h6 hn hi hk
    obtain ⟨k, rfl⟩ : ∃ m, k = m + 1 := ⟨k - 1, by omega⟩
    simp only [hornbeamlaw17_PartParts.l0]
    rw [if_pos (by omega), if_pos (by omega), if_pos (by omega), wrap_in (by omega) (by omega)]
    exact ih k (i + 1) _ (by rw [List.length_set]; exact h6) hn (by omega) (by omega)

theorem partS_len (r c : Int) (l : List Int) (col bin : Int) (rows : List Int) : (partS r c l col bin rows).1.length ≤ rows.length ∧ (partS r c l col bin rows).2.1.length ≤ rows.length := by
  unfold partS
  split
  · split
    · simp
    · exact ⟨List.length_filter_le _ _, List.length_filter_le _ _⟩
  · simp

theorem PartParts : hornbeamlaw17_PartParts.Pure := by
  intro r c l col bin rows h0 h1
  have hw := h0.2.2.2.2
  refine ⟨1000, ?_⟩
  have yes : hornbeamlaw17_PartParts.j0 1000 true r c l col bin rows = some true := by
    simp only [hornbeamlaw17_PartParts.j0, if_true]
    rw [part_fixed 999 (by omega)]
    rfl
  unfold hornbeamlaw17_PartParts.f
  by_cases hg : (l.length : Int) > 500
  · rw [if_pos hg]; exact yes
  · rw [if_neg hg]
    by_cases hg2 : (rows.length : Int) > 200
    · rw [decide_eq_true hg2]; exact yes
    · rw [decide_eq_false hg2]
      have hlen := partS_len r c l col bin rows
      simp only [hornbeamlaw17_PartParts.j0, Bool.false_eq_true, if_false, Option.bind_some, List.nil_append, List.length_nil, Nat.zero_add]
      rw [if_pos (by omega), part_f r c l col bin rows hw (by omega), ref_part_f r c l col bin rows hw (by omega) 999 (by omega)]
      simp only [Option.bind_some]
      rw [same_f _ _ (by omega) 999 (by omega)]
      simp only [Option.bind_some, decide_true, if_true]
      rw [same_f _ _ (by omega) 999 (by omega)]
      simp only [Option.bind_some, decide_true, if_true, beq_self_eq_true]
      simp only [hornbeamlaw17_PartParts.j1]
      exact pp_l0 rows (by omega) col bin _ (by omega) _ (partS r c l col bin rows).1.length 998 0 _ rfl (by omega) (by omega) (by omega)
end Go.Proofs.Ytkfnhbhfadhbkaa.Pure
