/- The plain law behind WalkMatrix: to which leaves all rows of any matrix come is the document's. -/
import Derived.Test.YtkfnhbhfadhbkaaPureWalkPlaces
import Derived.Test.YtkfnhbhfadhbkaaPurePart
import Derived.Test.YtkfnhbhfadhbkaaPAx12
namespace Go.Proofs.Ytkfnhbhfadhbkaa.Pure
open Go.RowKit Go.Proofs.YtkfnhbhfadhbkaaW.PrintWords Go.Proofs.YtkfnhbhfadhbkaaW.PrintLast Go.Proofs.YtkfnhbhfadhbkaaW.PrintMore Go.Proofs.Ytkfnhbhfadhbkaa.PA
set_option linter.unusedVariables false

theorem cell_f (r c : Int) (l : List Int) (i j : Int) (hw : ∀ x ∈ l, (Lit.int .u16 x).wf = true) (hr : rightB r c l = true) (hi0 : 0 ≤ i) (hi : i < r) (hj0 : 0 ≤ j) (hj : j < c) : bins_Cell.f r c l i j = some (cellS r c l i j, true) := by
  unfold bins_Cell.f cellS
  rw [right_f]
  simp only [Option.bind_some]
  obtain ⟨b1, b2, b3, b4⟩ := right_bound hr hi0 hi hj0 hj
  have := rd_u16 hw (j * r + i)
  simp only [hr, if_true, true_and]
  rw [if_neg (by omega), if_neg (by omega), if_neg (by omega), if_neg (by omega), wrap_in (i := j * r) (by omega) (by omega), wrap_in (i := j * r + i) (by omega) (by omega), if_pos (by omega), if_pos (by omega), wrap_in (by omega) (by omega), if_pos (by omega)]

/-- A row's bins, from column j on. -/
def rowS (r c : Int) (l : List Int) (i : Int) : Nat → List Int
  | 0 => []
  | d + 1 => cellS r c l i (c - (d + 1 : Nat)) :: rowS r c l i d

theorem row_loop (r c : Int) (l : List Int) (i : Int) (hw : ∀ x ∈ l, (Lit.int .u16 x).wf = true) (hr : rightB r c l = true) (hi0 : 0 ≤ i) (hi : i < r) (hc : c ≤ 1000) :
    ∀ (d k : Nat) (acc : List Int), (d : Int) ≤ c → acc.length ≤ c - d → d < k → bins_Row.l0 k i acc (c - d) r c l = some (acc ++ rowS r c l i d) := by
  intro d
  induction d with
  | zero =>
    intro k acc hd ha hk
    obtain ⟨k, rfl⟩ : ∃ m, k = m + 1 := ⟨k - 1, by omega⟩
    simp only [bins_Row.l0, rowS]
    rw [if_neg (by omega), List.append_nil]
  | succ d ih =>
    intro k acc hd ha hk
    obtain ⟨k, rfl⟩ : ∃ m, k = m + 1 := ⟨k - 1, by omega⟩
    simp only [bins_Row.l0, rowS]
    rw [if_pos (by omega), cell_f r c l i _ hw hr hi0 hi (by omega) (by omega)]
    simp only [Option.bind_some, if_true]
    rw [if_pos (by omega), wrap_in (by omega) (by omega)]
    have := ih k (acc ++ [cellS r c l i (c - ((d + 1 : Nat) : Int))]) (by omega) (by rw [List.length_append, List.length_singleton]; omega) (by omega)
    rw [show c - ((d + 1 : Nat) : Int) + 1 = c - (d : Int) by omega, this]
    simp
theorem cells_loop (r c : Int) (l : List Int) (i : Int) (hw : ∀ x ∈ l, (Lit.int .u16 x).wf = true) (hc : c ≤ 1000) :
    ∀ (d k : Nat) (acc : List Int), (d : Int) ≤ c → acc.length ≤ c - d → d < k → hornbeamref20_Cells.l0 k i acc (c - d) r c l = some (acc ++ rowS r c l i d) := by
  intro d
  induction d with
  | zero =>
    intro k acc hd ha hk
    obtain ⟨k, rfl⟩ : ∃ m, k = m + 1 := ⟨k - 1, by omega⟩
    simp only [hornbeamref20_Cells.l0, rowS]
    rw [if_neg (by omega), List.append_nil]
  | succ d ih =>
    intro k acc hd ha hk
    obtain ⟨k, rfl⟩ : ∃ m, k = m + 1 := ⟨k - 1, by omega⟩
    simp only [hornbeamref20_Cells.l0, rowS]
    rw [if_pos (by omega), ref_cell_f r c l i _ hw]
    simp only [Option.bind_some]
    rw [if_pos (by omega), wrap_in (by omega) (by omega)]
    have := ih k (acc ++ [cellS r c l i (c - ((d + 1 : Nat) : Int))]) (by omega) (by rw [List.length_append, List.length_singleton]; omega) (by omega)
    rw [show c - ((d + 1 : Nat) : Int) + 1 = c - (d : Int) by omega, this]
    simp
theorem rowS_len (r c : Int) (l : List Int) (i : Int) : ∀ d, (rowS r c l i d).length = d := by
  intro d
  induction d with
  | zero => rfl
  | succ d ih => simp [rowS, ih]

/-- The leaves, from row r - d on. -/
def leavesS (l0 : List S29) (r c : Int) (l : List Int) : Nat → List Int
  | 0 => []
  | d + 1 => walkR l0 (rowS r c l (r - (d + 1 : Nat)) c.toNat) l0.length 0 :: leavesS l0 r c l d
theorem leavesS_len (l0 : List S29) (r c : Int) (l : List Int) : ∀ d, (leavesS l0 r c l d).length = d := by
  intro d
  induction d with
  | zero => rfl
  | succ d ih => simp [leavesS, ih]

theorem places_loop (l0 : List S29) (r c : Int) (l : List Int) (hw : ∀ x ∈ l, (Lit.int .u16 x).wf = true) (hr : rightB r c l = true) (hc0 : 0 ≤ c) (hc : c ≤ 1000) (hr1 : r ≤ 1000) :
    ∀ (d k : Nat) (acc : List Int), (d : Int) ≤ r → acc.length ≤ r - d → d + 1001 < k → walk_Places.l0 k l0 acc r (r - d) r c l = some (acc ++ leavesS l0 r c l d) := by
  intro d
  induction d with
  | zero =>
    intro k acc hd ha hk
    obtain ⟨k, rfl⟩ : ∃ m, k = m + 1 := ⟨k - 1, by omega⟩
    simp only [walk_Places.l0, leavesS]
    rw [if_neg (by omega), List.append_nil]
  | succ d ih =>
    intro k acc hd ha hk
    obtain ⟨k, rfl⟩ : ∃ m, k = m + 1 := ⟨k - 1, by omega⟩
    simp only [walk_Places.l0, leavesS]
    have e : bins_Row.f k r c l (r - ((d + 1 : Nat) : Int)) = some (rowS r c l (r - ((d + 1 : Nat) : Int)) c.toNat) := by
      unfold bins_Row.f
      have := row_loop r c l (r - ((d + 1 : Nat) : Int)) hw hr (by omega) (by omega) hc c.toNat k [] (by omega) (by simp; omega) (by omega)
      rw [show c - (c.toNat : Int) = 0 by omega] at this
      simpa using this
    rw [if_pos (by omega), e]
    simp only [Option.bind_some, place_eq]
    rw [if_pos (by omega), wrap_in (by omega) (by omega)]
    have := ih k (acc ++ [walkR l0 (rowS r c l (r - ((d + 1 : Nat) : Int)) c.toNat) l0.length 0]) (by omega) (by rw [List.length_append, List.length_singleton]; omega) (by omega)
    rw [show r - ((d + 1 : Nat) : Int) + 1 = r - (d : Int) by omega, this]
    simp
theorem ref_places_loop (l0 : List S29) (hl0 : l0.length ≤ 300) (r c : Int) (l : List Int) (hw : ∀ x ∈ l, (Lit.int .u16 x).wf = true) (hc0 : 0 ≤ c) (hc : c ≤ 1000) (hr1 : r ≤ 1000) :
    ∀ (d k : Nat) (acc : List Int), (d : Int) ≤ r → acc.length ≤ r - d → d + 1001 < k → hornbeamref20_Places.l0 k l0 acc (r - d) r c l = some (acc ++ leavesS l0 r c l d) := by
  intro d
  induction d with
  | zero =>
    intro k acc hd ha hk
    obtain ⟨k, rfl⟩ : ∃ m, k = m + 1 := ⟨k - 1, by omega⟩
    simp only [hornbeamref20_Places.l0, leavesS]
    rw [if_neg (by omega), List.append_nil]
  | succ d ih =>
    intro k acc hd ha hk
    obtain ⟨k, rfl⟩ : ∃ m, k = m + 1 := ⟨k - 1, by omega⟩
    simp only [hornbeamref20_Places.l0, leavesS]
    have e : hornbeamref20_Cells.f k r c l (r - ((d + 1 : Nat) : Int)) = some (rowS r c l (r - ((d + 1 : Nat) : Int)) c.toNat) := by
      unfold hornbeamref20_Cells.f
      have := cells_loop r c l (r - ((d + 1 : Nat) : Int)) hw hc c.toNat k [] (by omega) (by simp; omega) (by omega)
      rw [show c - (c.toNat : Int) = 0 by omega] at this
      simpa using this
    rw [if_pos (by omega), e]
    simp only [Option.bind_some]
    unfold hornbeamref20_Place.f
    rw [ref_place l0 _ (by omega) l0.length k 0 0 (by omega) (by omega) (by omega)]
    simp only [Option.bind_some]
    rw [if_pos (by omega), wrap_in (by omega) (by omega)]
    have := ih k (acc ++ [walkR l0 (rowS r c l (r - ((d + 1 : Nat) : Int)) c.toNat) l0.length 0]) (by omega) (by rw [List.length_append, List.length_singleton]; omega) (by omega)
    rw [show r - ((d + 1 : Nat) : Int) + 1 = r - (d : Int) by omega, this]
    simp

theorem WalkMatrix : hornbeamlaw20_WalkMatrix.Pure := by
  intro l0 r c l h0 h1
  have hw := h1.2.2.2.2
  refine ⟨4000, ?_⟩
  have yes : hornbeamlaw20_WalkMatrix.j0 4000 l0 true r c l = some true := by
    simp only [hornbeamlaw20_WalkMatrix.j0, if_true, fixed_true]
    rfl
  unfold hornbeamlaw20_WalkMatrix.f
  by_cases g1 : (l0.length : Int) > 300
  · rw [if_pos g1]; exact yes
  rw [if_neg g1]
  by_cases g2 : (l.length : Int) > 500
  · rw [if_pos g2]; exact yes
  rw [if_neg g2]
  by_cases g3 : r > 1000
  · rw [if_pos g3]; exact yes
  rw [if_neg g3]
  by_cases g4 : c > 1000
  · rw [decide_eq_true g4]; exact yes
  rw [decide_eq_false g4]
  simp only [hornbeamlaw20_WalkMatrix.j0, Bool.false_eq_true, if_false, fixed_true, Option.bind_some, if_true]
  have key : ∃ z : List Int, z.length ≤ 1000 ∧ walk_Places.f 3999 l0 r c l = some z ∧ hornbeamref20_Places.f 3999 l0 r c l = some z := by
    unfold walk_Places.f hornbeamref20_Places.f
    simp only [right_f, ref_right_f, Option.bind_some]
    by_cases hr : rightB r c l = true
    · obtain ⟨q1, q2, q3, q4, q5⟩ := of_decide_eq_true hr
      refine ⟨leavesS l0 r c l r.toNat, by rw [leavesS_len]; omega, ?_, ?_⟩
      · rw [if_pos hr]
        have := places_loop l0 r c l hw hr q3 (by omega) (by omega) r.toNat 3999 [] (by omega) (by simp; omega) (by omega)
        rw [show r - (r.toNat : Int) = 0 by omega] at this
        simpa using this
      · rw [if_pos hr]
        have := ref_places_loop l0 (by omega) r c l hw q3 (by omega) (by omega) r.toNat 3999 [] (by omega) (by simp; omega) (by omega)
        rw [show r - (r.toNat : Int) = 0 by omega] at this
        simpa using this
    · exact ⟨[], by simp, by rw [if_neg hr], by rw [if_neg hr]⟩
  obtain ⟨z, hz, e1, e2⟩ := key
  rw [e1, e2]
  simp only [Option.bind_some]
  rw [same_f _ _ (by omega) 3999 (by omega)]
  simp
end Go.Proofs.Ytkfnhbhfadhbkaa.Pure
