/- What part.Part and the document's parting come to, as one plain function of the matrix and the rows. -/
import Derived.Test.YtkfnhbhfadhbkaaPureKit
import Derived.Test.YtkfnhbhfadhbkaaPAx13
import Derived.Test.YtkfnhbhfadhbkaaPAx14
namespace Go.Proofs.Ytkfnhbhfadhbkaa.Pure
open Go.RowKit Go.Proofs.YtkfnhbhfadhbkaaW.PrintWords Go.Proofs.YtkfnhbhfadhbkaaW.PrintLast Go.Proofs.YtkfnhbhfadhbkaaW.PrintMore Go.Proofs.Ytkfnhbhfadhbkaa.PA
set_option linter.unusedVariables false
set_option linter.unusedSimpArgs false

theorem same_loop (a b : List Int) (h : a.length = b.length) (hl : a.length ≤ 9223372036854775807) : ∀ (d k i : Nat), i + d = a.length → d < k → hornbeamref03_Same.l0 k a b (i : Int) = some (decide (a.drop i = b.drop i)) := by
  intro d
  induction d with
  | zero =>
    intro k i hi hk
    obtain ⟨k, rfl⟩ : ∃ m, k = m + 1 := ⟨k - 1, by omega⟩
    simp only [hornbeamref03_Same.l0]
    rw [if_neg (by omega), List.drop_eq_nil_of_le (by omega), List.drop_eq_nil_of_le (by omega)]
    rfl
  | succ d ih =>
    intro k i hi hk
    obtain ⟨k, rfl⟩ : ∃ m, k = m + 1 := ⟨k - 1, by omega⟩
    simp only [hornbeamref03_Same.l0]
    rw [if_pos (by omega), if_pos (by omega), if_pos (by omega), drop_rd a i (by omega), drop_rd b i (by omega)]
    by_cases he : rd a (i : Int) = rd b (i : Int)
    · rw [if_pos he, wrap_in (by omega) (by omega)]
      have := ih k (i + 1) (by omega) (by omega)
      rw [show ((i : Int) + 1) = ((i + 1 : Nat) : Int) by omega, this]
      simp [he]
    · rw [if_neg he]; simp [he]
theorem same_f (a b : List Int) (hl : a.length ≤ 9223372036854775807) (k : Nat) (hk : a.length < k) : hornbeamref03_Same.f k a b = some (decide (a = b)) := by
  unfold hornbeamref03_Same.f
  by_cases h : a.length = b.length
  · rw [if_pos (by omega)]
    have := same_loop a b h hl a.length k 0 (by omega) hk
    simpa using this
  · rw [if_neg (by omega)]
    have : a ≠ b := fun e => h (by rw [e])
    simp [this]

/-- Is a matrix right? -/
def rightB (r c : Int) (l : List Int) : Bool := decide (0 ≤ r ∧ r ≤ 16777216 ∧ 0 ≤ c ∧ c ≤ 16777216 ∧ (l.length : Int) = r * c)
theorem right_aux (r c : Int) (l : List Int) : (if r ≥ 0 then some (decide (r ≤ 16777216)) else some false).bind (fun t => if t = true then ((if c ≥ 0 then some (decide (c ≤ 16777216)) else some false).bind fun t2 => (if t2 = true then (some ((l.length : Int) == (wrap64 (r * c)))) else (some false))) else (some false)) = some (rightB r c l) := by
  unfold rightB
  by_cases h1 : 0 ≤ r ∧ r ≤ 16777216
  · by_cases h2 : 0 ≤ c ∧ c ≤ 16777216
    · have hm : 0 ≤ r * c := Int.mul_nonneg h1.1 h2.1
      have hm2 : r * c ≤ 16777216 * 16777216 := Int.le_trans (Int.mul_le_mul_of_nonneg_right h1.2 h2.1) (Int.mul_le_mul_of_nonneg_left h2.2 (by omega))
      simp only [ge_iff_le, h1.1, h1.2, h2.1, h2.2, if_true, decide_true, Option.bind_some, true_and]
      rw [wrap_in (by omega) (by omega)]
      rfl
    · simp only [ge_iff_le, h1.1, h1.2, if_true, decide_true, Option.bind_some, true_and]
      by_cases h3 : 0 ≤ c
      · have h4 : ¬ c ≤ 16777216 := fun h => h2 ⟨h3, h⟩
        simp [h3, h4]
      · simp [h3]
  · by_cases h3 : 0 ≤ r
    · have h4 : ¬ r ≤ 16777216 := fun h => h1 ⟨h3, h⟩
      simp [h3, h4]
    · simp [h3]
theorem right_f (r c : Int) (l : List Int) : bins_Right.f r c l = some (rightB r c l) := right_aux r c l
theorem ref_right_f (r c : Int) (l : List Int) : hornbeamref11_Right.f r c l = some (rightB r c l) := right_aux r c l
theorem right_bound {r c i j : Int} {l : List Int} (h : rightB r c l = true) (hi0 : 0 ≤ i) (hi : i < r) (hj0 : 0 ≤ j) (hj : j < c) : 0 ≤ j * r ∧ j * r + i < l.length ∧ (l.length : Int) ≤ 281474976710656 ∧ j * r + r ≤ l.length := by
  obtain ⟨h1, h2, h3, h4, h5⟩ := of_decide_eq_true h
  have a1 : 0 ≤ j * r := Int.mul_nonneg hj0 h1
  have a2 : (j + 1) * r ≤ c * r := Int.mul_le_mul_of_nonneg_right (by omega) h1
  have a3 : r * c ≤ 16777216 * 16777216 := Int.le_trans (Int.mul_le_mul_of_nonneg_right h2 h3) (Int.mul_le_mul_of_nonneg_left h4 (by omega))
  rw [Int.add_mul, Int.one_mul] at a2
  rw [Int.mul_comm c r, ← h5] at a2
  refine ⟨a1, ?_, ?_, ?_⟩ <;> omega

/-- A row's bin in a column; -1. -/
def cellS (r c : Int) (l : List Int) (i j : Int) : Int := if rightB r c l = true ∧ 0 ≤ i ∧ i < r ∧ 0 ≤ j ∧ j < c then rd l (j * r + i) else -1
theorem ref_cell_f (r c : Int) (l : List Int) (i j : Int) (hw : ∀ x ∈ l, (Lit.int .u16 x).wf = true) : hornbeamref11_Cell.f r c l i j = some (cellS r c l i j) := by
  unfold hornbeamref11_Cell.f cellS
  rw [ref_right_f]
  simp only [Option.bind_some]
  by_cases hr : rightB r c l = true
  · simp only [hr, if_true, true_and]
    by_cases h1 : i < 0
    · rw [if_pos h1, if_neg (by omega)]
    · rw [if_neg h1]
      by_cases h2 : i ≥ r
      · rw [if_pos h2, if_neg (by omega)]
      · rw [if_neg h2]
        by_cases h3 : j < 0
        · rw [if_pos h3, if_neg (by omega)]
        · rw [if_neg h3]
          by_cases h4 : j ≥ c
          · rw [if_pos h4, if_neg (by omega)]
          · obtain ⟨b1, b2, b3, b4⟩ := right_bound hr (show 0 ≤ i by omega) (by omega) (show 0 ≤ j by omega) (by omega)
            rw [if_neg h4, wrap_in (i := j * r) (by omega) (by omega), wrap_in (i := j * r + i) (by omega) (by omega), if_pos (by omega), if_pos (by omega), if_pos (by omega)]
            have := rd_u16 hw (j * r + i)
            rw [wrap_in (by omega) (by omega)]
  · rw [if_neg hr, if_neg (fun h => hr h.1)]

/-- How rows are parted. -/
def partS (r c : Int) (l : List Int) (col bin : Int) (rows : List Int) : List Int × List Int × Int :=
  if rightB r c l = true ∧ 0 ≤ col ∧ col < c then
    if rows.any (fun i => decide (i < 0 ∨ i ≥ r)) = true then ([], [], 5)
    else (rows.filter (fun i => decide (rd l (col * r + i) ≤ bin)), rows.filter (fun i => !decide (rd l (col * r + i) ≤ bin)), 0)
  else ([], [], 8)
theorem part_f (r c : Int) (l : List Int) (col bin : Int) (rows : List Int) (hw : ∀ x ∈ l, (Lit.int .u16 x).wf = true) (hl : rows.length < 17592186044416) : part_Part.f r c l col bin rows = some (partS r c l col bin rows) := by
  unfold part_Part.f partS
  rw [right_f]
  simp only [Option.bind_some]
  have hwr : ∀ i, wrap64 (rd l i) = rd l i := fun i => by have := rd_u16 hw i; exact wrap_in (by omega) (by omega)
  by_cases h : rightB r c l = true ∧ ¬ col < 0 ∧ ¬ col ≥ c
  · rw [if_pos h, if_pos ⟨h.1, by omega, by omega⟩]
    obtain ⟨q1, q2, q3, q4, q5⟩ := of_decide_eq_true h.1
    unfold part_Part.g
    have hcol : 0 ≤ col * r := Int.mul_nonneg (by omega) q1
    have hs : (col + 1) * r = col * r + r := by rw [Int.add_mul, Int.one_mul]
    have hle : (col + 1) * r ≤ l.length := by
      rw [q5, Int.mul_comm r c]; exact Int.mul_le_mul_of_nonneg_right (by omega) q1
    rw [if_pos ⟨q1, hcol, by omega, hle, by omega, by omega⟩]
    simp only [hwr, hl, if_true]
    split <;> rfl
  · rw [if_neg h, if_neg (fun h2 => h ⟨h2.1, by omega, by omega⟩)]

theorem ref_loop (r c : Int) (l : List Int) (col bin : Int) (rows : List Int) (hw : ∀ x ∈ l, (Lit.int .u16 x).wf = true) (hl : rows.length < 17592186044416) (hr : rightB r c l = true ∧ 0 ≤ col ∧ col < c) :
    ∀ (d k i : Nat), i + d = rows.length → d < k → (rows.take i).any (fun i => decide (i < 0 ∨ i ≥ r)) = false →
      hornbeamref17_Part.l0 k col bin rows ((rows.take i).filter (fun i => decide (rd l (col * r + i) ≤ bin))) ((rows.take i).filter (fun i => !decide (rd l (col * r + i) ≤ bin))) (i : Int) r c l = some (partS r c l col bin rows) := by
  have hP : partS r c l col bin rows = if rows.any (fun i => decide (i < 0 ∨ i ≥ r)) = true then ([], [], 5) else (rows.filter (fun i => decide (rd l (col * r + i) ≤ bin)), rows.filter (fun i => !decide (rd l (col * r + i) ≤ bin)), 0) := by
    unfold partS; rw [if_pos hr]
  intro d
  induction d with
  | zero =>
    intro k i hi hk hany
    obtain ⟨k, rfl⟩ : ∃ m, k = m + 1 := ⟨k - 1, by omega⟩
    have ht : rows.take i = rows := List.take_of_length_le (by omega)
    rw [ht] at hany ⊢
    simp only [hornbeamref17_Part.l0]
    rw [if_neg (by omega), hP, hany, if_neg (by simp)]
  | succ d ih =>
    intro k i hi hk hany
    obtain ⟨k, rfl⟩ : ∃ m, k = m + 1 := ⟨k - 1, by omega⟩
    simp only [hornbeamref17_Part.l0]
    rw [if_pos (by omega), if_pos (by omega), ref_cell_f r c l _ _ hw]
    simp only [Option.bind_some]
    have hmem : rd rows (i : Int) ∈ rows := rd_mem (by omega) (by omega)
    have htk := take_rd rows i (by omega)
    have hlen1 := List.length_filter_le (fun i => decide (rd l (col * r + i) ≤ bin)) (rows.take i)
    have hlen2 := List.length_filter_le (fun i => !decide (rd l (col * r + i) ≤ bin)) (rows.take i)
    have hlt : (rows.take i).length ≤ rows.length := by rw [List.length_take]; omega
    generalize rd rows (i : Int) = x at hmem htk
    by_cases hx : x < 0 ∨ x ≥ r
    · have hc : cellS r c l x col = -1 := by unfold cellS; rw [if_neg (by omega)]
      rw [hc, if_pos (by omega), hP, if_pos (List.any_eq_true.2 ⟨x, hmem, decide_eq_true hx⟩)]
    · have hc : cellS r c l x col = rd l (col * r + x) := by unfold cellS; rw [if_pos ⟨hr.1, by omega, by omega, hr.2.1, hr.2.2⟩]
      have h0 := rd_u16 hw (col * r + x)
      have hany2 : (rows.take (i + 1)).any (fun i => decide (i < 0 ∨ i ≥ r)) = false := by
        rw [htk, List.any_append, hany]; simp; omega
      have := ih k (i + 1) (by omega) (by omega) hany2
      rw [htk, List.filter_append, List.filter_append] at this
      rw [hc, if_neg (by omega), wrap_in (by omega) (by omega)]
      rw [show (((i + 1 : Nat) : Int)) = (i : Int) + 1 by omega] at this
      by_cases hb : rd l (col * r + x) ≤ bin
      · rw [if_pos hb, if_pos (by omega)]
        simpa [hb] using this
      · rw [if_neg hb, if_pos (by omega)]
        simpa [hb] using this

theorem ref_part_f (r c : Int) (l : List Int) (col bin : Int) (rows : List Int) (hw : ∀ x ∈ l, (Lit.int .u16 x).wf = true) (hl : rows.length < 17592186044416) (k : Nat) (hk : rows.length + 1 < k) :
    hornbeamref17_Part.f k r c l col bin rows = some (partS r c l col bin rows) := by
  obtain ⟨k, rfl⟩ : ∃ m, k = m + 1 := ⟨k - 1, by omega⟩
  unfold hornbeamref17_Part.f
  rw [ref_right_f]
  simp only [Option.bind_some]
  have no : ¬ (rightB r c l = true ∧ 0 ≤ col ∧ col < c) → hornbeamref17_Part.j0 (k + 1) col bin rows true r c l = some (partS r c l col bin rows) := by
    intro h
    simp only [hornbeamref17_Part.j0, partS]
    simp only [if_true]
    rw [if_neg h]
  by_cases h : rightB r c l = true
  · rw [if_pos h]
    by_cases h1 : col < 0
    · rw [if_pos h1]; exact no (by omega)
    · rw [if_neg h1]
      by_cases h2 : col ≥ c
      · rw [decide_eq_true h2]; exact no (by omega)
      · rw [decide_eq_false h2]
        simp only [hornbeamref17_Part.j0]
        rw [if_neg (by simp)]
        have := ref_loop r c l col bin rows hw hl ⟨h, by omega, by omega⟩ rows.length k 0 (by omega) (by omega) (by simp)
        simpa using this
  · rw [if_neg h]; exact no (fun hh => h hh.1)

theorem part_fixed (k : Nat) (hk : 4 < k) : hornbeamlaw17_fixed.f k = some true := by
  unfold hornbeamlaw17_fixed.f
  rw [part_f _ _ _ _ _ _ (by decide) (by decide)]
  have e : partS 4 1 [2, 1, 3, 1] 0 1 [0, 1, 2, 3] = ([1, 3], [0, 2], 0) := by decide +kernel
  rw [e]
  simp only [Option.bind_some, if_true]
  rw [same_f _ _ (by decide) k (by simp; omega)]
  simp only [Option.bind_some, decide_true, if_true]
  rw [same_f _ _ (by decide) k (by simp; omega)]
  rfl
end Go.Proofs.Ytkfnhbhfadhbkaa.Pure
