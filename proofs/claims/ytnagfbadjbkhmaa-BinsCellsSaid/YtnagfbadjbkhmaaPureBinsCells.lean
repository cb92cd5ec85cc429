import Derived.Test.YtnagfbadjbkhmaaPureKit
import Derived.Test.YtnagfbadjbkhmaaPAx29
import Derived.Test.YtnagfbadjbkhmaaPAx37
import Derived.Test.YtnagfbadjbkhmaaPAx27
import Derived.Test.YtnagfbadjbkhmaaPAx44
namespace Go.Proofs.Ytnagfbadjbkhmaa.PureBins
open Go.RowKit Go.Proofs.YtnagfbadjbkhmaaW.PrintWords Go.Proofs.YtnagfbadjbkhmaaW.PrintLast Go.Proofs.YtnagfbadjbkhmaaW.PrintMore Go.Proofs.Ytnagfbadjbkhmaa.Pure Go.Proofs.Ytnagfbadjbkhmaa.PA
set_option linter.unusedVariables false
set_option linter.unusedSimpArgs false
theorem beqd (a b : Int) : (a == b) = decide (a = b) := by
  by_cases h : a = b
  · rw [decide_eq_true h]; exact beq_iff_eq.2 h
  · rw [decide_eq_false h]; exact beq_eq_false_iff_ne.2 h
theorem fixed_t {k : Nat} (hk : 40 ≤ k) : hornbeamlaw11_fixed.f k = some true := at_rounds hornbeamlaw11_fixed.mono hk (by decide +kernel)
/-- Is a matrix right? -/
def rightM (r c : Int) (l : List Int) : Bool := decide (0 ≤ r) && decide (r ≤ 16777216) && decide (0 ≤ c) && decide (c ≤ 16777216) && decide ((l.length : Int) = wrap64 (r * c))
theorem right_f (r c : Int) (l : List Int) : bins_Right.f r c l = some (rightM r c l) := by
  unfold bins_Right.f bins_count.f rightM
  by_cases h1 : r ≥ 0 <;> by_cases h2 : r ≤ 16777216 <;> by_cases h3 : c ≥ 0 <;> by_cases h4 : c ≤ 16777216 <;> simp [h1, h2, h3, h4, beqd]
theorem ref_right_f (r c : Int) (l : List Int) : hornbeamref11_Right.f r c l = some (rightM r c l) := by
  unfold hornbeamref11_Right.f hornbeamref11_Few.f rightM
  by_cases h1 : r ≥ 0 <;> by_cases h2 : r ≤ 16777216 <;> by_cases h3 : c ≥ 0 <;> by_cases h4 : c ≤ 16777216 <;> simp [h1, h2, h3, h4, beqd]
theorem right_is {r c : Int} {l : List Int} (h : rightM r c l = true) : 0 ≤ r ∧ r ≤ 16777216 ∧ 0 ≤ c ∧ c ≤ 16777216 ∧ (l.length : Int) = r * c := by
  simp only [rightM, Bool.and_eq_true, decide_eq_true_eq] at h
  obtain ⟨⟨⟨⟨h1, h2⟩, h3⟩, h4⟩, h5⟩ := h
  have hm : r * c ≤ 16777216 * 16777216 := Int.mul_le_mul h2 h4 h3 (by decide)
  have hn : 0 ≤ r * c := Int.mul_nonneg h1 h3
  refine ⟨h1, h2, h3, h4, ?_⟩
  rw [h5, wrap_in (by omega) (by omega)]
/-- Where a row's bin in a column stands. -/
theorem at_in {r c row col : Int} {l : List Int} (h : rightM r c l = true) (h1 : 0 ≤ row) (h2 : row < r) (h3 : 0 ≤ col) (h4 : col < c) :
    wrap64 (wrap64 (col * r) + row) = col * r + row ∧ 0 ≤ col * r + row ∧ col * r + row < (l.length : Int) := by
  obtain ⟨a, b, cc, d, e⟩ := right_is h
  have hm : col * r ≤ 16777216 * 16777216 := Int.mul_le_mul (by omega) b a (by decide)
  have hn : 0 ≤ col * r := Int.mul_nonneg h3 a
  have hs : (col + 1) * r ≤ c * r := Int.mul_le_mul_of_nonneg_right (by omega) a
  rw [Int.add_mul, Int.one_mul, Int.mul_comm c r] at hs
  rw [wrap_in (i := col * r) (by omega) (by omega), wrap_in (by omega) (by omega)]
  omega
end Go.Proofs.Ytnagfbadjbkhmaa.PureBins
namespace Go.Proofs.Ytnagfbadjbkhmaa
open Go.RowKit Go.Proofs.YtnagfbadjbkhmaaW.PrintWords Go.Proofs.YtnagfbadjbkhmaaW.PrintLast Go.Proofs.YtnagfbadjbkhmaaW.PrintMore Go.Proofs.Ytnagfbadjbkhmaa.Pure Go.Proofs.Ytnagfbadjbkhmaa.PureBins Go.Proofs.Ytnagfbadjbkhmaa.PA
set_option linter.unusedVariables false
set_option linter.unusedSimpArgs false
namespace PureBinsCells
/-- Is there such a cell? -/
def has (r c row col : Int) (l : List Int) : Bool := rightM r c l && decide (0 ≤ row) && decide (row < r) && decide (0 ≤ col) && decide (col < c)
theorem has_is {r c row col : Int} {l : List Int} (h : has r c row col l = true) : rightM r c l = true ∧ 0 ≤ row ∧ row < r ∧ 0 ≤ col ∧ col < c := by
  simp only [has, Bool.and_eq_true, decide_eq_true_eq] at h
  exact ⟨h.1.1.1.1, h.1.1.1.2, h.1.1.2, h.1.2, h.2⟩
theorem u16_rd {l : List Int} (hl : ∀ x ∈ l, (Lit.int .u16 x).wf = true) (i : Int) : wrap64 (rd l i) = rd l i := by
  have := rd_u16 hl i; rw [wrap_in (by omega) (by omega)]
theorem cell_f {r c row col : Int} {l : List Int} (hl : ∀ x ∈ l, (Lit.int .u16 x).wf = true) : bins_Cell.f r c l row col = some (if has r c row col l then (rd l (col * r + row), true) else (0, false)) := by
  unfold bins_Cell.f
  rw [right_f, Option.bind_some]
  unfold has
  by_cases h0 : rightM r c l = true
  · rw [if_pos h0, h0]
    by_cases h1 : row < 0
    · rw [if_pos h1]; simp; intro h; omega
    by_cases h2 : row ≥ r
    · rw [if_neg h1, if_pos h2]; simp; intros; omega
    by_cases h3 : col < 0
    · rw [if_neg h1, if_neg h2, if_pos h3]; simp; intros; omega
    by_cases h4 : col ≥ c
    · rw [if_neg h1, if_neg h2, if_neg h3, if_pos h4]; simp; intros; omega
    obtain ⟨e, a, b⟩ := at_in h0 (row := row) (col := col) (by omega) (by omega) (by omega) (by omega)
    rw [if_neg h1, if_neg h2, if_neg h3, if_neg h4, e, if_pos a, if_pos b, u16_rd hl, if_pos]
    simp; omega
  · rw [if_neg h0]; simp [h0]
theorem ref_cell_f {r c row col : Int} {l : List Int} (hl : ∀ x ∈ l, (Lit.int .u16 x).wf = true) : hornbeamref11_Cell.f r c l row col = some (if has r c row col l then rd l (col * r + row) else -1) := by
  unfold hornbeamref11_Cell.f
  rw [ref_right_f, Option.bind_some]
  unfold has
  by_cases h0 : rightM r c l = true
  · rw [if_pos h0, h0]
    by_cases h1 : row < 0
    · rw [if_pos h1]; simp; intro h; omega
    by_cases h2 : row ≥ r
    · rw [if_neg h1, if_pos h2]; simp; intros; omega
    by_cases h3 : col < 0
    · rw [if_neg h1, if_neg h2, if_pos h3]; simp; intros; omega
    by_cases h4 : col ≥ c
    · rw [if_neg h1, if_neg h2, if_neg h3, if_pos h4]; simp; intros; omega
    obtain ⟨e, a, b⟩ := at_in h0 (row := row) (col := col) (by omega) (by omega) (by omega) (by omega)
    rw [if_neg h1, if_neg h2, if_neg h3, if_neg h4, e, if_pos a, if_pos b, u16_rd hl, if_pos]
    simp; omega
  · rw [if_neg h0]; simp [h0]
/-- The bins of a row. -/
def bins (r row : Int) (l : List Int) (n : Nat) : List Int := (List.range n).map fun (j : Nat) => rd l ((j : Int) * r + row)
theorem row_l0 {r c row : Int} {l : List Int} (hl : ∀ x ∈ l, (Lit.int .u16 x).wf = true) (h0 : has r c row 0 l = true) (hc : c ≤ 500) : ∀ (d k j : Nat), (j + d : Int) = c → d < k →
    bins_Row.l0 k row (bins r row l j) j r c l = some (bins r row l c.toNat) := by
  obtain ⟨a1, a2, a3, a4, a5⟩ := has_is h0
  intro d
  induction d with
  | zero =>
    intro k j h1 h2
    obtain ⟨k, rfl⟩ : ∃ m, k = m + 1 := ⟨k - 1, by omega⟩
    rw [bins_Row.l0, if_neg (by omega), show c.toNat = j by omega]
  | succ d ih =>
    intro k j h1 h2
    obtain ⟨k, rfl⟩ : ∃ m, k = m + 1 := ⟨k - 1, by omega⟩
    have hh : has r c row j l = true := by unfold has; rw [a1]; simp; omega
    rw [bins_Row.l0, if_pos (by omega), cell_f hl, hh, if_pos rfl, Option.bind_some, if_pos rfl, if_pos (by simp [bins]; omega), wrap_in (by omega) (by omega), show ((j : Int) + 1) = ((j + 1 : Nat) : Int) by omega,
      show bins r row l j ++ [rd l ((j : Int) * r + row)] = bins r row l (j + 1) by simp [bins, List.range_succ]]
    exact ih k (j + 1) (by omega) (by omega)
theorem row_f {r c row : Int} {l : List Int} (hl : ∀ x ∈ l, (Lit.int .u16 x).wf = true) (hm : l.length ≤ 500) (k : Nat) (hk : 600 ≤ k) : bins_Row.f k r c l row = some (if has r c row 0 l then bins r row l c.toNat else []) := by
  unfold bins_Row.f
  by_cases h : has r c row 0 l = true
  · rw [if_pos h]
    obtain ⟨a1, a2, a3, a4, a5⟩ := has_is h
    obtain ⟨b1, b2, b3, b4, b5⟩ := right_is a1
    have hc : c ≤ 500 := by
      have : 1 * c ≤ r * c := Int.mul_le_mul_of_nonneg_right (by omega) b3
      omega
    exact row_l0 hl h hc c.toNat k 0 (by omega) (by omega)
  · rw [if_neg h]
    obtain ⟨k, rfl⟩ : ∃ m, k = m + 1 := ⟨k - 1, by omega⟩
    rw [bins_Row.l0]
    by_cases hc : 0 < c
    · rw [if_pos hc, cell_f hl, if_neg h, Option.bind_some, if_neg (by simp)]
    · rw [if_neg hc]
theorem cells_l0 {r c row : Int} {l x : List Int} (hl : ∀ x ∈ l, (Lit.int .u16 x).wf = true) (h0 : has r c row 0 l = true) (hc : c ≤ 500) : ∀ (d k j : Nat), (j + d : Int) = c → d + 50 < k →
    hornbeamlaw11_BinsCells.l0 k row (bins r row l c.toNat) (bins r row l c.toNat) (bins r row l c.toNat).length j r c l = some true := by
  obtain ⟨a1, a2, a3, a4, a5⟩ := has_is h0
  have hlen : (bins r row l c.toNat).length = c.toNat := by simp [bins]
  rw [hlen]
  intro d
  induction d with
  | zero =>
    intro k j h1 h2
    obtain ⟨k, rfl⟩ : ∃ m, k = m + 1 := ⟨k - 1, by omega⟩
    rw [hornbeamlaw11_BinsCells.l0, if_neg (by omega), fixed_t (by omega), Option.bind_some, if_pos rfl, hlen, show ((c.toNat : Int) == c) = true from beq_iff_eq.2 (by omega)]
  | succ d ih =>
    intro k j h1 h2
    obtain ⟨k, rfl⟩ : ∃ m, k = m + 1 := ⟨k - 1, by omega⟩
    have hh : has r c row j l = true := by unfold has; rw [a1]; simp; omega
    have hrd : rd (bins r row l c.toNat) (j : Int) = rd l ((j : Int) * r + row) := by
      rw [rd_nat _ j (by rw [hlen]; omega)]; simp [bins]
    rw [hornbeamlaw11_BinsCells.l0, if_pos (by omega), if_pos (by omega), if_pos (by rw [hlen]; omega), ref_cell_f hl, hh, if_pos rfl, Option.bind_some, hrd, if_pos rfl, wrap_in (by omega) (by omega), show ((j : Int) + 1) = ((j + 1 : Nat) : Int) by omega]
    exact ih k (j + 1) (by omega) (by omega)
end PureBinsCells
open PureBinsCells in
theorem Pure.BinsCells : hornbeamlaw11_BinsCells.Pure := by
  rintro r c l row col ⟨hr, hc, hl1, hl2, hw⟩ h1 h2
  refine ⟨2000, ?_⟩
  unfold hornbeamlaw11_BinsCells.f
  have hg : hornbeamlaw11_great.f r c l = some (decide ((l.length : Int) > 500) || (decide (c > 1000) && decide (r = 0) && decide ((l.length : Int) = 0))) := by
    unfold hornbeamlaw11_great.f
    by_cases a : (l.length : Int) > 500
    · rw [if_pos a, decide_eq_true a]; rfl
    · rw [if_neg a, decide_eq_false a]
      by_cases b : c > 1000
      · rw [if_pos b, decide_eq_true b]
        by_cases e : r = 0
        · rw [if_pos e, decide_eq_true e]; simp [beqd]
        · rw [if_neg e, decide_eq_false e]; rfl
      · rw [if_neg b, decide_eq_false b]; rfl
  rw [hg, Option.bind_some]
  by_cases hgr : (decide ((l.length : Int) > 500) || (decide (c > 1000) && decide (r = 0) && decide ((l.length : Int) = 0))) = true
  · rw [if_pos hgr, fixed_t (by omega)]; rfl
  rw [if_neg hgr]
  have hm : l.length ≤ 500 := by
    simp only [Bool.or_eq_true, decide_eq_true_eq, not_or] at hgr
    omega
  rw [cell_f hw, Option.bind_some, ref_cell_f hw, Option.bind_some, row_f hw hm _ (by omega), Option.bind_some, right_f, Option.bind_some, ref_right_f, Option.bind_some, if_neg (by simp)]
  have key_ : ∀ bt : Int × Bool, ∀ t : Int, (bt.2 != decide (t ≥ 0)) = false → (bt.1 != mx t 0) = false → (if (bt.2 != decide (t ≥ 0)) = true then hornbeamlaw11_BinsCells.j0 2000 row (if has r c row 0 l then bins r row l c.toNat else []) true r c l else hornbeamlaw11_BinsCells.j0 2000 row (if has r c row 0 l then bins r row l c.toNat else []) (bt.1 != mx t 0) r c l) = some true := by
    intro bt t e1 e2
    rw [e1, e2, if_neg (by decide), show 2000 = 1999 + 1 from rfl, hornbeamlaw11_BinsCells.j0, if_neg (by decide), ref_cell_f hw, Option.bind_some]
    by_cases h : has r c row 0 l = true
    · obtain ⟨a1, a2, a3, a4, a5⟩ := has_is h
      obtain ⟨b1, b2, b3, b4, b5⟩ := right_is a1
      have hc : c ≤ 500 := by
        have : 1 * c ≤ r * c := Int.mul_le_mul_of_nonneg_right (by omega) b3
        omega
      have := rd_u16 hw (0 * r + row)
      rw [if_pos h, if_pos h, if_neg (by omega)]
      exact cells_l0 (x := []) hw h hc c.toNat 1999 0 (by omega) (by omega)
    · rw [if_neg h, if_neg h, if_pos (by decide), fixed_t (by omega)]; rfl
  by_cases h : has r c row col l = true
  · have := rd_u16 hw (col * r + row)
    rw [if_pos h, if_pos h]
    exact key_ _ _ (by simp; omega) (by unfold mx; rw [if_neg (by omega)]; simp)
  · rw [if_neg h, if_neg h]
    exact key_ _ _ (by decide) (by decide)
end Go.Proofs.Ytnagfbadjbkhmaa
