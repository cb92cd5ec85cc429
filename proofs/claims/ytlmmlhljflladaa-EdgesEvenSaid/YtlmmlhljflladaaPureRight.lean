/- Which floats could be edges: what the document's Right computes, and what follows of it. -/
import Derived.Test.YtlmmlhljflladaaPureBin
import Derived.Test.YtlmmlhljflladaaPAx21
namespace Go.Proofs.Ytlmmlhljflladaa.PureRight
open Go.RowKit Go.Proofs.YtlmmlhljflladaaW.PrintWords Go.Proofs.YtlmmlhljflladaaW.PrintLast Go.Proofs.YtlmmlhljflladaaW.PrintMore Go.Proofs.Ytlmmlhljflladaa.Pure Go.Proofs.Ytlmmlhljflladaa.PureFlt Go.Proofs.Ytlmmlhljflladaa.PureRank Go.Proofs.Ytlmmlhljflladaa.PureBin Go.Proofs.Ytlmmlhljflladaa.PA
set_option linter.unusedVariables false
set_option linter.unusedSimpArgs false
theorem ref_clean (a : Nat) : hornbeamref06_Clean.f a = some (clean a) := by
  unfold hornbeamref06_Clean.f; rw [ref_bits]; rfl
theorem same_one (x c : Nat) (k : Nat) (hk : 1 < k) : hornbeamref06_Same.f k [x] [c] = some (decide (x = c)) := by
  obtain ⟨k, rfl⟩ : ∃ m, k = m + 2 := ⟨k - 2, by omega⟩
  unfold hornbeamref06_Same.f
  rw [if_pos (by rfl)]
  simp only [hornbeamref06_Same.l0]
  rw [if_pos (show (0 : Int) < (([x] : List Nat).length : Int) from Int.zero_lt_one), if_pos (by decide), if_pos (show (0 : Int) < (([c] : List Nat).length : Int) from Int.zero_lt_one)]
  have e : (Flt.ubits (rdOf (0 : Nat) [x] 0) = Flt.ubits (rdOf (0 : Nat) [c] 0)) = (x = c) := by
    simp only [Flt.ubits, rdOf, eq_iff_iff]
    exact ⟨fun h => by simpa using Int.ofNat_inj.mp h, fun h => by rw [h]⟩
  by_cases h : x = c
  · rw [if_pos (by rw [e]; exact h), if_neg (show ¬ (wrap64 (0 + 1) < (([x] : List Nat).length : Int)) by rw [wrap_in (by decide) (by decide)]; exact Int.lt_irrefl 1)]; simp [h]
  · rw [if_neg (by rw [e]; exact h)]; simp [h]
/-- From place i on they could be edges. -/
def rightT (e : List Nat) : Nat → Nat → Bool
  | 0, _ => true
  | d + 1, i => !(decide (nan (e.getD i 0))) && decide (clean (e.getD i 0) = e.getD i 0) && (decide (i = 0) || decide (cmp (e.getD (i - 1) 0) (e.getD i 0) < 0)) && rightT e d (i + 1)
theorem rdd (l : List Nat) (i : Nat) : rdOf (0 : Nat) l (i : Int) = l.getD i 0 := by simp [rdOf]
theorem gd (l : List Nat) (i : Nat) (h : i < l.length) : l.getD i 0 = l[i] := by simp [List.getD_eq_getElem?_getD, h]
theorem getD_w {l : List Nat} (h : W64 l) (i : Nat) : l.getD i 0 < 18446744073709551616 := by
  by_cases hi : i < l.length
  · rw [gd l i hi]; exact h _ (List.getElem_mem hi)
  · rw [List.getD_eq_getElem?_getD, List.getElem?_eq_none (by omega)]; decide
theorem ref_right_l0 (e : List Nat) (he : W64 e) (hl : e.length ≤ 9223372036854775807) : ∀ (d k i : Nat), i + d = e.length → 2 * d + 3 < k → hornbeamref10_Right.l0 k e i = some (rightT e d i) := by
  intro d
  induction d with
  | zero =>
    intro k i h1 h2
    obtain ⟨k, rfl⟩ : ∃ m, k = m + 1 := ⟨k - 1, by omega⟩
    rw [hornbeamref10_Right.l0, if_neg (by omega)]; rfl
  | succ d ih =>
    intro k i h1 h2
    obtain ⟨k, rfl⟩ : ∃ m, k = m + 1 := ⟨k - 1, by omega⟩
    have hi : i < e.length := by omega
    rw [hornbeamref10_Right.l0, if_pos (by omega), if_pos (by omega), rdd, ref_missing, Option.bind_some]
    have J : ∀ b, hornbeamref10_Right.j1 k e i b = some (!b && (decide (i = 0) || decide (cmp (e.getD (i - 1) 0) (e.getD i 0) < 0)) && rightT e d (i + 1)) := by
      intro b
      obtain ⟨k, rfl⟩ : ∃ m, k = m + 1 := ⟨k - 1, by omega⟩
      rw [hornbeamref10_Right.j1]
      cases b with
      | true => simp
      | false =>
        rw [if_neg (by decide)]
        by_cases h0 : i = 0
        · subst h0
          rw [if_neg (by decide)]
          rw [show wrap64 (((0 : Nat) : Int) + 1) = ((0 + 1 : Nat) : Int) from wrap_in (by decide) (by decide), ih k 1 (by omega) (by omega)]; simp
        · rw [if_pos (by omega), wrap_in (by omega) (by omega), if_pos (by omega), if_pos (by omega), if_pos (by omega), if_pos (by omega), wrap_in (by omega) (by omega),
            show ((i : Int) - 1) = ((i - 1 : Nat) : Int) by omega, rdd, rdd, ref_cmp' (getD_w he _) (getD_w he _) (by omega), Option.bind_some,
            show ((i : Int) + 1) = ((i + 1 : Nat) : Int) by omega, ih k (i + 1) (by omega) (by omega)]
          by_cases c : cmp (e.getD (i - 1) 0) (e.getD i 0) < 0
          · rw [if_neg (by omega), decide_eq_true c]; simp
          · rw [if_pos (by omega), decide_eq_false c, decide_eq_false h0]; simp
    by_cases hn : nan (e.getD i 0)
    · rw [if_pos (decide_eq_true hn), J]
      simp only [rightT]; rw [decide_eq_true hn]; simp
    · rw [if_neg (by simpa using hn), ref_clean, Option.bind_some, same_one _ _ k (by omega), Option.bind_some, J]
      simp only [rightT]; rw [decide_eq_false hn]
      rw [show decide (clean (e.getD i 0) = e.getD i 0) = decide (e.getD i 0 = clean (e.getD i 0)) from decide_eq_decide.mpr ⟨Eq.symm, Eq.symm⟩]
      simp [Bool.and_assoc]
theorem ref_right_f (e : List Nat) (he : W64 e) (k : Nat) (hk : 600 < k) : hornbeamref10_Right.f k e = some (decide (e.length ≤ 255) && rightT e e.length 0) := by
  unfold hornbeamref10_Right.f
  by_cases h : (e.length : Int) > 255
  · rw [if_pos h, decide_eq_false (by omega)]; rfl
  · rw [if_neg h, decide_eq_true (by omega)]
    have := ref_right_l0 e he (by omega) e.length k 0 (by omega) (by omega)
    simpa using this
theorem rightT_at {e : List Nat} : ∀ {d i : Nat}, rightT e d i = true → ∀ j, i ≤ j → j < i + d → ¬ nan (e.getD j 0) ∧ clean (e.getD j 0) = e.getD j 0 ∧ (j ≠ 0 → cmp (e.getD (j - 1) 0) (e.getD j 0) < 0) := by
  intro d
  induction d with
  | zero => intro i _ j h1 h2; omega
  | succ d ih =>
    intro i h j h1 h2
    simp only [rightT, Bool.and_eq_true, Bool.or_eq_true, decide_eq_true_eq, Bool.not_eq_true', decide_eq_false_iff_not] at h
    by_cases e0 : j = i
    · subst e0
      exact ⟨h.1.1.1, h.1.1.2, fun x => h.1.2.resolve_left x⟩
    · exact ih h.2 j (by omega) (by omega)
theorem cmp_neg {a b : Nat} : cmp a b < 0 ↔ key a < key b := by unfold cmp; repeat (first | omega | split)
theorem cmp_le {a b : Nat} : cmp a b ≤ 0 ↔ key a ≤ key b := by unfold cmp; repeat (first | omega | split)
theorem right_sorted {e : List Nat} (h : rightT e e.length 0 = true) : e.Pairwise (fun a b => key a < key b) := by
  rw [List.pairwise_iff_getElem]
  intro i j hi hj hij
  have step : ∀ j, j ≠ 0 → j < e.length → key (e.getD (j - 1) 0) < key (e.getD j 0) := fun j h0 h1 => cmp_neg.mp ((rightT_at h j (by omega) (by omega)).2.2 h0)
  have all : ∀ n, i + n + 1 < e.length → key (e.getD i 0) < key (e.getD (i + n + 1) 0) := by
    intro n
    induction n with
    | zero => intro hn; exact step (i + 0 + 1) (by omega) hn
    | succ n ih => intro hn; have a := ih (by omega); have b := step (i + (n + 1) + 1) (by omega) hn; rw [show i + (n + 1) + 1 - 1 = i + n + 1 by omega] at b; omega
  have := all (j - i - 1) (by omega)
  rw [show i + (j - i - 1) + 1 = j by omega, gd e i hi, gd e j hj] at this
  exact this
/-- A value stands in no later bin than its edge tells. -/
theorem cnt_le {f : Nat} : ∀ {e : List Nat}, e.Pairwise (fun a b => key a < key b) → ∀ j (hj : j < e.length), cnt f e ≤ j ↔ key f < key e[j] := by
  intro e
  induction e with
  | nil => intro _ j hj; simp at hj
  | cons x t ih =>
    intro hp j hj
    have hp' := List.pairwise_cons.mp hp
    have z : key f < key x → cnt f t = 0 := by
      intro hx
      unfold cnt
      rw [List.countP_eq_zero]
      intro y hy
      have := hp'.1 y hy
      simp only [decide_eq_true_eq, cmp_le]; omega
    have c := cnt_cons f x t
    by_cases hx : key x ≤ key f
    · rw [if_pos (cmp_le.mpr hx)] at c
      cases j with
      | zero => simp only [List.getElem_cons_zero]; constructor <;> intro <;> omega
      | succ j => simp only [List.getElem_cons_succ]; rw [← ih hp'.2 j (by simpa using hj)]; constructor <;> intro <;> omega
    · rw [if_neg (fun h => hx (cmp_le.mp h))] at c
      have z' := z (by omega)
      cases j with
      | zero => simp only [List.getElem_cons_zero]; constructor <;> intro <;> omega
      | succ j =>
        simp only [List.getElem_cons_succ]
        have := hp'.1 _ (List.getElem_mem (show j < t.length by simpa using hj))
        constructor <;> intro <;> omega
theorem cnt_len (f : Nat) (e : List Nat) : cnt f e ≤ e.length := List.countP_le_length
end Go.Proofs.Ytlmmlhljflladaa.PureRight
