/- What the document's check of a tree comes to, as plain functions of the nodes; and what a right tree is like: the kids of later nodes stand later. -/
import Derived.Test.YtebbnjgaikppgaaPureKit
import Derived.Test.YtebbnjgaikppgaaPAx23
namespace Go.Proofs.Ytebbnjgaikppgaa.Pure
open Go.RowKit Go.Proofs.YtebbnjgaikppgaaW.PrintWords Go.Proofs.YtebbnjgaikppgaaW.PrintLast Go.Proofs.YtebbnjgaikppgaaW.PrintMore Go.Proofs.Ytebbnjgaikppgaa.PA
set_option linter.unusedVariables false

theorem wrap_bd (x : Int) : -9223372036854775808 ≤ wrap64 x ∧ wrap64 x ≤ 9223372036854775807 := by unfold wrap64; omega

/-- Do the kids stand as they are to, from node i on, the next ones being to stand at left? -/
def leftsS (t : List S75) : Nat → Int → Int → Bool
  | 0, left, i => decide (left = t.length)
  | d + 1, left, i => if (rd_T75 t i).f0 ≥ 0 then (if (rd_T75 t i).f2 = left ∧ ¬ left ≤ i then leftsS t d (left + 2) (i + 1) else false) else leftsS t d left (i + 1)
/-- The first node from j on, ahead of i, whose kid i is; -1. -/
def parS (t : List S75) (i : Int) : Nat → Int → Int
  | 0, _ => -1
  | d + 1, j => if j < i then (if (rd_T75 t j).f0 ≥ 0 ∧ ((rd_T75 t j).f2 = i ∨ wrap64 ((rd_T75 t j).f2 + 1) = i) then j else parS t i d (j + 1)) else -1
/-- How deep the deepest one is, from node i on; -1. -/
def deepS (t : List S75) : Nat → List Int → Int → Int → Int
  | 0, _, most, _ => most
  | d + 1, l, most, i => if i > 0 then (if parS t i i.toNat 0 < 0 then -1 else
      deepS t d (l ++ [wrap64 (rd l (parS t i i.toNat 0) + 1)]) (if wrap64 (rd l (parS t i i.toNat 0) + 1) > most then wrap64 (rd l (parS t i i.toNat 0) + 1) else most) (i + 1))
    else deepS t d (l ++ [0]) (if 0 > most then 0 else most) (i + 1)
def depthS (t : List S75) : Int := cond (leftsS t t.length 1 0) (deepS t t.length [] 0 0) (-1)

theorem parS_lt (t : List S75) (i : Int) : ∀ (d : Nat) (j : Int), 0 ≤ j → parS t i d j < 0 ∨ (0 ≤ parS t i d j ∧ parS t i d j < i) := by
  intro d
  induction d with
  | zero => intro j hj; left; simp [parS]
  | succ d ih =>
    intro j hj
    simp only [parS]
    split
    · split
      · right; omega
      · exact ih (j + 1) (by omega)
    · left; omega
theorem par_loop (t : List S75) (i : Int) (hi : i ≤ t.length) (hl : t.length ≤ 1000000) : ∀ (d k : Nat) (j : Int), 0 ≤ j → j + d = i → d < k → hornbeamref18_parent.l0 k t i j = some (parS t i d j) := by
  intro d
  induction d with
  | zero =>
    intro k j h0 hj hk
    obtain ⟨k, rfl⟩ : ∃ m, k = m + 1 := ⟨k - 1, by omega⟩
    simp only [hornbeamref18_parent.l0, parS]
    rw [if_neg (by omega)]
  | succ d ih =>
    intro k j h0 hj hk
    obtain ⟨k, rfl⟩ : ∃ m, k = m + 1 := ⟨k - 1, by omega⟩
    simp only [hornbeamref18_parent.l0, parS]
    have ih' := ih k (j + 1) (by omega) (by omega) (by omega)
    rw [if_pos (show j < i by omega), if_pos (show j < i by omega), if_pos (show 0 ≤ j by omega), if_pos (show j < (t.length : Int) by omega), wrap_in (i := j + 1) (by omega) (by omega), ih']
    by_cases h1 : (rd_T75 t j).f0 ≥ 0
    · rw [if_pos h1]
      by_cases h2 : (rd_T75 t j).f2 = i
      · rw [if_pos h2, if_pos ⟨h1, .inl h2⟩]
      · rw [if_neg h2]
        by_cases h3 : wrap64 ((rd_T75 t j).f2 + 1) = i
        · rw [if_pos h3, if_pos ⟨h1, .inr h3⟩]
        · rw [if_neg h3, if_neg (fun h => h.2.elim h2 h3)]
    · rw [if_neg h1, if_neg (fun h => h1 h.1)]

theorem deep_l1 (t : List S75) (hl : t.length ≤ 1000000) : ∀ (d k : Nat) (l : List Int) (most i : Int), 0 ≤ i → i + d = t.length → (l.length : Int) = i → d + t.length + 1 < k →
    hornbeamref18_Deep.l1 k t l most i = some (deepS t d l most i) := by
  intro d
  induction d with
  | zero =>
    intro k l most i h0 hi hll hk
    obtain ⟨k, rfl⟩ : ∃ m, k = m + 1 := ⟨k - 1, by omega⟩
    simp only [hornbeamref18_Deep.l1, deepS]
    rw [if_neg (by omega)]
  | succ d ih =>
    intro k l most i h0 hi hll hk
    obtain ⟨k, rfl⟩ : ∃ m, k = m + 1 := ⟨k - 1, by omega⟩
    simp only [hornbeamref18_Deep.l1, deepS]
    rw [if_pos (by omega)]
    by_cases h : i > 0
    · rw [if_pos h, if_pos h]
      unfold hornbeamref18_parent.f
      rw [par_loop t i (by omega) hl i.toNat k 0 (by omega) (by omega) (by omega)]
      simp only [Option.bind_some]
      rcases parS_lt t i i.toNat 0 (by omega) with hp | hp
      · rw [if_pos hp, if_pos hp]
      · rw [if_neg (show ¬ parS t i i.toNat 0 < 0 by omega), if_neg (show ¬ parS t i i.toNat 0 < 0 by omega), if_pos (by omega), if_pos (by omega), if_pos (by omega), wrap_in (i := i + 1) (by omega) (by omega)]
        split
        · exact ih k _ _ (i + 1) (by omega) (by omega) (by rw [List.length_append, List.length_singleton]; omega) (by omega)
        · exact ih k _ _ (i + 1) (by omega) (by omega) (by rw [List.length_append, List.length_singleton]; omega) (by omega)
    · rw [if_neg h, if_neg h, if_pos (by omega), wrap_in (i := i + 1) (by omega) (by omega)]
      simp only [Option.bind_some]
      split
      · exact ih k _ _ (i + 1) (by omega) (by omega) (by rw [List.length_append, List.length_singleton]; omega) (by omega)
      · exact ih k _ _ (i + 1) (by omega) (by omega) (by rw [List.length_append, List.length_singleton]; omega) (by omega)
theorem deep_l0 (t : List S75) (hl : t.length ≤ 1000000) : ∀ (d k : Nat) (left i : Int), 0 ≤ i → i + d = t.length → 0 ≤ left → left + 2 * d ≤ 4000000 → d + 2 * t.length + 2 < k →
    hornbeamref18_Deep.l0 k t left i = some (cond (leftsS t d left i) (deepS t t.length [] 0 0) (-1)) := by
  intro d
  induction d with
  | zero =>
    intro k left i h0 hi hle hle2 hk
    obtain ⟨k, rfl⟩ : ∃ m, k = m + 1 := ⟨k - 1, by omega⟩
    simp only [hornbeamref18_Deep.l0, leftsS]
    rw [if_neg (by omega)]
    by_cases h : left = (t.length : Int)
    · rw [if_pos h, decide_eq_true h]
      exact deep_l1 t hl t.length k [] 0 0 (by omega) (by omega) rfl (by omega)
    · rw [if_neg h, decide_eq_false h]; rfl
  | succ d ih =>
    intro k left i h0 hi hle hle2 hk
    obtain ⟨k, rfl⟩ : ∃ m, k = m + 1 := ⟨k - 1, by omega⟩
    simp only [hornbeamref18_Deep.l0, leftsS]
    rw [if_pos (by omega), if_pos (by omega), wrap_in (i := i + 1) (by omega) (by omega)]
    by_cases h1 : (rd_T75 t i).f0 ≥ 0
    · rw [if_pos h1, if_pos h1]
      by_cases h2 : (rd_T75 t i).f2 = left
      · rw [if_pos h2]
        by_cases h3 : left ≤ i
        · rw [if_pos h3, if_neg (fun h => h.2 h3)]; rfl
        · rw [if_neg h3, if_pos ⟨h2, h3⟩, wrap_in (i := left + 2) (by omega) (by omega)]
          exact ih k (left + 2) (i + 1) (by omega) (by omega) (by omega) (by omega) (by omega)
      · rw [if_neg h2, if_neg (fun h => h2 h.1)]; rfl
    · rw [if_neg h1, if_neg h1]
      exact ih k left (i + 1) (by omega) (by omega) (by omega) (by omega) (by omega)
theorem deep_f (t : List S75) (hl : t.length ≤ 1000000) (k : Nat) (hk : 3 * t.length + 2 < k) : hornbeamref18_Deep.f k t = some (depthS t) := by
  unfold hornbeamref18_Deep.f depthS
  exact deep_l0 t hl t.length k 1 0 (by omega) (by omega) (by omega) (by omega) (by omega)

/-- Is a node right, by itself? -/
def sizeS (n : Int) : Int := if n ≥ 0 then IntKind.u64.wrap n else IntKind.u64.wrap (IntKind.u64.wrap (wrap64 (-(wrap64 (n + 1)))) + 1)
def oneS (n : S75) (cols bins kind classes : Int) : Bool :=
  if n.f0 ≥ 0 then decide (n.f0 < cols ∧ 0 ≤ n.f1 ∧ n.f1 < bins ∧ n.f3 = 0 ∧ n.f4 = 0 ∧ n.f5 = 0)
  else if n.f0 = -1 ∧ n.f1 = 0 ∧ n.f2 = 0 then
    if kind = 0 then decide (0 ≤ n.f3 ∧ n.f3 < classes ∧ n.f4 = 0 ∧ n.f5 = 0)
    else decide (n.f3 = 0 ∧ 1 ≤ n.f5 ∧ n.f5 ≤ 1048576 ∧ sizeS n.f4 ≤ IntKind.u64.wrap (1048576 * IntKind.u64.wrap n.f5))
  else false
theorem one_f (n : S75) (cols bins kind classes : Int) (k : Nat) (hk : 0 < k) : hornbeamref18_one.f k n.f0 n.f1 n.f2 n.f3 n.f4 n.f5 cols bins kind classes = some (oneS n cols bins kind classes) := by
  obtain ⟨k, rfl⟩ : ∃ m, k = m + 1 := ⟨k - 1, by omega⟩
  unfold hornbeamref18_one.f oneS
  by_cases h0 : n.f0 ≥ 0
  · rw [if_pos h0, if_pos h0]
    by_cases h1 : n.f0 < cols <;> by_cases h2 : n.f1 ≥ 0 <;> by_cases h3 : n.f1 < bins <;> by_cases h4 : n.f3 = 0 <;> by_cases h5 : n.f4 = 0 <;> by_cases h6 : n.f5 = 0 <;> simp [h1, h2, h3, h4, h5, h6] <;> omega
  · rw [if_neg h0, if_neg h0]
    by_cases hl : n.f0 = -1 ∧ n.f1 = 0 ∧ n.f2 = 0
    · obtain ⟨e0, e1, e2⟩ := hl
      rw [if_pos e0, if_pos e1, if_pos ⟨e0, e1, e2⟩]
      simp only [hornbeamref18_one.j0, e2]
      rw [if_neg (by simp)]
      by_cases hkd : kind = 0
      · rw [if_pos hkd, if_pos hkd]
        by_cases h3 : n.f3 ≥ 0 <;> by_cases h4 : n.f3 < classes <;> by_cases h5 : n.f4 = 0 <;> by_cases h6 : n.f5 = 0 <;> simp [h3, h4, h5, h6] <;> omega
      · rw [if_neg hkd, if_neg hkd]
        unfold hornbeamref04_Size.f
        have hsz : (if n.f4 ≥ 0 then some (IntKind.u64.wrap n.f4) else some (IntKind.u64.wrap (IntKind.u64.wrap (wrap64 (-(wrap64 (n.f4 + 1)))) + 1))) = some (sizeS n.f4) := by unfold sizeS; split <;> rfl
        rw [hsz]
        by_cases h3 : n.f3 = 0 <;> by_cases h4 : n.f5 ≥ 1 <;> by_cases h5 : n.f5 ≤ 1048576 <;> simp [h3, h4, h5] <;> omega
    · rw [if_neg hl]
      have hj : ∀ b, b = true → hornbeamref18_one.j0 (k + 1) kind classes b n.f0 n.f1 n.f2 n.f3 n.f4 n.f5 = some false := by
        intro b hb; subst hb; simp [hornbeamref18_one.j0]
      by_cases e0 : n.f0 = -1
      · rw [if_pos e0]
        by_cases e1 : n.f1 = 0
        · rw [if_pos e1]
          exact hj _ (by have : n.f2 ≠ 0 := fun e2 => hl ⟨e0, e1, e2⟩
                         simpa using this)
        · rw [if_neg e1]; exact hj _ rfl
      · rw [if_neg e0]; exact hj _ rfl

def mayS (cols bins kind classes : Int) : Bool :=
  decide (1 ≤ cols ∧ cols ≤ 1024 ∧ 2 ≤ bins ∧ bins ≤ 256) && (if kind = 0 then decide (2 ≤ classes ∧ classes ≤ 256) else decide (kind = 1 ∧ classes = 0))
theorem may_f (cols bins kind classes : Int) (k : Nat) (hk : 0 < k) : hornbeamref18_May.f k cols bins kind classes = some (mayS cols bins kind classes) := by
  obtain ⟨k, rfl⟩ : ∃ m, k = m + 1 := ⟨k - 1, by omega⟩
  unfold hornbeamref18_May.f mayS
  have no : hornbeamref18_May.j0 (k + 1) kind classes true = some false := by simp [hornbeamref18_May.j0]
  have yes : hornbeamref18_May.j0 (k + 1) kind classes false = some (if kind = 0 then decide (2 ≤ classes ∧ classes ≤ 256) else decide (kind = 1 ∧ classes = 0)) := by
    simp only [hornbeamref18_May.j0, Bool.false_eq_true, if_false]
    by_cases h0 : kind = 0
    · rw [if_pos h0, if_pos h0]
      by_cases h1 : classes ≥ 2 <;> simp [h1] <;> omega
    · rw [if_neg h0, if_neg h0]
      by_cases h1 : kind = 1 <;> by_cases h2 : classes = 0 <;> simp [h1, h2]
  by_cases h1 : cols < 1
  · rw [if_pos h1, no, decide_eq_false (by omega)]; rfl
  rw [if_neg h1]
  by_cases h2 : cols > 1024
  · rw [if_pos h2, no, decide_eq_false (by omega)]; rfl
  rw [if_neg h2]
  by_cases h3 : bins < 2
  · rw [if_pos h3, no, decide_eq_false (by omega)]; rfl
  rw [if_neg h3]
  by_cases h4 : bins > 256
  · rw [decide_eq_true h4, no, decide_eq_false (by omega)]; rfl
  rw [decide_eq_false h4, yes, decide_eq_true (show 1 ≤ cols ∧ cols ≤ 1024 ∧ 2 ≤ bins ∧ bins ≤ 256 by omega), Bool.true_and]

/-- Is a tree right? -/
def rightT (t : List S75) (cols bins kind classes : Int) : Bool :=
  mayS cols bins kind classes && (decide (t.length ≠ 0) && (t.all (fun n => oneS n cols bins kind classes) && decide (0 ≤ depthS t ∧ depthS t ≤ 32)))
theorem all_drop (t : List S75) (p : S75 → Bool) (i : Nat) (h : i < t.length) : (t.drop i).all p = (p (rd_T75 t (i : Nat)) && (t.drop (i + 1)).all p) := by
  rw [List.drop_eq_getElem_cons h, List.all_cons]
  congr 2
  simp [rd_T75, h]
theorem right_loop (t : List S75) (cols bins kind classes : Int) (hl : t.length ≤ 1000000) : ∀ (d k i : Nat), i + d = t.length → d + 3 * t.length + 4 < k →
    hornbeamref18_Right.l0 k t cols bins kind classes (i : Int) = some ((t.drop i).all (fun n => oneS n cols bins kind classes) && decide (0 ≤ depthS t ∧ depthS t ≤ 32)) := by
  intro d
  induction d with
  | zero =>
    intro k i hi hk
    obtain ⟨k, rfl⟩ : ∃ m, k = m + 1 := ⟨k - 1, by omega⟩
    simp only [hornbeamref18_Right.l0]
    rw [if_neg (by omega), deep_f t hl k (by omega), List.drop_eq_nil_of_le (by omega)]
    simp only [Option.bind_some, List.all_nil, Bool.true_and]
    by_cases h : depthS t ≥ 0
    · rw [if_pos h]; simp [h]
    · rw [if_neg h, decide_eq_false (by omega)]
  | succ d ih =>
    intro k i hi hk
    obtain ⟨k, rfl⟩ : ∃ m, k = m + 1 := ⟨k - 1, by omega⟩
    simp only [hornbeamref18_Right.l0]
    rw [if_pos (by omega), if_pos (by omega), one_f _ _ _ _ _ k (by omega), all_drop t _ i (by omega)]
    simp only [Option.bind_some]
    rw [wrap_in (i := (i : Int) + 1) (by omega) (by omega)]
    cases h : oneS (rd_T75 t (i : Nat)) cols bins kind classes with
    | true => rw [if_pos rfl, Bool.true_and]; exact ih k (i + 1) (by omega) (by omega)
    | false => rw [if_neg (by simp)]; rfl
theorem right18_f (t : List S75) (cols bins kind classes : Int) (hl : t.length ≤ 1000000) (k : Nat) (hk : 4 * t.length + 6 < k) : hornbeamref18_Right.f k t cols bins kind classes = some (rightT t cols bins kind classes) := by
  obtain ⟨k, rfl⟩ : ∃ m, k = m + 1 := ⟨k - 1, by omega⟩
  unfold hornbeamref18_Right.f rightT
  rw [may_f _ _ _ _ _ (by omega)]
  simp only [Option.bind_some]
  have no : hornbeamref18_Right.j0 (k + 1) t cols bins kind classes true = some false := by simp [hornbeamref18_Right.j0]
  cases hm : mayS cols bins kind classes with
  | false => rw [if_neg (by simp), no]; rfl
  | true =>
    rw [if_pos rfl, Bool.true_and]
    by_cases h0 : t.length = 0
    · rw [show ((t.length : Int) == 0) = true by simp [h0], no]; simp [h0]
    · rw [show ((t.length : Int) == 0) = false by simp [h0]]
      simp only [hornbeamref18_Right.j0, Bool.false_eq_true, if_false]
      have := right_loop t cols bins kind classes hl t.length k 0 (by omega) (by omega)
      rw [List.drop_zero] at this
      rw [show ((0 : Nat) : Int) = 0 from rfl] at this
      rw [this]
      simp [h0]

/-! ### What a right tree is like -/
theorem lefts_facts (t : List S75) : ∀ (d : Nat) (left i : Int), 0 ≤ i → i + d = t.length → leftsS t d left i = true →
    left ≤ t.length ∧ (∀ j, i ≤ j → j < t.length → (rd_T75 t j).f0 ≥ 0 → left ≤ (rd_T75 t j).f2 ∧ j < (rd_T75 t j).f2 ∧ (rd_T75 t j).f2 + 2 ≤ t.length) ∧
    (∀ a b, i ≤ a → a < b → b < t.length → (rd_T75 t a).f0 ≥ 0 → (rd_T75 t b).f0 ≥ 0 → (rd_T75 t a).f2 + 2 ≤ (rd_T75 t b).f2) := by
  intro d
  induction d with
  | zero =>
    intro left i h0 hi h
    have := of_decide_eq_true h
    exact ⟨by omega, fun j h1 h2 => by omega, fun a b h1 h2 h3 => by omega⟩
  | succ d ih =>
    intro left i h0 hi h
    simp only [leftsS] at h
    by_cases h1 : (rd_T75 t i).f0 ≥ 0
    · rw [if_pos h1] at h
      by_cases h2 : (rd_T75 t i).f2 = left ∧ ¬ left ≤ i
      · rw [if_pos h2] at h
        obtain ⟨c1, c2, c3⟩ := ih (left + 2) (i + 1) (by omega) (by omega) h
        refine ⟨by omega, fun j hj hj2 hj3 => ?_, fun a b ha hab hb hfa hfb => ?_⟩
        · by_cases e : j = i
          · subst e; omega
          · have := c2 j (by omega) hj2 hj3; omega
        · by_cases e : a = i
          · subst e
            have := (c2 b (by omega) hb hfb).1; omega
          · exact c3 a b (by omega) hab hb hfa hfb
      · rw [if_neg h2] at h; cases h
    · rw [if_neg h1] at h
      obtain ⟨c1, c2, c3⟩ := ih left (i + 1) (by omega) (by omega) h
      refine ⟨c1, fun j hj hj2 hj3 => ?_, fun a b ha hab hb hfa hfb => ?_⟩
      · by_cases e : j = i
        · subst e; exact absurd hj3 h1
        · exact c2 j (by omega) hj2 hj3
      · by_cases e : a = i
        · subst e; exact absurd hfa h1
        · exact c3 a b (by omega) hab hb hfa hfb
theorem right_lefts {t : List S75} {cols bins kind classes : Int} (h : rightT t cols bins kind classes = true) : leftsS t t.length 1 0 = true := by
  unfold rightT at h
  simp only [Bool.and_eq_true, decide_eq_true_eq] at h
  obtain ⟨_, _, _, hd, _⟩ := h
  unfold depthS at hd
  cases hl : leftsS t t.length 1 0 with
  | true => rfl
  | false => rw [hl] at hd; simp at hd
theorem rd_mem_node {t : List S75} {i : Int} (h0 : 0 ≤ i) (h1 : i < t.length) : rd_T75 t i ∈ t := by
  have : i.toNat < t.length := by omega
  simp [rd_T75, List.getD_eq_getElem?_getD, this]
theorem right_node {t : List S75} {cols bins kind classes : Int} (h : rightT t cols bins kind classes = true) {i : Int} (h0 : 0 ≤ i) (h1 : i < t.length) : (rd_T75 t i).f0 = -1 ∨ (0 ≤ (rd_T75 t i).f0 ∧ (rd_T75 t i).f0 < cols) := by
  unfold rightT at h
  simp only [Bool.and_eq_true] at h
  have hn := List.all_eq_true.1 h.2.2.1 _ (rd_mem_node h0 h1)
  generalize rd_T75 t i = n at hn
  unfold oneS at hn
  split at hn
  · have := of_decide_eq_true hn; right; omega
  · split at hn
    · rename_i hh; left; exact hh.1
    · cases hn
end Go.Proofs.Ytebbnjgaikppgaa.Pure
