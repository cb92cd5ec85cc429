/- The edges of values: what edges.Of and the document's Of compute, in plain words of the sorted values. -/
import Derived.Test.YtlmmlhljflladaaPureSort
import Derived.Test.YtlmmlhljflladaaPureRight
import Derived.Test.YtlmmlhljflladaaPAx12
import Derived.Test.YtlmmlhljflladaaPAx13
import Derived.Test.YtlmmlhljflladaaPAx19
namespace Go.Proofs.Ytlmmlhljflladaa.PureEdges
open Go.RowKit Go.Proofs.YtlmmlhljflladaaW.PrintWords Go.Proofs.YtlmmlhljflladaaW.PrintLast Go.Proofs.YtlmmlhljflladaaW.PrintMore Go.Proofs.Ytlmmlhljflladaa.Pure Go.Proofs.Ytlmmlhljflladaa.PureFlt Go.Proofs.Ytlmmlhljflladaa.PureRank Go.Proofs.Ytlmmlhljflladaa.PureBin Go.Proofs.Ytlmmlhljflladaa.PureSort Go.Proofs.Ytlmmlhljflladaa.PA
open Go.Proofs.Ytlmmlhljflladaa.PureRight (rightT)
set_option linter.unusedVariables false
set_option linter.unusedSimpArgs false
theorem fixed_t {k : Nat} (hk : 30 ≤ k) : hornbeamlaw10_fixed.f k = some true := at_rounds hornbeamlaw10_fixed.mono hk (by decide +kernel)
/-- Those that aren't missing, in order. -/
def there (l : List Nat) : List Nat := (FSort.sortT SortF.cf (l.map clean)).filter fun x => !decide (nan x)
theorem clean_all {l : List Nat} (hl : W64 l) : W64 (l.map clean) := by
  intro x hx; obtain ⟨y, hy, rfl⟩ := List.mem_map.mp hx; exact clean_lt (hl y hy)
theorem there_mem {l : List Nat} (hl : W64 l) {x : Nat} : x ∈ there l ↔ (∃ y ∈ l, clean y = x) ∧ ¬ nan x := by
  have s := (sortT_spec _ (clean_all hl)).1
  unfold there
  rw [List.mem_filter, s.mem_iff, List.mem_map]; simp
theorem there_w {l : List Nat} (hl : W64 l) : W64 (there l) := by
  intro x hx; obtain ⟨⟨y, hy, rfl⟩, _⟩ := (there_mem hl).1 hx; exact clean_lt (hl y hy)
theorem there_sorted {l : List Nat} (hl : W64 l) : (there l).Pairwise le := (sortT_spec _ (clean_all hl)).2.filter _
theorem there_len {l : List Nat} (hl : W64 l) : (there l).length ≤ l.length := by
  have s := (sortT_spec _ (clean_all hl)).1.length_eq
  have := List.length_filter_le (fun x => !decide (nan x)) (FSort.sortT SortF.cf (l.map clean))
  unfold there; simp at s; omega
theorem of_f (l : List Nat) (hl : W64 l) (hm : l.length ≤ 1000) (a1 : Int) : edges_Of.f l a1 = some (if a1 < 2 ∨ 256 < a1 then [] else edges_Of.cut (there l) a1.toNat) := by
  unfold edges_Of.f
  by_cases h : a1 < 2 ∨ 256 < a1
  · rw [if_pos h, if_pos h]
  · rw [if_neg h, if_neg h, sort_f l (by omega) _ (by omega), Option.bind_some]
    have e : FDel.kept edges_Of.miss (FSort.sortT SortF.cf (l.map clean)) = there l := by
      unfold FDel.kept there
      congr 1; funext x; unfold edges_Of.miss; rw [missing]; rfl
    rw [e, if_pos (by have := there_len hl; omega)]
theorem cf_pos {x y : Nat} (hx : x < 18446744073709551616) (hy : y < 18446744073709551616) : SortF.cf x y > 0 ↔ key y < key x := by
  rw [SortF.cf_eq, ky_eq hx, ky_eq hy]; repeat (first | omega | split)
/-- What is known behind q places. -/
structure Inv (s : List Nat) (bins q : Nat) (z : Nat × List Nat) : Prop where
  up : z.2.Pairwise (fun a b => key a < key b)
  fromz : ∀ x ∈ z.2, ∃ j, 1 ≤ j ∧ j ≤ q ∧ x = s.getD (j * s.length / bins) 0 ∧ key (s.getD 0 0) < key x
  last : (z.2 = [] ∧ z.1 = s.getD 0 0) ∨ ∃ pre, z.2 = pre ++ [z.1]
  place : ∃ t, t ≤ q ∧ z.1 = s.getD (t * s.length / bins) 0
  all : ∀ j, 1 ≤ j → j ≤ q → key (s.getD (j * s.length / bins) 0) = key (s.getD 0 0) ∨ ∃ x ∈ z.2, key x = key (s.getD (j * s.length / bins) 0)
  len : z.2.length ≤ q
theorem pl_lt {n bins j : Nat} (h : 0 < n) (hj : j < bins) : j * n / bins < n := by
  rw [Nat.div_lt_iff_lt_mul (by omega), Nat.mul_comm n bins]; exact Nat.mul_lt_mul_of_pos_right hj h
theorem pl_mono {n bins i j : Nat} (h : i ≤ j) : i * n / bins ≤ j * n / bins := Nat.div_le_div_right (Nat.mul_le_mul_right n h)
theorem sorted_key {s : List Nat} (h : s.Pairwise le) {i j : Nat} (hij : i ≤ j) (hj : j < s.length) : key (s.getD i 0) ≤ key (s.getD j 0) := by
  rw [PureSort.gd s i (by omega), PureSort.gd s j hj]
  rcases Nat.lt_or_ge i j with h1 | h1
  · exact (List.pairwise_iff_getElem.1 h) i j (by omega) hj h1
  · have : i = j := by omega
    subst this; exact Int.le_refl _
theorem inv_step {s : List Nat} (hw : W64 s) (hs : s.Pairwise le) (h0 : 0 < s.length) {bins q : Nat} {z : Nat × List Nat} (hq : q + 1 < bins) (h : Inv s bins q z) : Inv s bins (q + 1) (edges_Of.step s z ((q + 1) * s.length / bins)) := by
  have hp := pl_lt (n := s.length) h0 hq
  obtain ⟨t, ht, hz1⟩ := h.place
  have hmono : key z.1 ≤ key (s.getD ((q + 1) * s.length / bins) 0) := by rw [hz1]; exact sorted_key hs (pl_mono (by omega)) hp
  have hz0 : key (s.getD 0 0) ≤ key z.1 := by rw [hz1]; exact sorted_key hs (Nat.zero_le _) (pl_lt h0 (by omega))
  have hzw : z.1 < 18446744073709551616 := by rw [hz1]; exact getD_w hw _
  unfold edges_Of.step
  by_cases c : SortF.cf (s.getD ((q + 1) * s.length / bins) 0) z.1 > 0
  · rw [if_pos c]
    have hk := (cf_pos (getD_w hw _) hzw).1 c
    refine ⟨?_, ?_, .inr ⟨z.2, rfl⟩, ⟨q + 1, Nat.le_refl _, rfl⟩, ?_, by have := h.len; simp; omega⟩
    · rw [List.pairwise_append]
      refine ⟨h.up, by simp, ?_⟩
      intro a ha b hb
      obtain rfl := List.mem_singleton.1 hb
      rcases h.last with ⟨e, _⟩ | ⟨pre, e⟩
      · rw [e] at ha; cases ha
      · have hu := h.up
        rw [e, List.pairwise_append] at hu
        rw [e] at ha
        rcases List.mem_append.1 ha with ha | ha
        · have := hu.2.2 a ha z.1 (by simp); omega
        · obtain rfl := List.mem_singleton.1 ha; exact hk
    · intro x hx
      rcases List.mem_append.1 hx with hx | hx
      · obtain ⟨j, a, b, c, d⟩ := h.fromz x hx; exact ⟨j, a, by omega, c, d⟩
      · obtain rfl := List.mem_singleton.1 hx; exact ⟨q + 1, by omega, Nat.le_refl _, rfl, by omega⟩
    · intro j h1 h2
      by_cases e : j = q + 1
      · subst e; exact .inr ⟨_, by simp, rfl⟩
      · rcases h.all j h1 (by omega) with a | ⟨x, a, b⟩
        · exact .inl a
        · exact .inr ⟨x, by simp [a], b⟩
  · rw [if_neg c]
    have hk : key (s.getD ((q + 1) * s.length / bins) 0) = key z.1 := by
      have : ¬ key z.1 < key (s.getD ((q + 1) * s.length / bins) 0) := fun hh => c ((cf_pos (getD_w hw _) hzw).2 hh)
      omega
    refine ⟨h.up, fun x hx => ?_, h.last, ⟨t, by omega, hz1⟩, ?_, by have := h.len; omega⟩
    · obtain ⟨j, a, b, c, d⟩ := h.fromz x hx; exact ⟨j, a, by omega, c, d⟩
    · intro j h1 h2
      by_cases e : j = q + 1
      · subst e
        rw [hk]
        rcases h.last with ⟨_, e⟩ | ⟨pre, e⟩
        · left; rw [e]
        · right; exact ⟨z.1, by rw [e]; simp, rfl⟩
      · exact h.all j h1 (by omega)
theorem inv_at {s : List Nat} (hw : W64 s) (hs : s.Pairwise le) (h0 : 0 < s.length) {bins : Nat} : ∀ q, q < bins → Inv s bins q (edges_Of.run s ((FPlaces.places s.length bins h0).take q)) := by
  intro q
  induction q with
  | zero =>
    intro _
    refine ⟨List.Pairwise.nil, fun x hx => (by cases hx), .inl ⟨rfl, rfl⟩, ⟨0, Nat.le_refl _, by simp [edges_Of.run]⟩, fun j h1 h2 => by omega, Nat.le_refl _⟩
  | succ q ih =>
    intro hq
    obtain ⟨x, hx, e⟩ := FPlaces.places_get s.length bins h0 q hq
    rw [e, edges_Of.run_snoc, hx]
    exact inv_step hw hs h0 hq (ih (by omega))
theorem inv_cut {s : List Nat} (hw : W64 s) (hs : s.Pairwise le) (h0 : 0 < s.length) {bins : Nat} (hb : 2 ≤ bins) : ∃ z, edges_Of.cut s bins = z.2 ∧ Inv s bins (bins - 1) z := by
  refine ⟨_, by unfold edges_Of.cut; rw [dif_pos h0], ?_⟩
  have := inv_at hw hs h0 (bins := bins) (bins - 1) (by omega)
  rwa [List.take_of_length_le (by rw [FPlaces.places_len]; omega)] at this
theorem cut_nil {s : List Nat} (h : s.length = 0) (bins : Nat) : edges_Of.cut s bins = [] := by unfold edges_Of.cut; rw [dif_neg (by omega)]
theorem edges_w {s : List Nat} (hw : W64 s) (bins : Nat) (hb : 2 ≤ bins) (hs : s.Pairwise le) : W64 (edges_Of.cut s bins) := by
  rcases Nat.eq_zero_or_pos s.length with h | h
  · rw [cut_nil h]; intro x hx; cases hx
  · obtain ⟨z, e, I⟩ := inv_cut hw hs h hb
    rw [e]; intro x hx
    obtain ⟨j, _, _, rfl, _⟩ := I.fromz x hx
    exact getD_w hw _
/-- What edges are like: they stand in order, are values that are there, behind the first. -/
theorem right_l0 (e : List Nat) (he : W64 e) (hl : e.length ≤ 1000000) : ∀ (d k i : Nat), i + d = e.length → d < k → edges_Right.l0 k e e e.length i = some (rightT e d i && decide (e.length < 256)) := by
  intro d
  induction d with
  | zero =>
    intro k i h1 h2
    obtain ⟨k, rfl⟩ : ∃ m, k = m + 1 := ⟨k - 1, by omega⟩
    rw [edges_Right.l0, if_neg (by omega)]
    rw [rightT, Bool.true_and]
    exact congrArg some (decide_eq_decide.2 (by omega))
  | succ d ih =>
    intro k i h1 h2
    obtain ⟨k, rfl⟩ : ∃ m, k = m + 1 := ⟨k - 1, by omega⟩
    have hi : i < e.length := by omega
    have hub : ∀ a b : Nat, (Flt.ubits a = Flt.ubits b) ↔ a = b := by intro a b; unfold Flt.ubits; omega
    rw [edges_Right.l0, if_pos (by omega), if_pos (by omega), if_pos (by omega), PureRight.rdd, missing, Option.bind_some]
    simp only [rightT]
    by_cases hn : nan (e.getD i 0)
    · rw [if_pos (decide_eq_true hn), decide_eq_true hn]; rfl
    · rw [if_neg (by simpa using hn), decide_eq_false hn, clean_f, Option.bind_some]
      by_cases hc : clean (e.getD i 0) = e.getD i 0
      · rw [if_pos ((hub _ _).2 hc.symm), decide_eq_true hc]
        by_cases h0 : i = 0
        · subst h0
          rw [if_neg (by decide), show wrap64 (((0 : Nat) : Int) + 1) = ((0 + 1 : Nat) : Int) from wrap_in (by decide) (by decide), ih k 1 (by omega) (by omega)]; simp
        · rw [if_pos (by omega), wrap_in (by omega) (by omega), if_pos (by omega), if_pos (by omega), show ((i : Int) - 1) = ((i - 1 : Nat) : Int) by omega, PureRight.rdd, cmp_f (PureRight.getD_w he _) (PureRight.getD_w he _), Option.bind_some]
          by_cases c : cmp (e.getD (i - 1) 0) (e.getD i 0) < 0
          · rw [if_neg (by omega), wrap_in (by omega) (by omega), show ((i : Int) + 1) = ((i + 1 : Nat) : Int) by omega, ih k (i + 1) (by omega) (by omega), decide_eq_true c]; simp
          · rw [if_pos (by omega), decide_eq_false c, decide_eq_false h0]; rfl
      · rw [if_neg (fun h => hc ((hub _ _).1 h).symm), decide_eq_false hc]; rfl
theorem rightT_of {e : List Nat} (h1 : ∀ x ∈ e, ¬ nan x ∧ clean x = x) (h2 : e.Pairwise (fun a b => key a < key b)) : ∀ (d i : Nat), i + d = e.length → rightT e d i = true := by
  intro d
  induction d with
  | zero => intro i _; rfl
  | succ d ih =>
    intro i hi
    have hm := h1 (e.getD i 0) (by rw [PureRight.gd e i (by omega)]; exact List.getElem_mem _)
    simp only [rightT, Bool.and_eq_true, Bool.or_eq_true, decide_eq_true_eq, Bool.not_eq_true', decide_eq_false_iff_not]
    refine ⟨⟨⟨hm.1, hm.2⟩, ?_⟩, ih (i + 1) (by omega)⟩
    by_cases h0 : i = 0
    · exact .inl h0
    · refine .inr (PureRight.cmp_neg.2 ?_)
      rw [PureRight.gd e i (by omega), PureRight.gd e (i - 1) (by omega)]
      exact (List.pairwise_iff_getElem.1 h2) (i - 1) i (by omega) (by omega) (by omega)
theorem there_right {l : List Nat} (hl : W64 l) {x : Nat} (h : x ∈ there l) : ¬ nan x ∧ clean x = x := by
  obtain ⟨⟨y, _, rfl⟩, h2⟩ := (there_mem hl).1 h
  exact ⟨h2, clean_clean y⟩
/-- The edges of values could be edges, and are fewer than the bins. -/
theorem cut_right {l : List Nat} (hl : W64 l) {bins : Nat} (hb : 2 ≤ bins) : rightT (edges_Of.cut (there l) bins) (edges_Of.cut (there l) bins).length 0 = true ∧ (edges_Of.cut (there l) bins).length < bins := by
  rcases Nat.eq_zero_or_pos (there l).length with h | h
  · rw [cut_nil h]; exact ⟨rfl, by simp; omega⟩
  · obtain ⟨z, e, I⟩ := inv_cut (there_w hl) (there_sorted hl) h hb
    rw [e]
    refine ⟨rightT_of (fun x hx => ?_) I.up _ _ (by omega), by have := I.len; omega⟩
    obtain ⟨j, h1, h2, rfl, _⟩ := I.fromz x hx
    refine there_right hl ?_
    rw [PureSort.gd _ _ (pl_lt h (by omega))]; exact List.getElem_mem _
theorem right_f (e : List Nat) (he : W64 e) (hl : e.length ≤ 1000000) (k : Nat) (hk : e.length < k) : edges_Right.f k e = some (rightT e e.length 0 && decide (e.length < 256)) := by
  have := right_l0 e he hl e.length k 0 (by omega) hk
  unfold edges_Right.f; simpa using this
end Go.Proofs.Ytlmmlhljflladaa.PureEdges
