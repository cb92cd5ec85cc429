/- More on edges and the bins of values: how bins are counted. -/
import Derived.Test.YtlmmlhljflladaaPureEdges
namespace Go.Proofs.Ytlmmlhljflladaa.PureEdges2
open Go.RowKit Go.Proofs.YtlmmlhljflladaaW.PrintWords Go.Proofs.YtlmmlhljflladaaW.PrintLast Go.Proofs.YtlmmlhljflladaaW.PrintMore Go.Proofs.Ytlmmlhljflladaa.Pure Go.Proofs.Ytlmmlhljflladaa.PureFlt Go.Proofs.Ytlmmlhljflladaa.PureRank Go.Proofs.Ytlmmlhljflladaa.PureBin Go.Proofs.Ytlmmlhljflladaa.PureSort Go.Proofs.Ytlmmlhljflladaa.PureEdges Go.Proofs.Ytlmmlhljflladaa.PA
set_option linter.unusedVariables false
set_option linter.unusedSimpArgs false
theorem cnt_mono (e : List Nat) {f g : Nat} (h : key f ≤ key g) : cnt f e ≤ cnt g e := by
  unfold PureBin.cnt
  refine List.countP_mono_left fun x _ hx => ?_
  have := PureRight.cmp_le.1 (of_decide_eq_true hx)
  exact decide_eq_true (PureRight.cmp_le.2 (by omega))
theorem nan_key {f : Nat} (h : f < 18446744073709551616) : nan f ↔ key f = 0 := ⟨key_nan, fun e => by
  by_cases n : nan f
  · exact n
  · have := (key_pos h n).1; omega⟩
theorem bin_key (e : List Nat) {f g : Nat} (hf : f < 18446744073709551616) (hg : g < 18446744073709551616) (h : key f = key g) : binT e f = binT e g := by
  have a := cnt_mono e (show key f ≤ key g by omega)
  have b := cnt_mono e (show key g ≤ key f by omega)
  unfold binT
  by_cases n : nan f
  · rw [if_pos n, if_pos ((nan_key hg).2 (by rw [← h]; exact (nan_key hf).1 n))]
  · rw [if_neg n, if_neg (fun q => n ((nan_key hf).2 (by rw [h]; exact (nan_key hg).1 q)))]; omega
theorem bin_range (e : List Nat) (f : Nat) : 0 ≤ binT e f ∧ binT e f ≤ e.length + 1 := by
  have := PureRight.cnt_len f e
  unfold binT; split <;> omega
theorem bin_zero (e : List Nat) (f : Nat) : binT e f = 0 ↔ nan f := by
  unfold binT; split <;> simp_all; omega
/-- The bin of an edge. -/
theorem bin_at {e : List Nat} (up : e.Pairwise (fun a b => key a < key b)) (i : Nat) (hi : i < e.length) (hn : ¬ nan e[i]) : binT e e[i] = (i : Int) + 2 := by
  have h1 : ¬ cnt e[i] e ≤ i := fun h => by have := (PureRight.cnt_le up i hi).1 h; omega
  have h2 : cnt e[i] e ≤ i + 1 := by
    rcases Nat.lt_or_ge (i + 1) e.length with h | h
    · exact (PureRight.cnt_le up (i + 1) h).2 ((List.pairwise_iff_getElem.1 up) i (i + 1) hi h (by omega))
    · have := PureRight.cnt_len e[i] e; omega
  unfold binT; rw [if_neg hn]; omega
/-- How often bin b comes. -/
def num (e : List Nat) (l : List Nat) (b : Nat) : Nat := l.countP fun f => decide (binT e f = (b : Int))
theorem num_snoc (e l : List Nat) (f b : Nat) : num e (l ++ [f]) b = num e l b + if binT e f = (b : Int) then 1 else 0 := by
  unfold num
  rw [List.countP_append]
  by_cases h : binT e f = (b : Int) <;> simp [h]
theorem set_rd (l : List Int) (n b : Nat) (v : Int) (hn : n < l.length) : rd (l.set n v) (b : Int) = if n = b then v else rd l (b : Int) := by
  simp only [rd, Int.toNat_natCast, List.getD_eq_getElem?_getD, List.getElem?_set]
  by_cases h : n = b
  · subst h; simp [hn]
  · simp [h]
/-- The counts are right. -/
structure Cnt (e l : List Nat) (x : List Int) : Prop where
  len : x.length = e.length + 2
  val : ∀ b, b < e.length + 2 → rd x (b : Int) = (num e l b : Int)
theorem num_le (e l : List Nat) (b : Nat) : num e l b ≤ l.length := List.countP_le_length
theorem cnt_zero (e : List Nat) : Cnt e [] (List.replicate (e.length + 2) 0) :=
  ⟨by simp, fun b hb => by rw [rd_nat _ _ (by simpa using hb)]; simp [num]⟩
theorem cnt_step {e l : List Nat} {x : List Int} (h : Cnt e l x) (f : Nat) (hl : l.length ≤ 1000000) : Cnt e (l ++ [f]) (x.set (binT e f).toNat (wrap64 (rd x (binT e f) + 1))) := by
  have hr := bin_range e f
  obtain ⟨n, hn⟩ : ∃ n : Nat, binT e f = n := ⟨(binT e f).toNat, by omega⟩
  refine ⟨by rw [List.length_set]; exact h.len, fun b hb => ?_⟩
  have h1 := h.val n (by omega)
  have h2 := num_le e l n
  rw [hn, Int.toNat_natCast, set_rd _ _ _ _ (by rw [h.len]; omega), num_snoc, hn, h1, wrap_in (by omega) (by omega)]
  by_cases hb2 : n = b
  · subst hb2; rw [if_pos rfl, if_pos rfl]; simp
  · rw [if_neg hb2, if_neg (by omega), h.val b hb]; simp
theorem num_pos {e l : List Nat} {f b : Nat} (hf : f ∈ l) (h : binT e f = (b : Int)) : 0 < num e l b := by
  unfold num; rw [List.countP_pos_iff]; exact ⟨f, hf, by simpa using h⟩
/-- What the edges of values are like. -/
structure Es (l e : List Nat) : Prop where
  w : W64 e
  up : e.Pairwise (fun a b => key a < key b)
  mem : ∀ x ∈ e, ¬ nan x ∧ ∃ y ∈ l, key y = key x
  first : (∃ y ∈ l, ¬ nan y) → ∃ y ∈ l, ¬ nan y ∧ ∀ x ∈ e, key y < key x
theorem there_some {l : List Nat} (hl : W64 l) {x : Nat} (h : x ∈ there l) : ∃ y ∈ l, key y = key x ∧ ¬ nan y ∧ ¬ nan x := by
  obtain ⟨⟨y, hy, rfl⟩, h2⟩ := (there_mem hl).1 h
  exact ⟨y, hy, (key_clean y).symm, fun n => h2 (nan_clean.2 n), h2⟩
theorem es_of {l : List Nat} (hl : W64 l) (a1 : Int) : Es l (if a1 < 2 ∨ 256 < a1 then [] else edges_Of.cut (there l) a1.toNat) := by
  have nil : Es l [] := ⟨fun x hx => by (cases hx), List.Pairwise.nil, fun x hx => by (cases hx), fun ⟨y, h1, h2⟩ => ⟨y, h1, h2, fun x hx => by (cases hx)⟩⟩
  by_cases hc : a1 < 2 ∨ 256 < a1
  · rw [if_pos hc]; exact nil
  · rw [if_neg hc]
    rcases Nat.eq_zero_or_pos (there l).length with h | h
    · rw [cut_nil h]; exact nil
    · obtain ⟨z, e, I⟩ := inv_cut (there_w hl) (there_sorted hl) h (bins := a1.toNat) (by omega)
      have hmem : ∀ x ∈ z.2, x ∈ there l ∧ key ((there l).getD 0 0) < key x := by
        intro x hx
        obtain ⟨j, h1, h2, rfl, h3⟩ := I.fromz x hx
        refine ⟨?_, h3⟩
        rw [PureSort.gd _ _ (pl_lt h (by omega))]; exact List.getElem_mem _
      rw [e]
      refine ⟨fun x hx => there_w hl x (hmem x hx).1, I.up, fun x hx => ?_, fun _ => ?_⟩
      · obtain ⟨y, h1, h2, _, h4⟩ := there_some hl (hmem x hx).1
        exact ⟨h4, y, h1, h2⟩
      · have h0 : (there l).getD 0 0 ∈ there l := by rw [PureSort.gd _ _ h]; exact List.getElem_mem _
        obtain ⟨y, h1, h2, h3, _⟩ := there_some hl h0
        exact ⟨y, h1, h3, fun x hx => by have := (hmem x hx).2; omega⟩
/-- No bin but that of the missing is empty. -/
theorem no_empty {l e : List Nat} (hl : W64 l) (E : Es l e) (ht : ∃ y ∈ l, ¬ nan y) (b : Nat) (h1 : 1 ≤ b) (h2 : b < e.length + 2) : 0 < num e l b := by
  rcases Nat.eq_or_lt_of_le h1 with hb | hb
  · subst hb
    obtain ⟨y, m1, m2, m3⟩ := E.first ht
    refine num_pos m1 ?_
    have h0 : cnt y e = 0 := by
      unfold PureBin.cnt
      rw [List.countP_eq_zero]
      intro x hx
      have := m3 x hx
      simp only [decide_eq_true_eq]
      intro hh; have := PureRight.cmp_le.1 hh; omega
    unfold binT; rw [if_neg m2, h0]; rfl
  · obtain ⟨j, rfl⟩ : ∃ j, b = j + 2 := ⟨b - 2, by omega⟩
    have hj : j < e.length := by omega
    obtain ⟨hn, y, hy, hk⟩ := E.mem e[j] (List.getElem_mem hj)
    refine num_pos hy ?_
    rw [bin_key e (hl y hy) (E.w _ (List.getElem_mem hj)) hk, bin_at E.up j hj hn]; omega
end Go.Proofs.Ytlmmlhljflladaa.PureEdges2
