import Derived.Test.YtlmmlhljflladaaPureEdges2
import Derived.Test.YtlmmlhljflladaaPAx14
namespace Go.Proofs.Ytlmmlhljflladaa
open Go.RowKit Go.Proofs.YtlmmlhljflladaaW.PrintWords Go.Proofs.YtlmmlhljflladaaW.PrintLast Go.Proofs.YtlmmlhljflladaaW.PrintMore Go.Proofs.Ytlmmlhljflladaa.Pure Go.Proofs.Ytlmmlhljflladaa.PureFlt Go.Proofs.Ytlmmlhljflladaa.PureRank Go.Proofs.Ytlmmlhljflladaa.PureBin Go.Proofs.Ytlmmlhljflladaa.PureSort Go.Proofs.Ytlmmlhljflladaa.PureEdges Go.Proofs.Ytlmmlhljflladaa.PureEdges2 Go.Proofs.Ytlmmlhljflladaa.PA
set_option linter.unusedVariables false
set_option linter.unusedSimpArgs false
namespace PureEdgesCut
theorem take_snoc (l : List Nat) (i : Nat) (h : i < l.length) : l.take (i + 1) = l.take i ++ [l.getD i 0] := by
  rw [PureSort.gd l i h]; exact List.take_succ_eq_append_getElem h
/-- How many are there. -/
def alive (l : List Nat) : Nat := l.countP fun f => !decide (nan f)
theorem alive_snoc (l : List Nat) (f : Nat) : alive (l ++ [f]) = alive l + if nan f then 0 else 1 := by
  unfold alive
  rw [List.countP_append]
  by_cases h : nan f <;> simp [h]
theorem alive_le (l : List Nat) : alive l ≤ l.length := List.countP_le_length
theorem cut_l0 {l e : List Nat} (hl : W64 l) (he : W64 e) (hm : l.length ≤ 200) (hem : e.length ≤ 300) : ∀ (d k i : Nat) (x : List Int), i + d = l.length → e.length < k → Cnt e (l.take i) x →
    ∃ y, Cnt e l y ∧ hornbeamlaw10_EdgesCut.l0 (k + 1 + 2 * d) l e x (alive (l.take i)) l l.length i = hornbeamlaw10_EdgesCut.l1 k l e y (alive l) e e.length 0 := by
  intro d
  induction d with
  | zero =>
    intro k i x h1 h2 h3
    rw [List.take_of_length_le (by omega)] at h3 ⊢
    refine ⟨x, h3, ?_⟩
    rw [show k + 1 + 2 * 0 = k + 1 by omega, hornbeamlaw10_EdgesCut.l0, if_neg (by omega)]
  | succ d ih =>
    intro k i x h1 h2 h3
    have hi : i < l.length := by omega
    have hs := cnt_step h3 (l.getD i 0) (by simp; omega)
    have hr := bin_range e (l.getD i 0)
    have hxl := h3.len
    rw [← take_snoc l i hi] at hs
    obtain ⟨y, hy, ey⟩ := ih k (i + 1) _ (by omega) h2 hs
    refine ⟨y, hy, ?_⟩
    rw [← ey, take_snoc l i hi, alive_snoc, show k + 1 + 2 * (d + 1) = (k + 1 + 2 * d) + 1 + 1 by omega, hornbeamlaw10_EdgesCut.l0, if_pos (by omega), if_pos (by omega), if_pos (by omega), PureSort.rdd,
      bin_f e _ he (PureSort.getD_w hl _) (by omega) _ (by omega), Option.bind_some, if_neg (by omega), if_neg (by omega), ref_missing, Option.bind_some]
    have hb : ((binT e (l.getD i 0) == 0) != decide (nan (l.getD i 0))) = false := by
      have := bin_zero e (l.getD i 0)
      by_cases n : nan (l.getD i 0)
      · rw [this.2 n, decide_eq_true n]; rfl
      · rw [show (binT e (l.getD i 0) == 0) = false from beq_eq_false_iff_ne.2 (fun h => n (this.1 h)), decide_eq_false n]; rfl
    have hal := alive_le (l.take i)
    have hlt : (l.take i).length = i := by simp; omega
    rw [hb, hornbeamlaw10_EdgesCut.j2, if_neg (by decide), if_pos (by omega), if_pos (by omega), Option.bind_some, wrap_in (i := (i : Int) + 1) (by omega) (by omega), show ((i : Int) + 1) = ((i + 1 : Nat) : Int) by omega]
    by_cases n : nan (l.getD i 0)
    · have := (bin_zero e (l.getD i 0)).2 n
      rw [if_neg (by omega), if_pos n]; rfl
    · have : binT e (l.getD i 0) ≠ 0 := fun h => n ((bin_zero e (l.getD i 0)).1 h)
      rw [if_pos (by omega), if_neg n, wrap_in (i := ((alive (l.take i) : Nat) : Int) + 1) (by omega) (by omega)]; rfl
theorem cut_l2 {l e : List Nat} (hl : W64 l) (he : W64 e) (hm : l.length ≤ 200) (hem : e.length ≤ 300) (x : List Int) (c : Int) (j : Nat) (v : Nat) (hv : v < 18446744073709551616) (hbin : binT e v = (j : Int) + 2) (hj : j ≤ 300) :
    ∀ (d k i : Nat) (b : Bool), i + d = l.length → e.length < k → (b = true ∨ ∃ f ∈ l.drop i, key f = key v) →
    hornbeamlaw10_EdgesCut.l2 (k + 1 + d) l e x c j v b e e.length j l l.length i = hornbeamlaw10_EdgesCut.l1 k l e x c e e.length ((j + 1 : Nat) : Int) := by
  intro d
  induction d with
  | zero =>
    intro k i b h1 h2 h3
    have hb : b = true := h3.resolve_right (fun ⟨f, hf, _⟩ => by rw [List.drop_eq_nil_of_le (by omega)] at hf; cases hf)
    subst hb
    rw [show k + 1 + 0 = k + 1 by omega, hornbeamlaw10_EdgesCut.l2, if_neg (by omega), if_pos rfl, bin_f e v he hv (by omega) _ (by omega), Option.bind_some, hbin, wrap_in (i := (j : Int) + 2) (by omega) (by omega), if_pos rfl, wrap_in (by omega) (by omega)]
    rfl
  | succ d ih =>
    intro k i b h1 h2 h3
    have hi : i < l.length := by omega
    rw [show k + 1 + (d + 1) = (k + 1 + d) + 1 by omega, hornbeamlaw10_EdgesCut.l2, if_pos (by omega), if_pos (by omega), if_pos (by omega), wrap_in (i := (i : Int) + 1) (by omega) (by omega), show ((i : Int) + 1) = ((i + 1 : Nat) : Int) by omega]
    cases b with
    | true => rw [if_pos rfl]; exact ih k (i + 1) true (by omega) h2 (.inl rfl)
    | false =>
      rw [if_neg (by decide), PureSort.rdd, ref_cmp' (PureSort.getD_w hl _) hv (by omega), Option.bind_some]
      refine ih k (i + 1) _ (by omega) h2 ?_
      obtain ⟨f, hf, hk⟩ := h3.resolve_left (by decide)
      rw [show l.drop i = _ from List.drop_eq_getElem_cons hi] at hf
      rcases List.mem_cons.1 hf with rfl | hf
      · left
        rw [PureSort.gd l i hi, beq_iff_eq]
        unfold cmp; rw [if_neg (by omega), if_neg (by omega)]
      · exact .inr ⟨f, hf, hk⟩
theorem cut_l1 {l e : List Nat} (hl : W64 l) (E : Es l e) (hm : l.length ≤ 200) (hem : e.length ≤ 300) (x : List Int) (c : Int) : ∀ (d k j : Nat), j + d = e.length → e.length < k →
    hornbeamlaw10_EdgesCut.l1 (k + 1 + d * (l.length + 2)) l e x c e e.length j = hornbeamlaw10_EdgesCut.l3 k x c 1 := by
  intro d
  induction d with
  | zero =>
    intro k j h1 h2
    rw [Nat.zero_mul, show k + 1 + 0 = k + 1 by omega, hornbeamlaw10_EdgesCut.l1, if_neg (by omega)]
  | succ d ih =>
    intro k j h1 h2
    have hj : j < e.length := by omega
    rw [Nat.succ_mul, show k + 1 + (d * (l.length + 2) + (l.length + 2)) = ((k + 1 + d * (l.length + 2)) + 1 + l.length) + 1 by omega, hornbeamlaw10_EdgesCut.l1, if_pos (by omega), if_pos (by omega), if_pos (by omega), PureSort.rdd, PureSort.gd e j hj]
    obtain ⟨hn, y, hy, hk⟩ := E.mem e[j] (List.getElem_mem hj)
    exact (cut_l2 hl E.w hm hem x c j e[j] (E.w _ (List.getElem_mem hj)) (bin_at E.up j hj hn) (by omega) l.length (k + 1 + d * (l.length + 2)) 0 false (by omega) (by omega) (.inr ⟨y, by simpa using hy, hk⟩)).trans (ih k (j + 1) (by omega) h2)
theorem cut_l3 (x : List Int) (c : Nat) (hx : x.length ≤ 1000) (h : 0 < c → ∀ b, 1 ≤ b → b < x.length → rd x (b : Int) ≠ 0) : ∀ (d k b : Nat), b + d = x.length → 1 ≤ b → 30 ≤ k → hornbeamlaw10_EdgesCut.l3 (k + 2 + 2 * d) x c b = some true := by
  intro d
  induction d with
  | zero =>
    intro k b h1 h2 h3
    rw [show k + 2 + 2 * 0 = k + 1 + 1 by omega, hornbeamlaw10_EdgesCut.l3, if_neg (by omega), hornbeamlaw10_EdgesCut.j6, if_neg (by decide), fixed_t h3]; rfl
  | succ d ih =>
    intro k b h1 h2 h3
    rw [show k + 2 + 2 * (d + 1) = (k + 2 + 2 * d) + 1 + 1 by omega, hornbeamlaw10_EdgesCut.l3, if_pos (by omega)]
    by_cases hc : 0 < c
    · rw [decide_eq_true (show ((c : Nat) : Int) > 0 by omega), hornbeamlaw10_EdgesCut.j6, if_pos rfl, if_pos (by omega), if_pos (by omega), if_neg (h hc b h2 (by omega)), wrap_in (by omega) (by omega), show ((b : Int) + 1) = ((b + 1 : Nat) : Int) by omega]
      exact ih k (b + 1) (by omega) (by omega) h3
    · rw [decide_eq_false (show ¬ ((c : Nat) : Int) > 0 by omega), hornbeamlaw10_EdgesCut.j6, if_neg (by decide), fixed_t (by omega)]; rfl
theorem all_cut {l e : List Nat} (hl : W64 l) (E : Es l e) (hm : l.length ≤ 200) (hem : e.length ≤ 255) (k : Nat) (hk : 100000 ≤ k) :
    hornbeamlaw10_EdgesCut.l0 k l e (List.replicate (e.length + 2) 0) 0 l l.length 0 = some true := by
  have hmul : e.length * (l.length + 2) ≤ 255 * 202 := Nat.mul_le_mul hem (by omega)
  obtain ⟨y, hy, ey⟩ := cut_l0 hl E.w hm (by omega) l.length (k - 1 - 2 * l.length) 0 _ (by omega) (by omega) (cnt_zero e)
  rw [show k - 1 - 2 * l.length + 1 + 2 * l.length = k by omega] at ey
  refine Eq.trans ey ?_
  have e1 := cut_l1 hl E hm (by omega) y (alive l) e.length (k - 2 - 2 * l.length - e.length * (l.length + 2)) 0 (by omega) (by omega)
  rw [show k - 2 - 2 * l.length - e.length * (l.length + 2) + 1 + e.length * (l.length + 2) = k - 1 - 2 * l.length by omega] at e1
  refine Eq.trans e1 ?_
  have e3 := cut_l3 y (alive l) (by rw [hy.len]; omega) (fun ha b h1 h2 => by
    rw [hy.len] at h2
    rw [hy.val b h2]
    have ht : ∃ f ∈ l, ¬ nan f := by
      unfold alive at ha
      obtain ⟨f, hf, hn⟩ := List.countP_pos_iff.1 ha
      exact ⟨f, hf, by simpa using hn⟩
    have := no_empty hl E ht b h1 h2
    omega) (e.length + 1) (k - 2 - 2 * l.length - e.length * (l.length + 2) - 2 - 2 * (e.length + 1)) 1 (by rw [hy.len]; omega) (Nat.le_refl _) (by omega)
  rw [show k - 2 - 2 * l.length - e.length * (l.length + 2) - 2 - 2 * (e.length + 1) + 2 + 2 * (e.length + 1) = k - 2 - 2 * l.length - e.length * (l.length + 2) by omega] at e3
  exact e3
end PureEdgesCut
open PureEdgesCut in
theorem Pure.EdgesCut : hornbeamlaw10_EdgesCut.Pure := by
  rintro l a ⟨hl1, hl2, hw⟩ ha
  have hW := of_w64 hw
  have ha' := wf_u8 ha
  refine ⟨100002, ?_⟩
  unfold hornbeamlaw10_EdgesCut.f
  by_cases h : (l.length : Int) > 200
  · rw [if_pos h, fixed_t (by omega)]; rfl
  have hm : (l.map Flt.fbits).length ≤ 200 := by simp; omega
  rw [if_neg h, PureBin.of_f l (by omega) _ (by omega), Option.bind_some, wrap_in (by omega) (by omega), PureEdges.of_f _ hW (by omega), Option.bind_some]
  have E := es_of hW a
  have hlen : ((if a < 2 ∨ 256 < a then ([] : List Nat) else edges_Of.cut (there (l.map Flt.fbits)) a.toNat).length : Int) > 0 → ((if a < 2 ∨ 256 < a then ([] : List Nat) else edges_Of.cut (there (l.map Flt.fbits)) a.toNat).length : Int) < a := by
    by_cases hc : a < 2 ∨ 256 < a
    · rw [if_pos hc]; intro h; simp at h
    · rw [if_neg hc]; intro _; have := (cut_right hW (bins := a.toNat) (by omega)).2; omega
  generalize (if a < 2 ∨ 256 < a then ([] : List Nat) else edges_Of.cut (there (l.map Flt.fbits)) a.toNat) = e at *
  have hem : e.length ≤ 255 := by
    by_cases h0 : (e.length : Int) > 0
    · have := hlen h0; omega
    · omega
  have fin : hornbeamlaw10_EdgesCut.j0 100002 (l.map Flt.fbits) e false = some true := by
    rw [show 100002 = 100001 + 1 from rfl, hornbeamlaw10_EdgesCut.j0, if_neg (by decide), wrap_in (by omega) (by omega), if_pos (by omega), if_pos (by omega), show ((e.length : Int) + 2).toNat = e.length + 2 by omega]
    exact all_cut hW E hm hem _ (by omega)
  by_cases h0 : (e.length : Int) > 0
  · rw [if_pos h0, decide_eq_false (by have := hlen h0; omega)]; exact fin
  · rw [if_neg h0]; exact fin
end Go.Proofs.Ytlmmlhljflladaa
