/- walk.Row and the document's Row. -/
import Derived.Test.YtlmmlhljflladaaPureBin
import Derived.Test.YtlmmlhljflladaaPAx7
import Derived.Test.YtlmmlhljflladaaPAx8
import Derived.Test.YtlmmlhljflladaaPAx9
namespace Go.Proofs.Ytlmmlhljflladaa.PureRow
open Go.RowKit Go.Proofs.YtlmmlhljflladaaW.PrintWords Go.Proofs.YtlmmlhljflladaaW.PrintLast Go.Proofs.YtlmmlhljflladaaW.PrintMore Go.Proofs.Ytlmmlhljflladaa.Pure Go.Proofs.Ytlmmlhljflladaa.PureFlt Go.Proofs.Ytlmmlhljflladaa.PureRank Go.Proofs.Ytlmmlhljflladaa.PureBin Go.Proofs.Ytlmmlhljflladaa.PA
set_option linter.unusedVariables false
set_option linter.unusedSimpArgs false
theorem rdl (l : List (List Nat)) (i : Nat) (h : i < l.length) : rd_L6 l (i : Int) = l[i] := by simp [rd_L6, h]
def rowT (e : List (List Nat)) (v : List Nat) : List Int := List.zipWith binT e v
/-- Rows of edges of up to m each. -/
def Es (m : Nat) (e : List (List Nat)) : Prop := ∀ x ∈ e, W64 x ∧ x.length ≤ m
theorem row_l0 (m : Nat) (hm : m < 9223372036854775806) (e : List (List Nat)) (v : List Nat) (he : Es m e) (hv : W64 v) (hl : e.length = v.length) (hs : v.length < 17592186044416) : ∀ (d k i : Nat) (acc : List Int), i + d = v.length → d + m + 1 < k → acc.length = i →
    walk_Row.l0 k e acc v v.length i = some (acc ++ rowT (e.drop i) (v.drop i), 0) := by
  intro d
  induction d with
  | zero =>
    intro k i acc h1 h2 h3
    obtain ⟨k, rfl⟩ : ∃ m, k = m + 1 := ⟨k - 1, by omega⟩
    simp only [walk_Row.l0]
    rw [if_neg (by omega), List.drop_eq_nil_of_le (show e.length ≤ i by omega)]; simp [rowT]
  | succ d ih =>
    intro k i acc h1 h2 h3
    obtain ⟨k, rfl⟩ : ∃ m, k = m + 1 := ⟨k - 1, by omega⟩
    have hi : i < v.length := by omega
    have hi' : i < e.length := by omega
    have hx := he _ (List.getElem_mem hi')
    simp only [walk_Row.l0]
    rw [if_pos (by omega), if_pos (by omega), if_pos (by omega), if_pos (by omega), rdf v i hi, rdl e i hi',
      bin_f _ _ hx.1 (hv _ (List.getElem_mem hi)) (by omega) k (by omega), Option.bind_some, if_pos (by omega), wrap_in (by omega) (by omega),
      show ((i : Int) + 1) = ((i + 1 : Nat) : Int) by omega, ih k (i + 1) _ (by omega) (by omega) (by simp; omega)]
    rw [show e.drop i = _ from List.drop_eq_getElem_cons hi', show v.drop i = _ from List.drop_eq_getElem_cons hi]
    simp only [rowT, List.zipWith_cons_cons, List.append_assoc, List.singleton_append]
theorem row_f (m : Nat) (hm : m < 9223372036854775806) (e : List (List Nat)) (v : List Nat) (he : Es m e) (hv : W64 v) (hs : v.length < 17592186044416) (k : Nat) (hk : v.length + m + 1 < k) :
    walk_Row.f k e v = some (if e.length = v.length then (rowT e v, 0) else ([], 8)) := by
  unfold walk_Row.f
  by_cases h : e.length = v.length
  · rw [if_pos (by omega), if_pos h]
    have := row_l0 m hm e v he hv h hs v.length k 0 [] (by omega) (by omega) rfl
    simpa using this
  · rw [if_neg (by omega), if_neg h]
theorem ref_row_l0 (m : Nat) (hm : m < 9223372036854775806) (e : List (List Nat)) (v : List Nat) (he : Es m e) (hv : W64 v) (hl : e.length = v.length) (hs : v.length < 17592186044416) : ∀ (d k i : Nat) (acc : List Int), i + d = v.length → d + m + 2 < k → acc.length = i →
    hornbeamref20_Row.l0 k e v acc i = some (acc ++ rowT (e.drop i) (v.drop i), 0) := by
  intro d
  induction d with
  | zero =>
    intro k i acc h1 h2 h3
    obtain ⟨k, rfl⟩ : ∃ m, k = m + 1 := ⟨k - 1, by omega⟩
    simp only [hornbeamref20_Row.l0]
    rw [if_neg (by omega), List.drop_eq_nil_of_le (show e.length ≤ i by omega)]; simp [rowT]
  | succ d ih =>
    intro k i acc h1 h2 h3
    obtain ⟨k, rfl⟩ : ∃ m, k = m + 1 := ⟨k - 1, by omega⟩
    have hi : i < v.length := by omega
    have hi' : i < e.length := by omega
    have hx := he _ (List.getElem_mem hi')
    simp only [hornbeamref20_Row.l0]
    rw [if_pos (by omega), if_pos (by omega), if_pos (by omega), rdf v i hi, rdl e i hi',
      ref_bin_f _ _ hx.1 (hv _ (List.getElem_mem hi)) (by omega) k (by omega), Option.bind_some, if_pos (by omega), wrap_in (by omega) (by omega),
      show ((i : Int) + 1) = ((i + 1 : Nat) : Int) by omega, ih k (i + 1) _ (by omega) (by omega) (by simp; omega)]
    rw [show e.drop i = _ from List.drop_eq_getElem_cons hi', show v.drop i = _ from List.drop_eq_getElem_cons hi]
    simp only [rowT, List.zipWith_cons_cons, List.append_assoc, List.singleton_append]
theorem ref_row_f (m : Nat) (hm : m < 9223372036854775806) (e : List (List Nat)) (v : List Nat) (he : Es m e) (hv : W64 v) (hs : v.length < 17592186044416) (k : Nat) (hk : v.length + m + 2 < k) :
    hornbeamref20_Row.f k e v = some (if e.length = v.length then (rowT e v, 0) else ([], 8)) := by
  unfold hornbeamref20_Row.f
  simp only [Option.bind_some]
  by_cases h : e.length = v.length
  · rw [if_pos (by omega), if_pos h]
    have := ref_row_l0 m hm e v he hv h hs v.length k 0 [] (by omega) (by omega) rfl
    simpa using this
  · rw [if_neg (by omega), if_neg h]
theorem same_l0 (a : List Int) (hl : a.length ≤ 9223372036854775807) : ∀ (d k i : Nat), i + d = a.length → d < k → hornbeamref03_Same.l0 k a a i = some true := by
  intro d
  induction d with
  | zero =>
    intro k i h1 h2
    obtain ⟨k, rfl⟩ : ∃ m, k = m + 1 := ⟨k - 1, by omega⟩
    simp only [hornbeamref03_Same.l0]
    rw [if_neg (by omega)]
  | succ d ih =>
    intro k i h1 h2
    obtain ⟨k, rfl⟩ : ∃ m, k = m + 1 := ⟨k - 1, by omega⟩
    simp only [hornbeamref03_Same.l0]
    rw [if_pos (by omega), if_pos (by omega), if_pos (by omega), if_pos trivial, wrap_in (by omega) (by omega), show ((i : Int) + 1) = ((i + 1 : Nat) : Int) by omega, ih k (i + 1) (by omega) (by omega)]
theorem same_self (a : List Int) (hl : a.length ≤ 9223372036854775807) (k : Nat) (hk : a.length < k) : hornbeamref03_Same.f k a a = some true := by
  unfold hornbeamref03_Same.f
  rw [if_pos rfl]
  exact same_l0 a hl a.length k 0 (by omega) hk
end Go.Proofs.Ytlmmlhljflladaa.PureRow
