/- The bins of values by edges: what edges.Bin, walk.Row and the document's functions compute. -/
import Derived.Test.YtlmmlhljflladaaPureRank
import Derived.Test.YtlmmlhljflladaaPAx13
import Derived.Test.YtlmmlhljflladaaPAx20
import Derived.Test.YtlmmlhljflladaaPAx7
namespace Go.Proofs.Ytlmmlhljflladaa.PureBin
open Go.RowKit Go.Proofs.YtlmmlhljflladaaW.PrintWords Go.Proofs.YtlmmlhljflladaaW.PrintLast Go.Proofs.YtlmmlhljflladaaW.PrintMore Go.Proofs.Ytlmmlhljflladaa.Pure Go.Proofs.Ytlmmlhljflladaa.PureFlt Go.Proofs.Ytlmmlhljflladaa.PureRank Go.Proofs.Ytlmmlhljflladaa.PA
set_option linter.unusedVariables false
set_option linter.unusedSimpArgs false
def W64 (l : List Nat) : Prop := ∀ x ∈ l, x < 18446744073709551616
theorem rdf (l : List Nat) (i : Nat) (h : i < l.length) : rdOf (0 : Nat) l (i : Int) = l[i] := by simp [rdOf, h]
theorem of_l0 (l : List Int) (hl : l.length < 17592186044416) : ∀ (d k i : Nat) (acc : List Nat), i + d = l.length → d < k → acc.length = i →
    hornbeamref06_Of.l0 k l acc i = some (acc ++ (l.drop i).map Flt.fbits) := by
  intro d
  induction d with
  | zero =>
    intro k i acc h1 h2 h3
    obtain ⟨k, rfl⟩ : ∃ m, k = m + 1 := ⟨k - 1, by omega⟩
    simp only [hornbeamref06_Of.l0]
    rw [if_neg (by omega), List.drop_eq_nil_of_le (by omega)]; simp
  | succ d ih =>
    intro k i acc h1 h2 h3
    obtain ⟨k, rfl⟩ : ∃ m, k = m + 1 := ⟨k - 1, by omega⟩
    simp only [hornbeamref06_Of.l0]
    rw [if_pos (by omega), if_pos (by omega), if_pos (by omega), wrap_in (by omega) (by omega)]
    have := ih k (i + 1) (acc ++ [Flt.fbits (rd l i)]) (by omega) (by omega) (by simp; omega)
    rw [show ((i : Int) + 1) = ((i + 1 : Nat) : Int) by omega, this, drop_rd l i (by omega)]
    simp
theorem of_f (l : List Int) (hl : l.length < 17592186044416) (k : Nat) (hk : l.length < k) : hornbeamref06_Of.f k l = some (l.map Flt.fbits) := by
  unfold hornbeamref06_Of.f
  have := of_l0 l hl l.length k 0 [] (by omega) hk rfl
  simpa using this
theorem of_w64 {l : List Int} (h : ∀ x ∈ l, (Lit.int .u64 x).wf = true) : W64 (l.map Flt.fbits) := by
  intro x hx
  obtain ⟨y, hy, rfl⟩ := List.mem_map.mp hx
  exact (wf64 (h y hy)).2.2
/-- How many edges don't stand behind a value. -/
def cnt (f : Nat) (l : List Nat) : Nat := l.countP (fun x => decide (cmp x f ≤ 0))
def binT (e : List Nat) (f : Nat) : Int := if nan f then 0 else 1 + (cnt f e : Int)
theorem cnt_cons (f x : Nat) (l : List Nat) : (cnt f (x :: l) : Int) = (if cmp x f ≤ 0 then 1 else 0) + (cnt f l : Int) := by
  unfold cnt
  rw [List.countP_cons]
  by_cases h : cmp x f ≤ 0 <;> simp [h] <;> omega
theorem bin_l0 (e : List Nat) (f : Nat) (he : W64 e) (hf : f < 18446744073709551616) (hl : e.length < 9223372036854775806) : ∀ (d k i : Nat) (n : Int), i + d = e.length → d < k → 0 ≤ n → n ≤ i + 1 →
    edges_Bin.l0 k f n e e.length i = some (n + cnt f (e.drop i)) := by
  intro d
  induction d with
  | zero =>
    intro k i n h1 h2 h3 h4
    obtain ⟨k, rfl⟩ : ∃ m, k = m + 1 := ⟨k - 1, by omega⟩
    simp only [edges_Bin.l0]
    rw [if_neg (by omega), List.drop_eq_nil_of_le (by omega)]; simp [cnt]
  | succ d ih =>
    intro k i n h1 h2 h3 h4
    obtain ⟨k, rfl⟩ : ∃ m, k = m + 1 := ⟨k - 1, by omega⟩
    have hi : i < e.length := by omega
    simp only [edges_Bin.l0]
    rw [if_pos (by omega), if_pos (by omega), if_pos (by omega), wrap_in (by omega) (by omega), wrap_in (by omega) (by omega), rdf e i hi,
      cmp_f (he _ (List.getElem_mem hi)) hf, Option.bind_some, List.drop_eq_getElem_cons hi, cnt_cons, show ((i : Int) + 1) = ((i + 1 : Nat) : Int) by omega]
    by_cases c : cmp e[i] f ≤ 0
    · rw [if_pos c, if_pos c, ih k (i + 1) (n + 1) (by omega) (by omega) (by omega) (by omega)]; congr 1; omega
    · rw [if_neg c, if_neg c, ih k (i + 1) n (by omega) (by omega) (by omega) (by omega)]; congr 1; omega
theorem bin_f (e : List Nat) (f : Nat) (he : W64 e) (hf : f < 18446744073709551616) (hl : e.length < 9223372036854775806) (k : Nat) (hk : e.length < k) : edges_Bin.f k e f = some (binT e f) := by
  unfold edges_Bin.f binT
  rw [missing]
  show (if decide (nan f) = true then _ else _) = _
  by_cases h : nan f
  · simp [h]
  · simp only [h, decide_false, Bool.false_eq_true, if_false]
    have := bin_l0 e f he hf hl e.length k 0 1 (by omega) hk (by omega) (by omega)
    simpa using this
theorem ref_bin_l0 (e : List Nat) (f : Nat) (he : W64 e) (hf : f < 18446744073709551616) (hl : e.length < 9223372036854775806) : ∀ (d k i : Nat) (n : Int), i + d = e.length → d + 1 < k → 0 ≤ n → n ≤ i + 1 →
    hornbeamref10_Bin.l0 k e f n i = some (n + cnt f (e.drop i)) := by
  intro d
  induction d with
  | zero =>
    intro k i n h1 h2 h3 h4
    obtain ⟨k, rfl⟩ : ∃ m, k = m + 1 := ⟨k - 1, by omega⟩
    simp only [hornbeamref10_Bin.l0]
    rw [if_neg (by omega), List.drop_eq_nil_of_le (by omega)]; simp [cnt]
  | succ d ih =>
    intro k i n h1 h2 h3 h4
    obtain ⟨k, rfl⟩ : ∃ m, k = m + 1 := ⟨k - 1, by omega⟩
    have hi : i < e.length := by omega
    simp only [hornbeamref10_Bin.l0]
    rw [if_pos (by omega), if_pos (by omega), wrap_in (by omega) (by omega), wrap_in (by omega) (by omega), rdf e i hi,
      ref_cmp' (he _ (List.getElem_mem hi)) hf (show 0 < k by omega), Option.bind_some, List.drop_eq_getElem_cons hi, cnt_cons, show ((i : Int) + 1) = ((i + 1 : Nat) : Int) by omega]
    by_cases c : cmp e[i] f ≤ 0
    · rw [if_pos c, if_pos c, ih k (i + 1) (n + 1) (by omega) (by omega) (by omega) (by omega)]; congr 1; omega
    · rw [if_neg c, if_neg c, ih k (i + 1) n (by omega) (by omega) (by omega) (by omega)]; congr 1; omega
theorem ref_bin_f (e : List Nat) (f : Nat) (he : W64 e) (hf : f < 18446744073709551616) (hl : e.length < 9223372036854775806) (k : Nat) (hk : e.length + 1 < k) : hornbeamref10_Bin.f k e f = some (binT e f) := by
  unfold hornbeamref10_Bin.f binT
  rw [ref_missing]
  show (if decide (nan f) = true then _ else _) = _
  by_cases h : nan f
  · simp [h]
  · simp only [h, decide_false, Bool.false_eq_true, if_false]
    have := ref_bin_l0 e f he hf hl e.length k 0 1 (by omega) hk (by omega) (by omega)
    simpa using this
end Go.Proofs.Ytlmmlhljflladaa.PureBin
