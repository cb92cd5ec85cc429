import Derived.Test.YtlmmlhljflladaaPureRow
import Derived.Test.YtlmmlhljflladaaPurePlace
import Derived.Test.YtlmmlhljflladaaPAx10
namespace Go.Proofs.Ytlmmlhljflladaa
open Go.RowKit Go.Proofs.Ytlmmlhljflladaa.Pure Go.Proofs.Ytlmmlhljflladaa.PureFlt Go.Proofs.Ytlmmlhljflladaa.PureRank Go.Proofs.Ytlmmlhljflladaa.PureBin Go.Proofs.Ytlmmlhljflladaa.PureRow Go.Proofs.Ytlmmlhljflladaa.PA
set_option linter.unusedVariables false
theorem rows_rd (l : List (List Int)) (i : Nat) (h : i < l.length) : rd_L7 l (i : Int) = l[i] := by simp [rd_L7, h]
theorem rows_end (v : List Int) (e : List (List Nat)) (he : Es 50 e) (hv : ∀ x ∈ v, (Lit.int .u64 x).wf = true) (hn : v.length ≤ 20) (k : Nat) (hk : 100 ≤ k) :
    ((hornbeamref06_Of.f k v).bind fun t222 => ((walk_Row.f k e t222).bind fun bt225 => ((hornbeamref06_Of.f k v).bind fun t229 => ((hornbeamref20_Row.f k e t229).bind fun bt232 => ((hornbeamlaw20_fixed.f).bind fun t236 => (if t236 = true then ((hornbeamref03_Same.f k bt225.1 bt232.1).bind fun t237 => (if t237 = true then (some (bt225.2 == bt232.2)) else (some false))) else (some false))))))) = some true := by
  have hm : (v.map Flt.fbits).length = v.length := by simp
  have hw := of_w64 hv
  rw [of_f v (by omega) k (by omega)]
  simp only [Option.bind_some]
  rw [row_f 50 (by decide) e _ he hw (by omega) k (by omega), ref_row_f 50 (by decide) e _ he hw (by omega) k (by omega), fixed_true]
  simp only [Option.bind_some, if_true]
  rw [same_self _ (by split <;> simp [rowT] <;> omega) k (by split <;> simp [rowT] <;> omega)]
  simp
theorem rows_l0 (c : List (List Int)) (v : List Int) (hc : c.length ≤ 20) (hcw : ∀ x ∈ c, ∀ y ∈ x, (Lit.int .u64 y).wf = true) (hv : ∀ x ∈ v, (Lit.int .u64 x).wf = true) (hn : v.length ≤ 20) :
    ∀ (d k i : Nat) (e : List (List Nat)), i + d = c.length → d + 100 < k → Es 50 e → e.length = i → hornbeamlaw20_WalkRows.l0 k v e c c.length i = some true := by
  intro d
  induction d with
  | zero =>
    intro k i e h1 h2 h3 h4
    obtain ⟨k, rfl⟩ : ∃ m, k = m + 1 := ⟨k - 1, by omega⟩
    simp only [hornbeamlaw20_WalkRows.l0]
    rw [if_neg (by omega)]
    exact rows_end v e h3 hv hn k (by omega)
  | succ d ih =>
    intro k i e h1 h2 h3 h4
    obtain ⟨k, rfl⟩ : ∃ m, k = m + 1 := ⟨k - 1, by omega⟩
    have hi : i < c.length := by omega
    simp only [hornbeamlaw20_WalkRows.l0]
    rw [if_pos (by omega), if_pos (by omega), if_pos (by omega), rows_rd c i hi]
    by_cases h50 : (c[i].length : Int) > 50
    · rw [if_pos h50, fixed_true]; rfl
    · rw [if_neg h50, of_f c[i] (by omega) k (by omega), Option.bind_some, if_pos (by omega), wrap_in (by omega) (by omega), show ((i : Int) + 1) = ((i + 1 : Nat) : Int) by omega]
      refine ih k (i + 1) _ (by omega) (by omega) ?_ (by simp; omega)
      intro x hx
      rcases List.mem_append.mp hx with h | h
      · exact h3 x h
      · rw [List.mem_singleton] at h; subst h
        exact ⟨of_w64 (hcw _ (List.getElem_mem hi)), by rw [List.length_map]; omega⟩
theorem Pure.WalkRows : hornbeamlaw20_WalkRows.Pure := by
  intro c v hc hv
  refine ⟨200, ?_⟩
  have key : ∀ b, (b = false → c.length ≤ 20 ∧ v.length ≤ 20) → hornbeamlaw20_WalkRows.j0 200 c v b = some true := by
    intro b hb
    simp only [hornbeamlaw20_WalkRows.j0]
    cases b with
    | true => simp [fixed_true]
    | false =>
      have hb := hb rfl
      rw [if_neg (by decide)]
      exact rows_l0 c v hb.1 (fun x hx => (hc.2.2 x hx).2.2) hv.2.2 hb.2 c.length _ 0 [] (by omega) (by omega) (fun x hx => by cases hx) rfl
  unfold hornbeamlaw20_WalkRows.f
  by_cases h : (c.length : Int) > 20
  · rw [if_pos h]; exact key true (fun x => by cases x)
  · rw [if_neg h]
    refine key _ (fun x => ?_)
    have := of_decide_eq_false x; omega
end Go.Proofs.Ytlmmlhljflladaa
