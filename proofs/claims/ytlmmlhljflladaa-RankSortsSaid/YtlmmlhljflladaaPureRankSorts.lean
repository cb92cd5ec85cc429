import Derived.Test.YtlmmlhljflladaaPureSort
import Derived.Test.YtlmmlhljflladaaPAx16
namespace Go.Proofs.Ytlmmlhljflladaa
open Go.RowKit Go.Proofs.Ytlmmlhljflladaa.Pure Go.Proofs.Ytlmmlhljflladaa.PureFlt Go.Proofs.Ytlmmlhljflladaa.PureRank Go.Proofs.Ytlmmlhljflladaa.PureBin Go.Proofs.Ytlmmlhljflladaa.PureSort Go.Proofs.Ytlmmlhljflladaa.PA
set_option linter.unusedVariables false
theorem Pure.RankSorts : hornbeamlaw06_RankSorts.Pure := by
  intro l hl
  refine ⟨50000, ?_⟩
  unfold hornbeamlaw06_RankSorts.f
  rw [fixed]
  simp only [Option.bind_some, if_true]
  by_cases h : (l.length : Int) > 100
  · rw [if_pos h]
  rw [if_neg h, of_f l (by omega) _ (by omega)]
  simp only [Option.bind_some]
  have hw := of_w64 hl.2.2
  generalize hE : l.map Flt.fbits = e at hw ⊢
  have hlen : e.length = l.length := by rw [← hE]; simp
  obtain ⟨r, h1, h2, h3, h4⟩ := ref_sort e hw (by omega) 50000 (by omega)
  have hrl : r.length = e.length := by have := h3.length_eq; simpa using this
  rw [sort_f e (by omega) _ (by omega), h1]
  simp only [Option.bind_some]
  rw [sorts_same e hw r h2 h3 h4, same_self r (by omega) _ (by omega)]
  simp only [Option.bind_some, if_true]
  rw [same_self e (by omega) _ (by omega)]; rfl
end Go.Proofs.Ytlmmlhljflladaa
