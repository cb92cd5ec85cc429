import Derived.Test.YtlmmlhljflladaaPureRank
import Derived.Test.YtlmmlhljflladaaPAx4
namespace Go.Proofs.Ytlmmlhljflladaa
open Go.RowKit Go.Proofs.Ytlmmlhljflladaa.Pure Go.Proofs.Ytlmmlhljflladaa.PureFlt Go.Proofs.Ytlmmlhljflladaa.PureRank Go.Proofs.Ytlmmlhljflladaa.PA
theorem Pure.RankOrder : hornbeamlaw06_RankOrder.Pure := by
  intro a0 a1 h0 h1
  obtain ⟨v0, v1, w0⟩ := wf64 h0
  obtain ⟨v2, v3, w1⟩ := wf64 h1
  refine ⟨1, ?_⟩
  unfold hornbeamlaw06_RankOrder.f
  generalize Flt.fbits a0 = a at w0 ⊢
  generalize Flt.fbits a1 = b at w1 ⊢
  simp only [cmp_f w0 w1, fixed, Option.bind_some, if_true, ref_cmp w0 w1, key_f w0, key_f w1]
  unfold cmp
  by_cases c1 : key a < key b
  · simp [c1]; omega
  · by_cases c2 : key a > key b
    · simp [c1, c2]; omega
    · have : key a = key b := by omega
      simp [this]
end Go.Proofs.Ytlmmlhljflladaa
