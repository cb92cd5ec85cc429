import Derived.Test.YtlmmlhljflladaaPureRank
import Derived.Test.YtlmmlhljflladaaPAx5
namespace Go.Proofs.Ytlmmlhljflladaa
open Go.RowKit Go.Proofs.Ytlmmlhljflladaa.Pure Go.Proofs.Ytlmmlhljflladaa.PureFlt Go.Proofs.Ytlmmlhljflladaa.PureRank Go.Proofs.Ytlmmlhljflladaa.PA
theorem Pure.RankChains : hornbeamlaw06_RankChains.Pure := by
  intro a0 a1 a2 h0 h1 h2
  obtain ⟨_, _, w0⟩ := wf64 h0
  obtain ⟨_, _, w1⟩ := wf64 h1
  obtain ⟨_, _, w2⟩ := wf64 h2
  unfold hornbeamlaw06_RankChains.f
  generalize Flt.fbits a0 = a at w0 ⊢
  generalize Flt.fbits a1 = b at w1 ⊢
  generalize Flt.fbits a2 = c at w2 ⊢
  simp only [cmp_f w0 w1, cmp_f w1 w2, cmp_f w0 w2, cmp_f w1 w0, cmp_f w0 w0, fixed, Option.bind_some, if_true]
  have e1 : cmp b a = wrap64 (-(cmp a b)) := by unfold cmp; rw [wrap_in] <;> repeat (first | omega | split)
  have e2 : (cmp a a == 0) = true := by unfold cmp; simp
  rw [← e1, e2]
  simp only [if_true]
  have e3 : cmp a b ≤ 0 → cmp b c ≤ 0 → cmp a c ≤ 0 := by unfold cmp; repeat (first | omega | split)
  have e4 : 0 ≤ cmp a b → 0 ≤ cmp b c → 0 ≤ cmp a c := by unfold cmp; repeat (first | omega | split)
  repeat (first | rfl | omega | split)
end Go.Proofs.Ytlmmlhljflladaa
