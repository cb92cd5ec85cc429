import Derived.Test.YtlmmlhljflladaaPureEdges
import Derived.Test.YtlmmlhljflladaaPAx22
namespace Go.Proofs.Ytlmmlhljflladaa
open Go.RowKit Go.Proofs.YtlmmlhljflladaaW.PrintWords Go.Proofs.YtlmmlhljflladaaW.PrintLast Go.Proofs.YtlmmlhljflladaaW.PrintMore Go.Proofs.Ytlmmlhljflladaa.Pure Go.Proofs.Ytlmmlhljflladaa.PureRank Go.Proofs.Ytlmmlhljflladaa.PureBin Go.Proofs.Ytlmmlhljflladaa.PureRight Go.Proofs.Ytlmmlhljflladaa.PureEdges Go.Proofs.Ytlmmlhljflladaa.PA
set_option linter.unusedVariables false
theorem Pure.EdgesBins : hornbeamlaw10_EdgesBins.Pure := by
  rintro l a ⟨hl1, hl2, hw⟩ ha
  obtain ⟨_, _, hf⟩ := wf64 ha
  have hW := of_w64 hw
  refine ⟨1000, ?_⟩
  unfold hornbeamlaw10_EdgesBins.f
  by_cases h : (l.length : Int) > 300
  · rw [if_pos h, fixed_t (by omega)]; rfl
  rw [if_neg h, PureBin.of_f l (by omega) _ (by omega), Option.bind_some, fixed_t (by omega), Option.bind_some, if_pos rfl,
    bin_f _ _ hW hf (by simp; omega) _ (by simp; omega), Option.bind_some, ref_bin_f _ _ hW hf (by simp; omega) _ (by simp; omega), Option.bind_some, if_pos rfl,
    right_f _ hW (by simp; omega) _ (by simp; omega), Option.bind_some, ref_right_f _ hW _ (by omega), Option.bind_some]
  congr 1
  rw [beq_iff_eq, Bool.and_comm, decide_eq_decide.2 (show (l.map Flt.fbits).length < 256 ↔ (l.map Flt.fbits).length ≤ 255 by omega)]
end Go.Proofs.Ytlmmlhljflladaa
