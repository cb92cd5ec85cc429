import Derived.Test.YtlmmlhljflladaaPureRank
import Derived.Test.YtlmmlhljflladaaPAx2
namespace Go.Proofs.Ytlmmlhljflladaa
open Go.RowKit Go.Proofs.Ytlmmlhljflladaa.Pure Go.Proofs.Ytlmmlhljflladaa.PureFlt Go.Proofs.Ytlmmlhljflladaa.PureRank Go.Proofs.Ytlmmlhljflladaa.PA
theorem Pure.RankKeys : hornbeamlaw06_RankKeys.Pure := by
  intro a0 h0
  obtain ⟨w0, w1, w2⟩ := wf64 h0
  refine ⟨1, ?_⟩
  unfold hornbeamlaw06_RankKeys.f
  generalize Flt.fbits a0 = a at w2 ⊢
  have hk : 0 ≤ key a ∧ key a ≤ 18446744073709551615 := by
    by_cases hn : nan a
    · rw [key_nan hn]; omega
    · have := key_pos w2 hn; omega
  have ho : rank_Of.f 1 (key a) = some (clean a, true) := by
    rw [of_f hk.1 hk.2]
    by_cases hn : nan a
    · rw [if_pos (key_nan hn)]; congr 2; unfold clean; rw [if_pos hn]
    · have := key_pos w2 hn
      rw [if_neg (by omega), unkey_key w2 hn, if_pos (key_clean a)]
  simp only [clean_f, key_f w2, Option.bind_some, ho, fixed, missing, ref_missing, ref_key w2, ref_bits, if_true, BEq.rfl, Flt.ubits]
end Go.Proofs.Ytlmmlhljflladaa
