import Derived.Test.YtlmmlhljflladaaPureRank
import Derived.Test.YtlmmlhljflladaaPAx3
namespace Go.Proofs.Ytlmmlhljflladaa
open Go.RowKit Go.Proofs.Ytlmmlhljflladaa.Pure Go.Proofs.Ytlmmlhljflladaa.PureFlt Go.Proofs.Ytlmmlhljflladaa.PureRank Go.Proofs.Ytlmmlhljflladaa.PA
theorem Pure.RankOf : hornbeamlaw06_RankOf.Pure := by
  intro n h0
  obtain ⟨w0, w1, w2⟩ := wf64 h0
  refine ⟨1, ?_⟩
  unfold hornbeamlaw06_RankOf.f
  rw [of_f w0 w1]
  simp only [Option.bind_some, is_f, fixed, if_true]
  by_cases hz : n = 0
  · rw [if_pos hz]
    have e : (decide (n = 0 ∨ (4503599627370495 ≤ n ∧ n ≤ 18442240474082181120 ∧ n ≠ 9223372036854775807))) = true := by simp [hz]
    rw [e]
    have k1 : key 9221120237041090561 = 0 := by decide
    have k2 : clean 9221120237041090561 = 9221120237041090561 := by decide
    rw [ref_key (by decide), k1, ref_bits, k2, hz]; rfl
  · rw [if_neg hz]
    have hu : unkey n < 18446744073709551616 := by unfold unkey; split <;> omega
    by_cases hk : key (unkey n) = n
    · rw [if_pos hk]
      have i := (is_key w0 w1 hz).mp hk
      have e : (decide (n = 0 ∨ (4503599627370495 ≤ n ∧ n ≤ 18442240474082181120 ∧ n ≠ 9223372036854775807))) = true := by simp; omega
      rw [e]
      simp only [bne_self_eq_false, Bool.false_eq_true, if_false, if_true]
      rw [ref_key hu, ref_bits, clean_unkey w0 w1 hz hk]
      simp only [Option.bind_some]
      rw [if_pos hk]; simp [Flt.ubits]
    · rw [if_neg hk]
      have i := fun x => hk ((is_key w0 w1 hz).mpr x)
      have e : (decide (n = 0 ∨ (4503599627370495 ≤ n ∧ n ≤ 18442240474082181120 ∧ n ≠ 9223372036854775807))) = false := decide_eq_false (fun x => x.elim hz i)
      rw [e]; rfl
end Go.Proofs.Ytlmmlhljflladaa
