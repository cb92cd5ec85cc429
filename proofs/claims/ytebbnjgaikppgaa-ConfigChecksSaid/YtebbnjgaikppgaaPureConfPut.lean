/- The document's Put of a config. -/
import Derived.Test.YtebbnjgaikppgaaPureConf
import Derived.Test.YtebbnjgaikppgaaPAx24
namespace Go.Proofs.Ytebbnjgaikppgaa.PureConf
open Go.RowKit Go.Proofs.YtebbnjgaikppgaaW.PrintWords Go.Proofs.YtebbnjgaikppgaaW.PrintLast Go.Proofs.YtebbnjgaikppgaaW.PrintMore Go.Proofs.Ytebbnjgaikppgaa.Pure Go.Proofs.Ytebbnjgaikppgaa.PureTake Go.Proofs.Ytebbnjgaikppgaa.PA
set_option linter.unusedVariables false
theorem ref_put_c (g : Nat → Int) (k : Nat) (hk : 30 ≤ k) : hornbeamref08_Put.f k (g 0) (g 1) (g 2) (g 3) (g 4) (g 5) (g 6) = some (if chk g = 0 then strOfNums (bytesC g) else (⟨#[]⟩ : ByteArray)) := by
  unfold hornbeamref08_Put.f
  rw [ref_check_f g k (by omega), Option.bind_some]
  by_cases hc : chk g = 0
  · obtain ⟨h0, h1, h2, h3, h4, h5, h6, _, _⟩ := chk_zero hc
    rw [if_pos hc, if_pos hc]
    rw [u64_wrap h0.1 (by omega), u64_wrap h1.1 (by omega), u64_wrap (show 0 ≤ g 2 by omega) (by omega), u64_wrap (show 0 ≤ g 3 by omega) (by omega), u64_wrap h4.1 (by omega), u64_wrap (show 0 ≤ g 5 by omega) (by omega), u64_wrap (show 0 ≤ g 6 by omega) (by omega)]
    simp only [ref_put_f _ _ h0.1 (by omega) k (by omega), ref_put_f _ _ h1.1 (by omega) k (by omega), ref_put_f (g 2) _ (by omega) (by omega) k (by omega), ref_put_f (g 3) _ (by omega) (by omega) k (by omega), ref_put_f _ _ h4.1 (by omega) k (by omega),
      ref_put_f (g 5) _ (by omega) (by omega) k (by omega), ref_put_f (g 6) _ (by omega) (by omega) k (by omega), Option.bind_some, ← strOf_append, strOf_size, List.length_append, be_len, show cnt 1 = 1 from rfl, show cnt 2 = 2 from rfl, show cnt 4 = 4 from rfl]
    rw [if_pos (by omega), if_pos (by omega), if_pos (by omega), if_pos (by omega), if_pos (by omega), if_pos (by omega)]
    rfl
  · rw [if_neg hc, if_neg hc]
end Go.Proofs.Ytebbnjgaikppgaa.PureConf
