import Derived.Test.YtebbnjgaikppgaaPureTake
import Derived.Test.YtebbnjgaikppgaaPAx15
namespace Go.Proofs.Ytebbnjgaikppgaa
open Go.RowKit Go.Proofs.Ytebbnjgaikppgaa.Pure Go.Proofs.Ytebbnjgaikppgaa.PureTake Go.Proofs.Ytebbnjgaikppgaa.PA Go.Proofs.YtebbnjgaikppgaaW.PrintWords
set_option linter.unusedVariables false
theorem Pure.TakePuts : hornbeamlaw07_TakePuts.Pure := by
  intro l x n hl hx hn
  refine ⟨20, ?_⟩
  have hx1 := wf_u64 hx
  unfold hornbeamlaw07_TakePuts.f hornbeamlaw07_fixed.f
  by_cases h : (l.length : Int) > 300
  · rw [if_pos h]; rfl
  rw [if_neg h]
  have hc := cnt_le n
  have hb : (Flt.ubits (Flt.fbits x)) = x := by unfold Flt.ubits Flt.fbits; omega
  have hw : IntKind.u64.wrap (wrap64 x) = x := by
    simp only [IntKind.wrap, IntKind.bits, IntKind.signed, wrap64]; simp; omega
  unfold take_PutWhole.f take_PutValue.f
  rw [hb, hw, put_f l x n (by omega) _ (by omega), put_f l x 8 (by omega) _ (by omega), ref_put_f x n (by omega) (by omega) _ (by omega), ref_put_f x 8 (by omega) (by omega) _ (by omega)]
  simp only [Option.bind_some, if_true, ← strOf_append, strOf_size, be_len, show cnt 8 = 8 from rfl]
  rw [if_pos (by omega), if_pos (by omega)]
  simp
end Go.Proofs.Ytebbnjgaikppgaa
