import Derived.Test.YtlmmlhljflladaaPureEdges
import Derived.Test.YtlmmlhljflladaaPAx16
namespace Go.Proofs.Ytlmmlhljflladaa
open Go.RowKit Go.Proofs.YtlmmlhljflladaaW.PrintWords Go.Proofs.YtlmmlhljflladaaW.PrintLast Go.Proofs.YtlmmlhljflladaaW.PrintMore Go.Proofs.Ytlmmlhljflladaa.Pure Go.Proofs.Ytlmmlhljflladaa.PureFlt Go.Proofs.Ytlmmlhljflladaa.PureRank Go.Proofs.Ytlmmlhljflladaa.PureBin Go.Proofs.Ytlmmlhljflladaa.PureRight Go.Proofs.Ytlmmlhljflladaa.PureEdges Go.Proofs.Ytlmmlhljflladaa.PA
set_option linter.unusedVariables false
namespace PureEdgesOrder
theorem cnt_mono (e : List Nat) {f g : Nat} (h : key f ≤ key g) : cnt f e ≤ cnt g e := by
  unfold PureBin.cnt
  refine List.countP_mono_left fun x _ hx => ?_
  have := PureRight.cmp_le.1 (of_decide_eq_true hx)
  exact decide_eq_true (PureRight.cmp_le.2 (by omega))
theorem nan_key {f : Nat} (h : f < 18446744073709551616) : nan f ↔ key f = 0 := ⟨key_nan, fun e => by
  by_cases n : nan f
  · exact n
  · have := (key_pos h n).1; omega⟩
theorem bin_mono (e : List Nat) {f g : Nat} (hf : f < 18446744073709551616) (hg : g < 18446744073709551616) (h : key f ≤ key g) : binT e f ≤ binT e g := by
  have := cnt_mono e h
  unfold binT
  by_cases n : nan f
  · rw [if_pos n]; split <;> omega
  · have n2 : ¬ nan g := fun q => by have := (nan_key hg).1 q; have := (key_pos hf n).1; omega
    rw [if_neg n, if_neg n2]; omega
theorem bin_range (e : List Nat) (f : Nat) : 0 ≤ binT e f ∧ binT e f ≤ e.length + 1 := by
  have := PureRight.cnt_len f e
  unfold binT; split <;> omega
end PureEdgesOrder
open PureEdgesOrder in
theorem Pure.EdgesOrder : hornbeamlaw10_EdgesOrder.Pure := by
  rintro l a b ⟨hl1, hl2, hw⟩ ha hb
  obtain ⟨_, _, hf⟩ := wf64 ha
  obtain ⟨_, _, hg⟩ := wf64 hb
  have hW := of_w64 hw
  refine ⟨1000, ?_⟩
  unfold hornbeamlaw10_EdgesOrder.f
  by_cases h : (l.length : Int) > 300
  · rw [if_pos h, fixed_t (by omega)]; rfl
  rw [if_neg h, PureBin.of_f l (by omega) _ (by omega), Option.bind_some, bin_f _ _ hW hf (by simp; omega) _ (by simp; omega), Option.bind_some, bin_f _ _ hW hg (by simp; omega) _ (by simp; omega), Option.bind_some,
    ref_cmp' hf hg (by omega), Option.bind_some, fixed_t (by omega), Option.bind_some, if_pos rfl]
  have r1 := bin_range (l.map Flt.fbits) (Flt.fbits a)
  have hlen : (l.map Flt.fbits).length = l.length := by simp
  rw [hlen] at r1 ⊢
  rw [wrap_in (by omega) (by omega)]
  by_cases c : cmp (Flt.fbits a) (Flt.fbits b) > 0
  · rw [if_pos c, if_neg (by omega), if_pos r1.1, decide_eq_true r1.2]
  · have hk := PureRight.cmp_le.1 (show cmp (Flt.fbits a) (Flt.fbits b) ≤ 0 by omega)
    have m := bin_mono (l.map Flt.fbits) hf hg hk
    rw [if_neg c, if_pos m]
    by_cases z : cmp (Flt.fbits a) (Flt.fbits b) = 0
    · have hk2 : key (Flt.fbits b) ≤ key (Flt.fbits a) := by
        have : ¬ cmp (Flt.fbits a) (Flt.fbits b) < 0 := by omega
        rw [PureRight.cmp_neg] at this; omega
      have m2 := bin_mono (l.map Flt.fbits) hg hf hk2
      rw [if_pos z, if_pos (by omega), if_pos r1.1, decide_eq_true r1.2]
    · rw [if_neg z, if_pos r1.1, decide_eq_true r1.2]
end Go.Proofs.Ytlmmlhljflladaa
