-- Written by a program of this session (wip/hp) out of the translation of seat Ytlmmlhljflladaa.
import Derived.Test.YtlmmlhljflladaaPAx0
import Derived.Test.YtlmmlhljflladaaPAx2
namespace Go.Proofs.Ytlmmlhljflladaa.PA
open Go.RowKit Go.Proofs.YtlmmlhljflladaaW.PrintWords Go.Proofs.YtlmmlhljflladaaW.PrintLast Go.Proofs.YtlmmlhljflladaaW.PrintMore
attribute [local go_sem] max2_int min2_int max_two min_two max_three min_three max_four min_four   -- for this text's walks alone
attribute [local go_sem high] Flt.fold_eq Flt.fold_ne Flt.fold_lt Flt.fold_gt Flt.fold_le Flt.fold_ge Flt.run_bits Flt.run_frombits
set_option linter.unusedVariables false
set_option linter.unusedSimpArgs false

/-! ### hornbeamref06_Clean: function 49 -/
def hornbeamref06_Clean.f (a0 : Nat) : Option (Nat) := (hornbeamref06_Bits.f a0).bind fun t186 => (some (Flt.fbits t186))
set_option maxHeartbeats 8000000 in
set_option maxRecDepth 100000 in
theorem hornbeamref06_Clean.calls (a0 : Nat) (r : Nat) (w : World) (h : hornbeamref06_Clean.f a0 = some r) :
    Calls Try.prog 49 #[.float .f64 a0] w fun e w' => e = .returned (.float .f64 r) ∧ Drawn0 w w' := by
  have H : ((hornbeamref06_Bits.f a0).bind fun t186 => (some (Flt.fbits t186))) = some r := h
  clear h
  replace H := Option.bind_eq_some_iff.mp H
  obtain ⟨t186, A20, H⟩ := H
  replace H : (some (Flt.fbits t186)) = some r := H
  have A2 := Aside0.mk A20
  clear A20
  obtain rfl := Option.some.inj H
  go_enter Try.func49, Try.ntmps49
  go_wp2_with (first | ((with_reducible refine gate_callee (f := 24) rfl ?_); refine goesL_ (some 4) rfl rfl Try.func24 (by kernel_rfl) rfl #[.float .f64 a0] rfl (by (try simp only [List.map_toArray, List.map_cons, List.map_nil]); first | done | rfl | (simp only [List.length_drop, List.length_take]; rfl)) ?_; (with_reducible refine (hornbeamref06_Bits.calls a0 t186 _ A2.out).mono ?_); rintro e w' ⟨rfl, ⟨nd, rfl⟩⟩; refine ⟨_, rfl, ?_⟩))
  go_ret
  exact ⟨by first | rfl | (simp; done) | (simp [*]; done), by repeat (first | exact Drawn0.refl _ | apply Drawn0.step)⟩

end Go.Proofs.Ytlmmlhljflladaa.PA
