-- Written by a program of this session (wip/hp) out of the translation of seat Ytlmmlhljflladaa.
import Derived.Test.YtlmmlhljflladaaPAx0
import Derived.Test.YtlmmlhljflladaaPAx1
import Derived.Test.YtlmmlhljflladaaPAx3
namespace Go.Proofs.Ytlmmlhljflladaa.PA
open Go.RowKit Go.Proofs.YtlmmlhljflladaaW.PrintWords Go.Proofs.YtlmmlhljflladaaW.PrintLast Go.Proofs.YtlmmlhljflladaaW.PrintMore
attribute [local go_sem] max2_int min2_int max_two min_two max_three min_three max_four min_four   -- for this text's walks alone
attribute [local go_sem high] Flt.fold_eq Flt.fold_ne Flt.fold_lt Flt.fold_gt Flt.fold_le Flt.fold_ge Flt.run_bits Flt.run_frombits
set_option linter.unusedVariables false
set_option linter.unusedSimpArgs false

/-! ### hornbeamlaw06_RankChains: function 6 -/
def hornbeamlaw06_RankChains.f (a0 : Int) (a1 : Int) (a2 : Int) : Option (Bool) := (rank_Cmp.f (Flt.fbits a0) (Flt.fbits a1)).bind fun t150 => ((rank_Cmp.f (Flt.fbits a1) (Flt.fbits a2)).bind fun t151 => ((rank_Cmp.f (Flt.fbits a0) (Flt.fbits a2)).bind fun t152 => ((hornbeamlaw06_fixed.f).bind fun t153 => (if t153 = true then (if t150 > 0 then (if t150 < 0 then ((rank_Cmp.f (Flt.fbits a1) (Flt.fbits a0)).bind fun t154 => (if t154 = (wrap64 (-t150)) then ((rank_Cmp.f (Flt.fbits a0) (Flt.fbits a0)).bind fun t155 => (some (t155 == 0))) else (some false))) else (if t151 < 0 then ((rank_Cmp.f (Flt.fbits a1) (Flt.fbits a0)).bind fun t156 => (if t156 = (wrap64 (-t150)) then ((rank_Cmp.f (Flt.fbits a0) (Flt.fbits a0)).bind fun t157 => (some (t157 == 0))) else (some false))) else (if t152 ≥ 0 then ((rank_Cmp.f (Flt.fbits a1) (Flt.fbits a0)).bind fun t158 => (if t158 = (wrap64 (-t150)) then ((rank_Cmp.f (Flt.fbits a0) (Flt.fbits a0)).bind fun t159 => (some (t159 == 0))) else (some false))) else (some false)))) else (if t151 > 0 then (if t150 < 0 then ((rank_Cmp.f (Flt.fbits a1) (Flt.fbits a0)).bind fun t160 => (if t160 = (wrap64 (-t150)) then ((rank_Cmp.f (Flt.fbits a0) (Flt.fbits a0)).bind fun t161 => (some (t161 == 0))) else (some false))) else (if t151 < 0 then ((rank_Cmp.f (Flt.fbits a1) (Flt.fbits a0)).bind fun t162 => (if t162 = (wrap64 (-t150)) then ((rank_Cmp.f (Flt.fbits a0) (Flt.fbits a0)).bind fun t163 => (some (t163 == 0))) else (some false))) else (if t152 ≥ 0 then ((rank_Cmp.f (Flt.fbits a1) (Flt.fbits a0)).bind fun t164 => (if t164 = (wrap64 (-t150)) then ((rank_Cmp.f (Flt.fbits a0) (Flt.fbits a0)).bind fun t165 => (some (t165 == 0))) else (some false))) else (some false)))) else (if t152 ≤ 0 then (if t150 < 0 then ((rank_Cmp.f (Flt.fbits a1) (Flt.fbits a0)).bind fun t166 => (if t166 = (wrap64 (-t150)) then ((rank_Cmp.f (Flt.fbits a0) (Flt.fbits a0)).bind fun t167 => (some (t167 == 0))) else (some false))) else (if t151 < 0 then ((rank_Cmp.f (Flt.fbits a1) (Flt.fbits a0)).bind fun t168 => (if t168 = (wrap64 (-t150)) then ((rank_Cmp.f (Flt.fbits a0) (Flt.fbits a0)).bind fun t169 => (some (t169 == 0))) else (some false))) else (if t152 ≥ 0 then ((rank_Cmp.f (Flt.fbits a1) (Flt.fbits a0)).bind fun t170 => (if t170 = (wrap64 (-t150)) then ((rank_Cmp.f (Flt.fbits a0) (Flt.fbits a0)).bind fun t171 => (some (t171 == 0))) else (some false))) else (some false)))) else (some false)))) else (some false)))))
set_option maxHeartbeats 8000000 in
set_option maxRecDepth 100000 in
theorem hornbeamlaw06_RankChains.calls (a0 : Int) (a1 : Int) (a2 : Int) (r : Bool) (w : World) (h : hornbeamlaw06_RankChains.f a0 a1 a2 = some r) :
    Calls Try.prog 6 #[.int .u64 a0, .int .u64 a1, .int .u64 a2] w fun e w' => e = .returned (.bool r) ∧ Drawn0 w w' := by
  have H : ((rank_Cmp.f (Flt.fbits a0) (Flt.fbits a1)).bind fun t150 => ((rank_Cmp.f (Flt.fbits a1) (Flt.fbits a2)).bind fun t151 => ((rank_Cmp.f (Flt.fbits a0) (Flt.fbits a2)).bind fun t152 => ((hornbeamlaw06_fixed.f).bind fun t153 => (if t153 = true then (if t150 > 0 then (if t150 < 0 then ((rank_Cmp.f (Flt.fbits a1) (Flt.fbits a0)).bind fun t154 => (if t154 = (wrap64 (-t150)) then ((rank_Cmp.f (Flt.fbits a0) (Flt.fbits a0)).bind fun t155 => (some (t155 == 0))) else (some false))) else (if t151 < 0 then ((rank_Cmp.f (Flt.fbits a1) (Flt.fbits a0)).bind fun t156 => (if t156 = (wrap64 (-t150)) then ((rank_Cmp.f (Flt.fbits a0) (Flt.fbits a0)).bind fun t157 => (some (t157 == 0))) else (some false))) else (if t152 ≥ 0 then ((rank_Cmp.f (Flt.fbits a1) (Flt.fbits a0)).bind fun t158 => (if t158 = (wrap64 (-t150)) then ((rank_Cmp.f (Flt.fbits a0) (Flt.fbits a0)).bind fun t159 => (some (t159 == 0))) else (some false))) else (some false)))) else (if t151 > 0 then (if t150 < 0 then ((rank_Cmp.f (Flt.fbits a1) (Flt.fbits a0)).bind fun t160 => (if t160 = (wrap64 (-t150)) then ((rank_Cmp.f (Flt.fbits a0) (Flt.fbits a0)).bind fun t161 => (some (t161 == 0))) else (some false))) else (if t151 < 0 then ((rank_Cmp.f (Flt.fbits a1) (Flt.fbits a0)).bind fun t162 => (if t162 = (wrap64 (-t150)) then ((rank_Cmp.f (Flt.fbits a0) (Flt.fbits a0)).bind fun t163 => (some (t163 == 0))) else (some false))) else (if t152 ≥ 0 then ((rank_Cmp.f (Flt.fbits a1) (Flt.fbits a0)).bind fun t164 => (if t164 = (wrap64 (-t150)) then ((rank_Cmp.f (Flt.fbits a0) (Flt.fbits a0)).bind fun t165 => (some (t165 == 0))) else (some false))) else (some false)))) else (if t152 ≤ 0 then (if t150 < 0 then ((rank_Cmp.f (Flt.fbits a1) (Flt.fbits a0)).bind fun t166 => (if t166 = (wrap64 (-t150)) then ((rank_Cmp.f (Flt.fbits a0) (Flt.fbits a0)).bind fun t167 => (some (t167 == 0))) else (some false))) else (if t151 < 0 then ((rank_Cmp.f (Flt.fbits a1) (Flt.fbits a0)).bind fun t168 => (if t168 = (wrap64 (-t150)) then ((rank_Cmp.f (Flt.fbits a0) (Flt.fbits a0)).bind fun t169 => (some (t169 == 0))) else (some false))) else (if t152 ≥ 0 then ((rank_Cmp.f (Flt.fbits a1) (Flt.fbits a0)).bind fun t170 => (if t170 = (wrap64 (-t150)) then ((rank_Cmp.f (Flt.fbits a0) (Flt.fbits a0)).bind fun t171 => (some (t171 == 0))) else (some false))) else (some false)))) else (some false)))) else (some false)))))) = some r := h
  clear h
  replace H := Option.bind_eq_some_iff.mp H
  obtain ⟨t150, A40, H⟩ := H
  replace H : ((rank_Cmp.f (Flt.fbits a1) (Flt.fbits a2)).bind fun t151 => ((rank_Cmp.f (Flt.fbits a0) (Flt.fbits a2)).bind fun t152 => ((hornbeamlaw06_fixed.f).bind fun t153 => (if t153 = true then (if t150 > 0 then (if t150 < 0 then ((rank_Cmp.f (Flt.fbits a1) (Flt.fbits a0)).bind fun t154 => (if t154 = (wrap64 (-t150)) then ((rank_Cmp.f (Flt.fbits a0) (Flt.fbits a0)).bind fun t155 => (some (t155 == 0))) else (some false))) else (if t151 < 0 then ((rank_Cmp.f (Flt.fbits a1) (Flt.fbits a0)).bind fun t156 => (if t156 = (wrap64 (-t150)) then ((rank_Cmp.f (Flt.fbits a0) (Flt.fbits a0)).bind fun t157 => (some (t157 == 0))) else (some false))) else (if t152 ≥ 0 then ((rank_Cmp.f (Flt.fbits a1) (Flt.fbits a0)).bind fun t158 => (if t158 = (wrap64 (-t150)) then ((rank_Cmp.f (Flt.fbits a0) (Flt.fbits a0)).bind fun t159 => (some (t159 == 0))) else (some false))) else (some false)))) else (if t151 > 0 then (if t150 < 0 then ((rank_Cmp.f (Flt.fbits a1) (Flt.fbits a0)).bind fun t160 => (if t160 = (wrap64 (-t150)) then ((rank_Cmp.f (Flt.fbits a0) (Flt.fbits a0)).bind fun t161 => (some (t161 == 0))) else (some false))) else (if t151 < 0 then ((rank_Cmp.f (Flt.fbits a1) (Flt.fbits a0)).bind fun t162 => (if t162 = (wrap64 (-t150)) then ((rank_Cmp.f (Flt.fbits a0) (Flt.fbits a0)).bind fun t163 => (some (t163 == 0))) else (some false))) else (if t152 ≥ 0 then ((rank_Cmp.f (Flt.fbits a1) (Flt.fbits a0)).bind fun t164 => (if t164 = (wrap64 (-t150)) then ((rank_Cmp.f (Flt.fbits a0) (Flt.fbits a0)).bind fun t165 => (some (t165 == 0))) else (some false))) else (some false)))) else (if t152 ≤ 0 then (if t150 < 0 then ((rank_Cmp.f (Flt.fbits a1) (Flt.fbits a0)).bind fun t166 => (if t166 = (wrap64 (-t150)) then ((rank_Cmp.f (Flt.fbits a0) (Flt.fbits a0)).bind fun t167 => (some (t167 == 0))) else (some false))) else (if t151 < 0 then ((rank_Cmp.f (Flt.fbits a1) (Flt.fbits a0)).bind fun t168 => (if t168 = (wrap64 (-t150)) then ((rank_Cmp.f (Flt.fbits a0) (Flt.fbits a0)).bind fun t169 => (some (t169 == 0))) else (some false))) else (if t152 ≥ 0 then ((rank_Cmp.f (Flt.fbits a1) (Flt.fbits a0)).bind fun t170 => (if t170 = (wrap64 (-t150)) then ((rank_Cmp.f (Flt.fbits a0) (Flt.fbits a0)).bind fun t171 => (some (t171 == 0))) else (some false))) else (some false)))) else (some false)))) else (some false))))) = some r := H
  have A4 := Aside0.mk A40
  clear A40
  replace H := Option.bind_eq_some_iff.mp H
  obtain ⟨t151, A50, H⟩ := H
  replace H : ((rank_Cmp.f (Flt.fbits a0) (Flt.fbits a2)).bind fun t152 => ((hornbeamlaw06_fixed.f).bind fun t153 => (if t153 = true then (if t150 > 0 then (if t150 < 0 then ((rank_Cmp.f (Flt.fbits a1) (Flt.fbits a0)).bind fun t154 => (if t154 = (wrap64 (-t150)) then ((rank_Cmp.f (Flt.fbits a0) (Flt.fbits a0)).bind fun t155 => (some (t155 == 0))) else (some false))) else (if t151 < 0 then ((rank_Cmp.f (Flt.fbits a1) (Flt.fbits a0)).bind fun t156 => (if t156 = (wrap64 (-t150)) then ((rank_Cmp.f (Flt.fbits a0) (Flt.fbits a0)).bind fun t157 => (some (t157 == 0))) else (some false))) else (if t152 ≥ 0 then ((rank_Cmp.f (Flt.fbits a1) (Flt.fbits a0)).bind fun t158 => (if t158 = (wrap64 (-t150)) then ((rank_Cmp.f (Flt.fbits a0) (Flt.fbits a0)).bind fun t159 => (some (t159 == 0))) else (some false))) else (some false)))) else (if t151 > 0 then (if t150 < 0 then ((rank_Cmp.f (Flt.fbits a1) (Flt.fbits a0)).bind fun t160 => (if t160 = (wrap64 (-t150)) then ((rank_Cmp.f (Flt.fbits a0) (Flt.fbits a0)).bind fun t161 => (some (t161 == 0))) else (some false))) else (if t151 < 0 then ((rank_Cmp.f (Flt.fbits a1) (Flt.fbits a0)).bind fun t162 => (if t162 = (wrap64 (-t150)) then ((rank_Cmp.f (Flt.fbits a0) (Flt.fbits a0)).bind fun t163 => (some (t163 == 0))) else (some false))) else (if t152 ≥ 0 then ((rank_Cmp.f (Flt.fbits a1) (Flt.fbits a0)).bind fun t164 => (if t164 = (wrap64 (-t150)) then ((rank_Cmp.f (Flt.fbits a0) (Flt.fbits a0)).bind fun t165 => (some (t165 == 0))) else (some false))) else (some false)))) else (if t152 ≤ 0 then (if t150 < 0 then ((rank_Cmp.f (Flt.fbits a1) (Flt.fbits a0)).bind fun t166 => (if t166 = (wrap64 (-t150)) then ((rank_Cmp.f (Flt.fbits a0) (Flt.fbits a0)).bind fun t167 => (some (t167 == 0))) else (some false))) else (if t151 < 0 then ((rank_Cmp.f (Flt.fbits a1) (Flt.fbits a0)).bind fun t168 => (if t168 = (wrap64 (-t150)) then ((rank_Cmp.f (Flt.fbits a0) (Flt.fbits a0)).bind fun t169 => (some (t169 == 0))) else (some false))) else (if t152 ≥ 0 then ((rank_Cmp.f (Flt.fbits a1) (Flt.fbits a0)).bind fun t170 => (if t170 = (wrap64 (-t150)) then ((rank_Cmp.f (Flt.fbits a0) (Flt.fbits a0)).bind fun t171 => (some (t171 == 0))) else (some false))) else (some false)))) else (some false)))) else (some false)))) = some r := H
  have A5 := Aside0.mk A50
  clear A50
  replace H := Option.bind_eq_some_iff.mp H
  obtain ⟨t152, A60, H⟩ := H
  replace H : ((hornbeamlaw06_fixed.f).bind fun t153 => (if t153 = true then (if t150 > 0 then (if t150 < 0 then ((rank_Cmp.f (Flt.fbits a1) (Flt.fbits a0)).bind fun t154 => (if t154 = (wrap64 (-t150)) then ((rank_Cmp.f (Flt.fbits a0) (Flt.fbits a0)).bind fun t155 => (some (t155 == 0))) else (some false))) else (if t151 < 0 then ((rank_Cmp.f (Flt.fbits a1) (Flt.fbits a0)).bind fun t156 => (if t156 = (wrap64 (-t150)) then ((rank_Cmp.f (Flt.fbits a0) (Flt.fbits a0)).bind fun t157 => (some (t157 == 0))) else (some false))) else (if t152 ≥ 0 then ((rank_Cmp.f (Flt.fbits a1) (Flt.fbits a0)).bind fun t158 => (if t158 = (wrap64 (-t150)) then ((rank_Cmp.f (Flt.fbits a0) (Flt.fbits a0)).bind fun t159 => (some (t159 == 0))) else (some false))) else (some false)))) else (if t151 > 0 then (if t150 < 0 then ((rank_Cmp.f (Flt.fbits a1) (Flt.fbits a0)).bind fun t160 => (if t160 = (wrap64 (-t150)) then ((rank_Cmp.f (Flt.fbits a0) (Flt.fbits a0)).bind fun t161 => (some (t161 == 0))) else (some false))) else (if t151 < 0 then ((rank_Cmp.f (Flt.fbits a1) (Flt.fbits a0)).bind fun t162 => (if t162 = (wrap64 (-t150)) then ((rank_Cmp.f (Flt.fbits a0) (Flt.fbits a0)).bind fun t163 => (some (t163 == 0))) else (some false))) else (if t152 ≥ 0 then ((rank_Cmp.f (Flt.fbits a1) (Flt.fbits a0)).bind fun t164 => (if t164 = (wrap64 (-t150)) then ((rank_Cmp.f (Flt.fbits a0) (Flt.fbits a0)).bind fun t165 => (some (t165 == 0))) else (some false))) else (some false)))) else (if t152 ≤ 0 then (if t150 < 0 then ((rank_Cmp.f (Flt.fbits a1) (Flt.fbits a0)).bind fun t166 => (if t166 = (wrap64 (-t150)) then ((rank_Cmp.f (Flt.fbits a0) (Flt.fbits a0)).bind fun t167 => (some (t167 == 0))) else (some false))) else (if t151 < 0 then ((rank_Cmp.f (Flt.fbits a1) (Flt.fbits a0)).bind fun t168 => (if t168 = (wrap64 (-t150)) then ((rank_Cmp.f (Flt.fbits a0) (Flt.fbits a0)).bind fun t169 => (some (t169 == 0))) else (some false))) else (if t152 ≥ 0 then ((rank_Cmp.f (Flt.fbits a1) (Flt.fbits a0)).bind fun t170 => (if t170 = (wrap64 (-t150)) then ((rank_Cmp.f (Flt.fbits a0) (Flt.fbits a0)).bind fun t171 => (some (t171 == 0))) else (some false))) else (some false)))) else (some false)))) else (some false))) = some r := H
  have A6 := Aside0.mk A60
  clear A60
  replace H := Option.bind_eq_some_iff.mp H
  obtain ⟨t153, A70, H⟩ := H
  replace H : (if t153 = true then (if t150 > 0 then (if t150 < 0 then ((rank_Cmp.f (Flt.fbits a1) (Flt.fbits a0)).bind fun t154 => (if t154 = (wrap64 (-t150)) then ((rank_Cmp.f (Flt.fbits a0) (Flt.fbits a0)).bind fun t155 => (some (t155 == 0))) else (some false))) else (if t151 < 0 then ((rank_Cmp.f (Flt.fbits a1) (Flt.fbits a0)).bind fun t156 => (if t156 = (wrap64 (-t150)) then ((rank_Cmp.f (Flt.fbits a0) (Flt.fbits a0)).bind fun t157 => (some (t157 == 0))) else (some false))) else (if t152 ≥ 0 then ((rank_Cmp.f (Flt.fbits a1) (Flt.fbits a0)).bind fun t158 => (if t158 = (wrap64 (-t150)) then ((rank_Cmp.f (Flt.fbits a0) (Flt.fbits a0)).bind fun t159 => (some (t159 == 0))) else (some false))) else (some false)))) else (if t151 > 0 then (if t150 < 0 then ((rank_Cmp.f (Flt.fbits a1) (Flt.fbits a0)).bind fun t160 => (if t160 = (wrap64 (-t150)) then ((rank_Cmp.f (Flt.fbits a0) (Flt.fbits a0)).bind fun t161 => (some (t161 == 0))) else (some false))) else (if t151 < 0 then ((rank_Cmp.f (Flt.fbits a1) (Flt.fbits a0)).bind fun t162 => (if t162 = (wrap64 (-t150)) then ((rank_Cmp.f (Flt.fbits a0) (Flt.fbits a0)).bind fun t163 => (some (t163 == 0))) else (some false))) else (if t152 ≥ 0 then ((rank_Cmp.f (Flt.fbits a1) (Flt.fbits a0)).bind fun t164 => (if t164 = (wrap64 (-t150)) then ((rank_Cmp.f (Flt.fbits a0) (Flt.fbits a0)).bind fun t165 => (some (t165 == 0))) else (some false))) else (some false)))) else (if t152 ≤ 0 then (if t150 < 0 then ((rank_Cmp.f (Flt.fbits a1) (Flt.fbits a0)).bind fun t166 => (if t166 = (wrap64 (-t150)) then ((rank_Cmp.f (Flt.fbits a0) (Flt.fbits a0)).bind fun t167 => (some (t167 == 0))) else (some false))) else (if t151 < 0 then ((rank_Cmp.f (Flt.fbits a1) (Flt.fbits a0)).bind fun t168 => (if t168 = (wrap64 (-t150)) then ((rank_Cmp.f (Flt.fbits a0) (Flt.fbits a0)).bind fun t169 => (some (t169 == 0))) else (some false))) else (if t152 ≥ 0 then ((rank_Cmp.f (Flt.fbits a1) (Flt.fbits a0)).bind fun t170 => (if t170 = (wrap64 (-t150)) then ((rank_Cmp.f (Flt.fbits a0) (Flt.fbits a0)).bind fun t171 => (some (t171 == 0))) else (some false))) else (some false)))) else (some false)))) else (some false)) = some r := H
  have A7 := Aside0.mk A70
  clear A70
  by_cases c8 : t153 = true
  · subst c8
    have H1 : (if t150 > 0 then (if t150 < 0 then ((rank_Cmp.f (Flt.fbits a1) (Flt.fbits a0)).bind fun t154 => (if t154 = (wrap64 (-t150)) then ((rank_Cmp.f (Flt.fbits a0) (Flt.fbits a0)).bind fun t155 => (some (t155 == 0))) else (some false))) else (if t151 < 0 then ((rank_Cmp.f (Flt.fbits a1) (Flt.fbits a0)).bind fun t156 => (if t156 = (wrap64 (-t150)) then ((rank_Cmp.f (Flt.fbits a0) (Flt.fbits a0)).bind fun t157 => (some (t157 == 0))) else (some false))) else (if t152 ≥ 0 then ((rank_Cmp.f (Flt.fbits a1) (Flt.fbits a0)).bind fun t158 => (if t158 = (wrap64 (-t150)) then ((rank_Cmp.f (Flt.fbits a0) (Flt.fbits a0)).bind fun t159 => (some (t159 == 0))) else (some false))) else (some false)))) else (if t151 > 0 then (if t150 < 0 then ((rank_Cmp.f (Flt.fbits a1) (Flt.fbits a0)).bind fun t160 => (if t160 = (wrap64 (-t150)) then ((rank_Cmp.f (Flt.fbits a0) (Flt.fbits a0)).bind fun t161 => (some (t161 == 0))) else (some false))) else (if t151 < 0 then ((rank_Cmp.f (Flt.fbits a1) (Flt.fbits a0)).bind fun t162 => (if t162 = (wrap64 (-t150)) then ((rank_Cmp.f (Flt.fbits a0) (Flt.fbits a0)).bind fun t163 => (some (t163 == 0))) else (some false))) else (if t152 ≥ 0 then ((rank_Cmp.f (Flt.fbits a1) (Flt.fbits a0)).bind fun t164 => (if t164 = (wrap64 (-t150)) then ((rank_Cmp.f (Flt.fbits a0) (Flt.fbits a0)).bind fun t165 => (some (t165 == 0))) else (some false))) else (some false)))) else (if t152 ≤ 0 then (if t150 < 0 then ((rank_Cmp.f (Flt.fbits a1) (Flt.fbits a0)).bind fun t166 => (if t166 = (wrap64 (-t150)) then ((rank_Cmp.f (Flt.fbits a0) (Flt.fbits a0)).bind fun t167 => (some (t167 == 0))) else (some false))) else (if t151 < 0 then ((rank_Cmp.f (Flt.fbits a1) (Flt.fbits a0)).bind fun t168 => (if t168 = (wrap64 (-t150)) then ((rank_Cmp.f (Flt.fbits a0) (Flt.fbits a0)).bind fun t169 => (some (t169 == 0))) else (some false))) else (if t152 ≥ 0 then ((rank_Cmp.f (Flt.fbits a1) (Flt.fbits a0)).bind fun t170 => (if t170 = (wrap64 (-t150)) then ((rank_Cmp.f (Flt.fbits a0) (Flt.fbits a0)).bind fun t171 => (some (t171 == 0))) else (some false))) else (some false)))) else (some false)))) = some r := by rw [if_pos rfl] at H; exact H
    clear H
    have H := H1
    clear H1
    by_cases c9 : t150 > 0
    · rw [if_pos c9] at H
      have c9b0 : decide (0 < t150) = true := decide_eq_true c9
      clear c9
      by_cases c10 : t150 < 0
      · rw [if_pos c10] at H
        have c10b0 : decide (t150 < 0) = true := decide_eq_true c10
        clear c10
        replace H := Option.bind_eq_some_iff.mp H
        obtain ⟨t154, A110, H⟩ := H
        replace H : (if t154 = (wrap64 (-t150)) then ((rank_Cmp.f (Flt.fbits a0) (Flt.fbits a0)).bind fun t155 => (some (t155 == 0))) else (some false)) = some r := H
        have A11 := Aside0.mk A110
        clear A110
        by_cases c12 : t154 = (wrap64 (-t150))
        · rw [if_pos c12] at H
          have c12b0 : (t154 == (wrap64 (-t150))) = true := beq_iff_eq.mpr c12
          have c12b1 : (t154 != (wrap64 (-t150))) = false := bne_eq_false_iff_eq.mpr c12
          clear c12
          replace H := Option.bind_eq_some_iff.mp H
          obtain ⟨t155, A130, H⟩ := H
          replace H : (some (t155 == 0)) = some r := H
          have A13 := Aside0.mk A130
          clear A130
          obtain rfl := Option.some.inj H
          go_enter Try.func6, Try.ntmps6
          go_wp2_with (first | ((with_reducible refine gate_callee (f := 26) rfl ?_); refine goesL_ (some 21) rfl rfl Try.func26 (by kernel_rfl) rfl #[.float .f64 (Flt.fbits a0), .float .f64 (Flt.fbits a1)] rfl (by (try simp only [List.map_toArray, List.map_cons, List.map_nil]); first | done | rfl | (simp only [List.length_drop, List.length_take]; rfl)) ?_; (with_reducible refine (rank_Cmp.calls (Flt.fbits a0) (Flt.fbits a1) t150 _ A4.out).mono ?_); rintro e w' ⟨rfl, ⟨nd, rfl⟩⟩; refine ⟨_, rfl, ?_⟩) | ((with_reducible refine gate_callee (f := 26) rfl ?_); refine goesL_ (some 24) rfl rfl Try.func26 (by kernel_rfl) rfl #[.float .f64 (Flt.fbits a1), .float .f64 (Flt.fbits a2)] rfl (by (try simp only [List.map_toArray, List.map_cons, List.map_nil]); first | done | rfl | (simp only [List.length_drop, List.length_take]; rfl)) ?_; (with_reducible refine (rank_Cmp.calls (Flt.fbits a1) (Flt.fbits a2) t151 _ A5.out).mono ?_); rintro e w' ⟨rfl, ⟨nd, rfl⟩⟩; refine ⟨_, rfl, ?_⟩) | ((with_reducible refine gate_callee (f := 26) rfl ?_); refine goesL_ (some 27) rfl rfl Try.func26 (by kernel_rfl) rfl #[.float .f64 (Flt.fbits a0), .float .f64 (Flt.fbits a2)] rfl (by (try simp only [List.map_toArray, List.map_cons, List.map_nil]); first | done | rfl | (simp only [List.length_drop, List.length_take]; rfl)) ?_; (with_reducible refine (rank_Cmp.calls (Flt.fbits a0) (Flt.fbits a2) t152 _ A6.out).mono ?_); rintro e w' ⟨rfl, ⟨nd, rfl⟩⟩; refine ⟨_, rfl, ?_⟩) | ((with_reducible refine gate_callee (f := 19) rfl ?_); refine goesL_ (some 28) rfl rfl Try.func19 (by kernel_rfl) rfl #[] rfl (by (try simp only [List.map_toArray, List.map_cons, List.map_nil]); first | done | rfl | (simp only [List.length_drop, List.length_take]; rfl)) ?_; (with_reducible refine (hornbeamlaw06_fixed.calls  true _ A7.out).mono ?_); rintro e w' ⟨rfl, ⟨nd, rfl⟩⟩; refine ⟨_, rfl, ?_⟩) | (go_at_call 26; (with_reducible refine (rank_Cmp.calls (Flt.fbits a1) (Flt.fbits a0) t154 _ A11.out).mono ?_); rintro e w' ⟨rfl, ⟨nd, rfl⟩⟩) | (go_at_call 26; (with_reducible refine (rank_Cmp.calls (Flt.fbits a0) (Flt.fbits a0) t155 _ A13.out).mono ?_); rintro e w' ⟨rfl, ⟨nd, rfl⟩⟩))
          go_ret
          exact ⟨by first | rfl | (simp; done) | (simp [*]; done), by repeat (first | exact Drawn0.refl _ | apply Drawn0.step)⟩
        · rw [if_neg c12] at H
          have c12b0 : (t154 == (wrap64 (-t150))) = false := beq_eq_false_iff_ne.mpr c12
          have c12b1 : (t154 != (wrap64 (-t150))) = true := bne_iff_ne.mpr c12
          obtain rfl := Option.some.inj H
          go_enter Try.func6, Try.ntmps6
          go_wp2_with (first | ((with_reducible refine gate_callee (f := 26) rfl ?_); refine goesL_ (some 21) rfl rfl Try.func26 (by kernel_rfl) rfl #[.float .f64 (Flt.fbits a0), .float .f64 (Flt.fbits a1)] rfl (by (try simp only [List.map_toArray, List.map_cons, List.map_nil]); first | done | rfl | (simp only [List.length_drop, List.length_take]; rfl)) ?_; (with_reducible refine (rank_Cmp.calls (Flt.fbits a0) (Flt.fbits a1) t150 _ A4.out).mono ?_); rintro e w' ⟨rfl, ⟨nd, rfl⟩⟩; refine ⟨_, rfl, ?_⟩) | ((with_reducible refine gate_callee (f := 26) rfl ?_); refine goesL_ (some 24) rfl rfl Try.func26 (by kernel_rfl) rfl #[.float .f64 (Flt.fbits a1), .float .f64 (Flt.fbits a2)] rfl (by (try simp only [List.map_toArray, List.map_cons, List.map_nil]); first | done | rfl | (simp only [List.length_drop, List.length_take]; rfl)) ?_; (with_reducible refine (rank_Cmp.calls (Flt.fbits a1) (Flt.fbits a2) t151 _ A5.out).mono ?_); rintro e w' ⟨rfl, ⟨nd, rfl⟩⟩; refine ⟨_, rfl, ?_⟩) | ((with_reducible refine gate_callee (f := 26) rfl ?_); refine goesL_ (some 27) rfl rfl Try.func26 (by kernel_rfl) rfl #[.float .f64 (Flt.fbits a0), .float .f64 (Flt.fbits a2)] rfl (by (try simp only [List.map_toArray, List.map_cons, List.map_nil]); first | done | rfl | (simp only [List.length_drop, List.length_take]; rfl)) ?_; (with_reducible refine (rank_Cmp.calls (Flt.fbits a0) (Flt.fbits a2) t152 _ A6.out).mono ?_); rintro e w' ⟨rfl, ⟨nd, rfl⟩⟩; refine ⟨_, rfl, ?_⟩) | ((with_reducible refine gate_callee (f := 19) rfl ?_); refine goesL_ (some 28) rfl rfl Try.func19 (by kernel_rfl) rfl #[] rfl (by (try simp only [List.map_toArray, List.map_cons, List.map_nil]); first | done | rfl | (simp only [List.length_drop, List.length_take]; rfl)) ?_; (with_reducible refine (hornbeamlaw06_fixed.calls  true _ A7.out).mono ?_); rintro e w' ⟨rfl, ⟨nd, rfl⟩⟩; refine ⟨_, rfl, ?_⟩) | (go_at_call 26; (with_reducible refine (rank_Cmp.calls (Flt.fbits a1) (Flt.fbits a0) t154 _ A11.out).mono ?_); rintro e w' ⟨rfl, ⟨nd, rfl⟩⟩))
          go_ret
          exact ⟨by first | rfl | (simp; done) | (simp [*]; done), by repeat (first | exact Drawn0.refl _ | apply Drawn0.step)⟩
      · rw [if_neg c10] at H
        have c10b0 : decide (t150 < 0) = false := decide_eq_false c10
        clear c10
        by_cases c14 : t151 < 0
        · rw [if_pos c14] at H
          have c14b0 : decide (t151 < 0) = true := decide_eq_true c14
          clear c14
          replace H := Option.bind_eq_some_iff.mp H
          obtain ⟨t156, A150, H⟩ := H
          replace H : (if t156 = (wrap64 (-t150)) then ((rank_Cmp.f (Flt.fbits a0) (Flt.fbits a0)).bind fun t157 => (some (t157 == 0))) else (some false)) = some r := H
          have A15 := Aside0.mk A150
          clear A150
          by_cases c16 : t156 = (wrap64 (-t150))
          · rw [if_pos c16] at H
            have c16b0 : (t156 == (wrap64 (-t150))) = true := beq_iff_eq.mpr c16
            have c16b1 : (t156 != (wrap64 (-t150))) = false := bne_eq_false_iff_eq.mpr c16
            clear c16
            replace H := Option.bind_eq_some_iff.mp H
            obtain ⟨t157, A170, H⟩ := H
            replace H : (some (t157 == 0)) = some r := H
            have A17 := Aside0.mk A170
            clear A170
            obtain rfl := Option.some.inj H
            go_enter Try.func6, Try.ntmps6
            go_wp2_with (first | ((with_reducible refine gate_callee (f := 26) rfl ?_); refine goesL_ (some 21) rfl rfl Try.func26 (by kernel_rfl) rfl #[.float .f64 (Flt.fbits a0), .float .f64 (Flt.fbits a1)] rfl (by (try simp only [List.map_toArray, List.map_cons, List.map_nil]); first | done | rfl | (simp only [List.length_drop, List.length_take]; rfl)) ?_; (with_reducible refine (rank_Cmp.calls (Flt.fbits a0) (Flt.fbits a1) t150 _ A4.out).mono ?_); rintro e w' ⟨rfl, ⟨nd, rfl⟩⟩; refine ⟨_, rfl, ?_⟩) | ((with_reducible refine gate_callee (f := 26) rfl ?_); refine goesL_ (some 24) rfl rfl Try.func26 (by kernel_rfl) rfl #[.float .f64 (Flt.fbits a1), .float .f64 (Flt.fbits a2)] rfl (by (try simp only [List.map_toArray, List.map_cons, List.map_nil]); first | done | rfl | (simp only [List.length_drop, List.length_take]; rfl)) ?_; (with_reducible refine (rank_Cmp.calls (Flt.fbits a1) (Flt.fbits a2) t151 _ A5.out).mono ?_); rintro e w' ⟨rfl, ⟨nd, rfl⟩⟩; refine ⟨_, rfl, ?_⟩) | ((with_reducible refine gate_callee (f := 26) rfl ?_); refine goesL_ (some 27) rfl rfl Try.func26 (by kernel_rfl) rfl #[.float .f64 (Flt.fbits a0), .float .f64 (Flt.fbits a2)] rfl (by (try simp only [List.map_toArray, List.map_cons, List.map_nil]); first | done | rfl | (simp only [List.length_drop, List.length_take]; rfl)) ?_; (with_reducible refine (rank_Cmp.calls (Flt.fbits a0) (Flt.fbits a2) t152 _ A6.out).mono ?_); rintro e w' ⟨rfl, ⟨nd, rfl⟩⟩; refine ⟨_, rfl, ?_⟩) | ((with_reducible refine gate_callee (f := 19) rfl ?_); refine goesL_ (some 28) rfl rfl Try.func19 (by kernel_rfl) rfl #[] rfl (by (try simp only [List.map_toArray, List.map_cons, List.map_nil]); first | done | rfl | (simp only [List.length_drop, List.length_take]; rfl)) ?_; (with_reducible refine (hornbeamlaw06_fixed.calls  true _ A7.out).mono ?_); rintro e w' ⟨rfl, ⟨nd, rfl⟩⟩; refine ⟨_, rfl, ?_⟩) | (go_at_call 26; (with_reducible refine (rank_Cmp.calls (Flt.fbits a1) (Flt.fbits a0) t156 _ A15.out).mono ?_); rintro e w' ⟨rfl, ⟨nd, rfl⟩⟩) | (go_at_call 26; (with_reducible refine (rank_Cmp.calls (Flt.fbits a0) (Flt.fbits a0) t157 _ A17.out).mono ?_); rintro e w' ⟨rfl, ⟨nd, rfl⟩⟩))
            go_ret
            exact ⟨by first | rfl | (simp; done) | (simp [*]; done), by repeat (first | exact Drawn0.refl _ | apply Drawn0.step)⟩
          · rw [if_neg c16] at H
            have c16b0 : (t156 == (wrap64 (-t150))) = false := beq_eq_false_iff_ne.mpr c16
            have c16b1 : (t156 != (wrap64 (-t150))) = true := bne_iff_ne.mpr c16
            obtain rfl := Option.some.inj H
            go_enter Try.func6, Try.ntmps6
            go_wp2_with (first | ((with_reducible refine gate_callee (f := 26) rfl ?_); refine goesL_ (some 21) rfl rfl Try.func26 (by kernel_rfl) rfl #[.float .f64 (Flt.fbits a0), .float .f64 (Flt.fbits a1)] rfl (by (try simp only [List.map_toArray, List.map_cons, List.map_nil]); first | done | rfl | (simp only [List.length_drop, List.length_take]; rfl)) ?_; (with_reducible refine (rank_Cmp.calls (Flt.fbits a0) (Flt.fbits a1) t150 _ A4.out).mono ?_); rintro e w' ⟨rfl, ⟨nd, rfl⟩⟩; refine ⟨_, rfl, ?_⟩) | ((with_reducible refine gate_callee (f := 26) rfl ?_); refine goesL_ (some 24) rfl rfl Try.func26 (by kernel_rfl) rfl #[.float .f64 (Flt.fbits a1), .float .f64 (Flt.fbits a2)] rfl (by (try simp only [List.map_toArray, List.map_cons, List.map_nil]); first | done | rfl | (simp only [List.length_drop, List.length_take]; rfl)) ?_; (with_reducible refine (rank_Cmp.calls (Flt.fbits a1) (Flt.fbits a2) t151 _ A5.out).mono ?_); rintro e w' ⟨rfl, ⟨nd, rfl⟩⟩; refine ⟨_, rfl, ?_⟩) | ((with_reducible refine gate_callee (f := 26) rfl ?_); refine goesL_ (some 27) rfl rfl Try.func26 (by kernel_rfl) rfl #[.float .f64 (Flt.fbits a0), .float .f64 (Flt.fbits a2)] rfl (by (try simp only [List.map_toArray, List.map_cons, List.map_nil]); first | done | rfl | (simp only [List.length_drop, List.length_take]; rfl)) ?_; (with_reducible refine (rank_Cmp.calls (Flt.fbits a0) (Flt.fbits a2) t152 _ A6.out).mono ?_); rintro e w' ⟨rfl, ⟨nd, rfl⟩⟩; refine ⟨_, rfl, ?_⟩) | ((with_reducible refine gate_callee (f := 19) rfl ?_); refine goesL_ (some 28) rfl rfl Try.func19 (by kernel_rfl) rfl #[] rfl (by (try simp only [List.map_toArray, List.map_cons, List.map_nil]); first | done | rfl | (simp only [List.length_drop, List.length_take]; rfl)) ?_; (with_reducible refine (hornbeamlaw06_fixed.calls  true _ A7.out).mono ?_); rintro e w' ⟨rfl, ⟨nd, rfl⟩⟩; refine ⟨_, rfl, ?_⟩) | (go_at_call 26; (with_reducible refine (rank_Cmp.calls (Flt.fbits a1) (Flt.fbits a0) t156 _ A15.out).mono ?_); rintro e w' ⟨rfl, ⟨nd, rfl⟩⟩))
            go_ret
            exact ⟨by first | rfl | (simp; done) | (simp [*]; done), by repeat (first | exact Drawn0.refl _ | apply Drawn0.step)⟩
        · rw [if_neg c14] at H
          have c14b0 : decide (t151 < 0) = false := decide_eq_false c14
          clear c14
          by_cases c18 : t152 ≥ 0
          · rw [if_pos c18] at H
            have c18b0 : decide (0 ≤ t152) = true := decide_eq_true c18
            clear c18
            replace H := Option.bind_eq_some_iff.mp H
            obtain ⟨t158, A190, H⟩ := H
            replace H : (if t158 = (wrap64 (-t150)) then ((rank_Cmp.f (Flt.fbits a0) (Flt.fbits a0)).bind fun t159 => (some (t159 == 0))) else (some false)) = some r := H
            have A19 := Aside0.mk A190
            clear A190
            by_cases c20 : t158 = (wrap64 (-t150))
            · rw [if_pos c20] at H
              have c20b0 : (t158 == (wrap64 (-t150))) = true := beq_iff_eq.mpr c20
              have c20b1 : (t158 != (wrap64 (-t150))) = false := bne_eq_false_iff_eq.mpr c20
              clear c20
              replace H := Option.bind_eq_some_iff.mp H
              obtain ⟨t159, A210, H⟩ := H
              replace H : (some (t159 == 0)) = some r := H
              have A21 := Aside0.mk A210
              clear A210
              obtain rfl := Option.some.inj H
              go_enter Try.func6, Try.ntmps6
              go_wp2_with (first | ((with_reducible refine gate_callee (f := 26) rfl ?_); refine goesL_ (some 21) rfl rfl Try.func26 (by kernel_rfl) rfl #[.float .f64 (Flt.fbits a0), .float .f64 (Flt.fbits a1)] rfl (by (try simp only [List.map_toArray, List.map_cons, List.map_nil]); first | done | rfl | (simp only [List.length_drop, List.length_take]; rfl)) ?_; (with_reducible refine (rank_Cmp.calls (Flt.fbits a0) (Flt.fbits a1) t150 _ A4.out).mono ?_); rintro e w' ⟨rfl, ⟨nd, rfl⟩⟩; refine ⟨_, rfl, ?_⟩) | ((with_reducible refine gate_callee (f := 26) rfl ?_); refine goesL_ (some 24) rfl rfl Try.func26 (by kernel_rfl) rfl #[.float .f64 (Flt.fbits a1), .float .f64 (Flt.fbits a2)] rfl (by (try simp only [List.map_toArray, List.map_cons, List.map_nil]); first | done | rfl | (simp only [List.length_drop, List.length_take]; rfl)) ?_; (with_reducible refine (rank_Cmp.calls (Flt.fbits a1) (Flt.fbits a2) t151 _ A5.out).mono ?_); rintro e w' ⟨rfl, ⟨nd, rfl⟩⟩; refine ⟨_, rfl, ?_⟩) | ((with_reducible refine gate_callee (f := 26) rfl ?_); refine goesL_ (some 27) rfl rfl Try.func26 (by kernel_rfl) rfl #[.float .f64 (Flt.fbits a0), .float .f64 (Flt.fbits a2)] rfl (by (try simp only [List.map_toArray, List.map_cons, List.map_nil]); first | done | rfl | (simp only [List.length_drop, List.length_take]; rfl)) ?_; (with_reducible refine (rank_Cmp.calls (Flt.fbits a0) (Flt.fbits a2) t152 _ A6.out).mono ?_); rintro e w' ⟨rfl, ⟨nd, rfl⟩⟩; refine ⟨_, rfl, ?_⟩) | ((with_reducible refine gate_callee (f := 19) rfl ?_); refine goesL_ (some 28) rfl rfl Try.func19 (by kernel_rfl) rfl #[] rfl (by (try simp only [List.map_toArray, List.map_cons, List.map_nil]); first | done | rfl | (simp only [List.length_drop, List.length_take]; rfl)) ?_; (with_reducible refine (hornbeamlaw06_fixed.calls  true _ A7.out).mono ?_); rintro e w' ⟨rfl, ⟨nd, rfl⟩⟩; refine ⟨_, rfl, ?_⟩) | (go_at_call 26; (with_reducible refine (rank_Cmp.calls (Flt.fbits a1) (Flt.fbits a0) t158 _ A19.out).mono ?_); rintro e w' ⟨rfl, ⟨nd, rfl⟩⟩) | (go_at_call 26; (with_reducible refine (rank_Cmp.calls (Flt.fbits a0) (Flt.fbits a0) t159 _ A21.out).mono ?_); rintro e w' ⟨rfl, ⟨nd, rfl⟩⟩))
              go_ret
              exact ⟨by first | rfl | (simp; done) | (simp [*]; done), by repeat (first | exact Drawn0.refl _ | apply Drawn0.step)⟩
            · rw [if_neg c20] at H
              have c20b0 : (t158 == (wrap64 (-t150))) = false := beq_eq_false_iff_ne.mpr c20
              have c20b1 : (t158 != (wrap64 (-t150))) = true := bne_iff_ne.mpr c20
              obtain rfl := Option.some.inj H
              go_enter Try.func6, Try.ntmps6
              go_wp2_with (first | ((with_reducible refine gate_callee (f := 26) rfl ?_); refine goesL_ (some 21) rfl rfl Try.func26 (by kernel_rfl) rfl #[.float .f64 (Flt.fbits a0), .float .f64 (Flt.fbits a1)] rfl (by (try simp only [List.map_toArray, List.map_cons, List.map_nil]); first | done | rfl | (simp only [List.length_drop, List.length_take]; rfl)) ?_; (with_reducible refine (rank_Cmp.calls (Flt.fbits a0) (Flt.fbits a1) t150 _ A4.out).mono ?_); rintro e w' ⟨rfl, ⟨nd, rfl⟩⟩; refine ⟨_, rfl, ?_⟩) | ((with_reducible refine gate_callee (f := 26) rfl ?_); refine goesL_ (some 24) rfl rfl Try.func26 (by kernel_rfl) rfl #[.float .f64 (Flt.fbits a1), .float .f64 (Flt.fbits a2)] rfl (by (try simp only [List.map_toArray, List.map_cons, List.map_nil]); first | done | rfl | (simp only [List.length_drop, List.length_take]; rfl)) ?_; (with_reducible refine (rank_Cmp.calls (Flt.fbits a1) (Flt.fbits a2) t151 _ A5.out).mono ?_); rintro e w' ⟨rfl, ⟨nd, rfl⟩⟩; refine ⟨_, rfl, ?_⟩) | ((with_reducible refine gate_callee (f := 26) rfl ?_); refine goesL_ (some 27) rfl rfl Try.func26 (by kernel_rfl) rfl #[.float .f64 (Flt.fbits a0), .float .f64 (Flt.fbits a2)] rfl (by (try simp only [List.map_toArray, List.map_cons, List.map_nil]); first | done | rfl | (simp only [List.length_drop, List.length_take]; rfl)) ?_; (with_reducible refine (rank_Cmp.calls (Flt.fbits a0) (Flt.fbits a2) t152 _ A6.out).mono ?_); rintro e w' ⟨rfl, ⟨nd, rfl⟩⟩; refine ⟨_, rfl, ?_⟩) | ((with_reducible refine gate_callee (f := 19) rfl ?_); refine goesL_ (some 28) rfl rfl Try.func19 (by kernel_rfl) rfl #[] rfl (by (try simp only [List.map_toArray, List.map_cons, List.map_nil]); first | done | rfl | (simp only [List.length_drop, List.length_take]; rfl)) ?_; (with_reducible refine (hornbeamlaw06_fixed.calls  true _ A7.out).mono ?_); rintro e w' ⟨rfl, ⟨nd, rfl⟩⟩; refine ⟨_, rfl, ?_⟩) | (go_at_call 26; (with_reducible refine (rank_Cmp.calls (Flt.fbits a1) (Flt.fbits a0) t158 _ A19.out).mono ?_); rintro e w' ⟨rfl, ⟨nd, rfl⟩⟩))
              go_ret
              exact ⟨by first | rfl | (simp; done) | (simp [*]; done), by repeat (first | exact Drawn0.refl _ | apply Drawn0.step)⟩
          · rw [if_neg c18] at H
            have c18b0 : decide (0 ≤ t152) = false := decide_eq_false c18
            clear c18
            obtain rfl := Option.some.inj H
            go_enter Try.func6, Try.ntmps6
            go_wp2_with (first | ((with_reducible refine gate_callee (f := 26) rfl ?_); refine goesL_ (some 21) rfl rfl Try.func26 (by kernel_rfl) rfl #[.float .f64 (Flt.fbits a0), .float .f64 (Flt.fbits a1)] rfl (by (try simp only [List.map_toArray, List.map_cons, List.map_nil]); first | done | rfl | (simp only [List.length_drop, List.length_take]; rfl)) ?_; (with_reducible refine (rank_Cmp.calls (Flt.fbits a0) (Flt.fbits a1) t150 _ A4.out).mono ?_); rintro e w' ⟨rfl, ⟨nd, rfl⟩⟩; refine ⟨_, rfl, ?_⟩) | ((with_reducible refine gate_callee (f := 26) rfl ?_); refine goesL_ (some 24) rfl rfl Try.func26 (by kernel_rfl) rfl #[.float .f64 (Flt.fbits a1), .float .f64 (Flt.fbits a2)] rfl (by (try simp only [List.map_toArray, List.map_cons, List.map_nil]); first | done | rfl | (simp only [List.length_drop, List.length_take]; rfl)) ?_; (with_reducible refine (rank_Cmp.calls (Flt.fbits a1) (Flt.fbits a2) t151 _ A5.out).mono ?_); rintro e w' ⟨rfl, ⟨nd, rfl⟩⟩; refine ⟨_, rfl, ?_⟩) | ((with_reducible refine gate_callee (f := 26) rfl ?_); refine goesL_ (some 27) rfl rfl Try.func26 (by kernel_rfl) rfl #[.float .f64 (Flt.fbits a0), .float .f64 (Flt.fbits a2)] rfl (by (try simp only [List.map_toArray, List.map_cons, List.map_nil]); first | done | rfl | (simp only [List.length_drop, List.length_take]; rfl)) ?_; (with_reducible refine (rank_Cmp.calls (Flt.fbits a0) (Flt.fbits a2) t152 _ A6.out).mono ?_); rintro e w' ⟨rfl, ⟨nd, rfl⟩⟩; refine ⟨_, rfl, ?_⟩) | ((with_reducible refine gate_callee (f := 19) rfl ?_); refine goesL_ (some 28) rfl rfl Try.func19 (by kernel_rfl) rfl #[] rfl (by (try simp only [List.map_toArray, List.map_cons, List.map_nil]); first | done | rfl | (simp only [List.length_drop, List.length_take]; rfl)) ?_; (with_reducible refine (hornbeamlaw06_fixed.calls  true _ A7.out).mono ?_); rintro e w' ⟨rfl, ⟨nd, rfl⟩⟩; refine ⟨_, rfl, ?_⟩))
            go_ret
            exact ⟨by first | rfl | (simp; done) | (simp [*]; done), by repeat (first | exact Drawn0.refl _ | apply Drawn0.step)⟩
    · rw [if_neg c9] at H
      have c9b0 : decide (0 < t150) = false := decide_eq_false c9
      clear c9
      by_cases c22 : t151 > 0
      · rw [if_pos c22] at H
        have c22b0 : decide (0 < t151) = true := decide_eq_true c22
        clear c22
        by_cases c23 : t150 < 0
        · rw [if_pos c23] at H
          have c23b0 : decide (t150 < 0) = true := decide_eq_true c23
          clear c23
          replace H := Option.bind_eq_some_iff.mp H
          obtain ⟨t160, A240, H⟩ := H
          replace H : (if t160 = (wrap64 (-t150)) then ((rank_Cmp.f (Flt.fbits a0) (Flt.fbits a0)).bind fun t161 => (some (t161 == 0))) else (some false)) = some r := H
          have A24 := Aside0.mk A240
          clear A240
          by_cases c25 : t160 = (wrap64 (-t150))
          · rw [if_pos c25] at H
            have c25b0 : (t160 == (wrap64 (-t150))) = true := beq_iff_eq.mpr c25
            have c25b1 : (t160 != (wrap64 (-t150))) = false := bne_eq_false_iff_eq.mpr c25
            clear c25
            replace H := Option.bind_eq_some_iff.mp H
            obtain ⟨t161, A260, H⟩ := H
            replace H : (some (t161 == 0)) = some r := H
            have A26 := Aside0.mk A260
            clear A260
            obtain rfl := Option.some.inj H
            go_enter Try.func6, Try.ntmps6
            go_wp2_with (first | ((with_reducible refine gate_callee (f := 26) rfl ?_); refine goesL_ (some 21) rfl rfl Try.func26 (by kernel_rfl) rfl #[.float .f64 (Flt.fbits a0), .float .f64 (Flt.fbits a1)] rfl (by (try simp only [List.map_toArray, List.map_cons, List.map_nil]); first | done | rfl | (simp only [List.length_drop, List.length_take]; rfl)) ?_; (with_reducible refine (rank_Cmp.calls (Flt.fbits a0) (Flt.fbits a1) t150 _ A4.out).mono ?_); rintro e w' ⟨rfl, ⟨nd, rfl⟩⟩; refine ⟨_, rfl, ?_⟩) | ((with_reducible refine gate_callee (f := 26) rfl ?_); refine goesL_ (some 24) rfl rfl Try.func26 (by kernel_rfl) rfl #[.float .f64 (Flt.fbits a1), .float .f64 (Flt.fbits a2)] rfl (by (try simp only [List.map_toArray, List.map_cons, List.map_nil]); first | done | rfl | (simp only [List.length_drop, List.length_take]; rfl)) ?_; (with_reducible refine (rank_Cmp.calls (Flt.fbits a1) (Flt.fbits a2) t151 _ A5.out).mono ?_); rintro e w' ⟨rfl, ⟨nd, rfl⟩⟩; refine ⟨_, rfl, ?_⟩) | ((with_reducible refine gate_callee (f := 26) rfl ?_); refine goesL_ (some 27) rfl rfl Try.func26 (by kernel_rfl) rfl #[.float .f64 (Flt.fbits a0), .float .f64 (Flt.fbits a2)] rfl (by (try simp only [List.map_toArray, List.map_cons, List.map_nil]); first | done | rfl | (simp only [List.length_drop, List.length_take]; rfl)) ?_; (with_reducible refine (rank_Cmp.calls (Flt.fbits a0) (Flt.fbits a2) t152 _ A6.out).mono ?_); rintro e w' ⟨rfl, ⟨nd, rfl⟩⟩; refine ⟨_, rfl, ?_⟩) | ((with_reducible refine gate_callee (f := 19) rfl ?_); refine goesL_ (some 28) rfl rfl Try.func19 (by kernel_rfl) rfl #[] rfl (by (try simp only [List.map_toArray, List.map_cons, List.map_nil]); first | done | rfl | (simp only [List.length_drop, List.length_take]; rfl)) ?_; (with_reducible refine (hornbeamlaw06_fixed.calls  true _ A7.out).mono ?_); rintro e w' ⟨rfl, ⟨nd, rfl⟩⟩; refine ⟨_, rfl, ?_⟩) | (go_at_call 26; (with_reducible refine (rank_Cmp.calls (Flt.fbits a1) (Flt.fbits a0) t160 _ A24.out).mono ?_); rintro e w' ⟨rfl, ⟨nd, rfl⟩⟩) | (go_at_call 26; (with_reducible refine (rank_Cmp.calls (Flt.fbits a0) (Flt.fbits a0) t161 _ A26.out).mono ?_); rintro e w' ⟨rfl, ⟨nd, rfl⟩⟩))
            go_ret
            exact ⟨by first | rfl | (simp; done) | (simp [*]; done), by repeat (first | exact Drawn0.refl _ | apply Drawn0.step)⟩
          · rw [if_neg c25] at H
            have c25b0 : (t160 == (wrap64 (-t150))) = false := beq_eq_false_iff_ne.mpr c25
            have c25b1 : (t160 != (wrap64 (-t150))) = true := bne_iff_ne.mpr c25
            obtain rfl := Option.some.inj H
            go_enter Try.func6, Try.ntmps6
            go_wp2_with (first | ((with_reducible refine gate_callee (f := 26) rfl ?_); refine goesL_ (some 21) rfl rfl Try.func26 (by kernel_rfl) rfl #[.float .f64 (Flt.fbits a0), .float .f64 (Flt.fbits a1)] rfl (by (try simp only [List.map_toArray, List.map_cons, List.map_nil]); first | done | rfl | (simp only [List.length_drop, List.length_take]; rfl)) ?_; (with_reducible refine (rank_Cmp.calls (Flt.fbits a0) (Flt.fbits a1) t150 _ A4.out).mono ?_); rintro e w' ⟨rfl, ⟨nd, rfl⟩⟩; refine ⟨_, rfl, ?_⟩) | ((with_reducible refine gate_callee (f := 26) rfl ?_); refine goesL_ (some 24) rfl rfl Try.func26 (by kernel_rfl) rfl #[.float .f64 (Flt.fbits a1), .float .f64 (Flt.fbits a2)] rfl (by (try simp only [List.map_toArray, List.map_cons, List.map_nil]); first | done | rfl | (simp only [List.length_drop, List.length_take]; rfl)) ?_; (with_reducible refine (rank_Cmp.calls (Flt.fbits a1) (Flt.fbits a2) t151 _ A5.out).mono ?_); rintro e w' ⟨rfl, ⟨nd, rfl⟩⟩; refine ⟨_, rfl, ?_⟩) | ((with_reducible refine gate_callee (f := 26) rfl ?_); refine goesL_ (some 27) rfl rfl Try.func26 (by kernel_rfl) rfl #[.float .f64 (Flt.fbits a0), .float .f64 (Flt.fbits a2)] rfl (by (try simp only [List.map_toArray, List.map_cons, List.map_nil]); first | done | rfl | (simp only [List.length_drop, List.length_take]; rfl)) ?_; (with_reducible refine (rank_Cmp.calls (Flt.fbits a0) (Flt.fbits a2) t152 _ A6.out).mono ?_); rintro e w' ⟨rfl, ⟨nd, rfl⟩⟩; refine ⟨_, rfl, ?_⟩) | ((with_reducible refine gate_callee (f := 19) rfl ?_); refine goesL_ (some 28) rfl rfl Try.func19 (by kernel_rfl) rfl #[] rfl (by (try simp only [List.map_toArray, List.map_cons, List.map_nil]); first | done | rfl | (simp only [List.length_drop, List.length_take]; rfl)) ?_; (with_reducible refine (hornbeamlaw06_fixed.calls  true _ A7.out).mono ?_); rintro e w' ⟨rfl, ⟨nd, rfl⟩⟩; refine ⟨_, rfl, ?_⟩) | (go_at_call 26; (with_reducible refine (rank_Cmp.calls (Flt.fbits a1) (Flt.fbits a0) t160 _ A24.out).mono ?_); rintro e w' ⟨rfl, ⟨nd, rfl⟩⟩))
            go_ret
            exact ⟨by first | rfl | (simp; done) | (simp [*]; done), by repeat (first | exact Drawn0.refl _ | apply Drawn0.step)⟩
        · rw [if_neg c23] at H
          have c23b0 : decide (t150 < 0) = false := decide_eq_false c23
          clear c23
          by_cases c27 : t151 < 0
          · rw [if_pos c27] at H
            have c27b0 : decide (t151 < 0) = true := decide_eq_true c27
            clear c27
            replace H := Option.bind_eq_some_iff.mp H
            obtain ⟨t162, A280, H⟩ := H
            replace H : (if t162 = (wrap64 (-t150)) then ((rank_Cmp.f (Flt.fbits a0) (Flt.fbits a0)).bind fun t163 => (some (t163 == 0))) else (some false)) = some r := H
            have A28 := Aside0.mk A280
            clear A280
            by_cases c29 : t162 = (wrap64 (-t150))
            · rw [if_pos c29] at H
              have c29b0 : (t162 == (wrap64 (-t150))) = true := beq_iff_eq.mpr c29
              have c29b1 : (t162 != (wrap64 (-t150))) = false := bne_eq_false_iff_eq.mpr c29
              clear c29
              replace H := Option.bind_eq_some_iff.mp H
              obtain ⟨t163, A300, H⟩ := H
              replace H : (some (t163 == 0)) = some r := H
              have A30 := Aside0.mk A300
              clear A300
              obtain rfl := Option.some.inj H
              go_enter Try.func6, Try.ntmps6
              go_wp2_with (first | ((with_reducible refine gate_callee (f := 26) rfl ?_); refine goesL_ (some 21) rfl rfl Try.func26 (by kernel_rfl) rfl #[.float .f64 (Flt.fbits a0), .float .f64 (Flt.fbits a1)] rfl (by (try simp only [List.map_toArray, List.map_cons, List.map_nil]); first | done | rfl | (simp only [List.length_drop, List.length_take]; rfl)) ?_; (with_reducible refine (rank_Cmp.calls (Flt.fbits a0) (Flt.fbits a1) t150 _ A4.out).mono ?_); rintro e w' ⟨rfl, ⟨nd, rfl⟩⟩; refine ⟨_, rfl, ?_⟩) | ((with_reducible refine gate_callee (f := 26) rfl ?_); refine goesL_ (some 24) rfl rfl Try.func26 (by kernel_rfl) rfl #[.float .f64 (Flt.fbits a1), .float .f64 (Flt.fbits a2)] rfl (by (try simp only [List.map_toArray, List.map_cons, List.map_nil]); first | done | rfl | (simp only [List.length_drop, List.length_take]; rfl)) ?_; (with_reducible refine (rank_Cmp.calls (Flt.fbits a1) (Flt.fbits a2) t151 _ A5.out).mono ?_); rintro e w' ⟨rfl, ⟨nd, rfl⟩⟩; refine ⟨_, rfl, ?_⟩) | ((with_reducible refine gate_callee (f := 26) rfl ?_); refine goesL_ (some 27) rfl rfl Try.func26 (by kernel_rfl) rfl #[.float .f64 (Flt.fbits a0), .float .f64 (Flt.fbits a2)] rfl (by (try simp only [List.map_toArray, List.map_cons, List.map_nil]); first | done | rfl | (simp only [List.length_drop, List.length_take]; rfl)) ?_; (with_reducible refine (rank_Cmp.calls (Flt.fbits a0) (Flt.fbits a2) t152 _ A6.out).mono ?_); rintro e w' ⟨rfl, ⟨nd, rfl⟩⟩; refine ⟨_, rfl, ?_⟩) | ((with_reducible refine gate_callee (f := 19) rfl ?_); refine goesL_ (some 28) rfl rfl Try.func19 (by kernel_rfl) rfl #[] rfl (by (try simp only [List.map_toArray, List.map_cons, List.map_nil]); first | done | rfl | (simp only [List.length_drop, List.length_take]; rfl)) ?_; (with_reducible refine (hornbeamlaw06_fixed.calls  true _ A7.out).mono ?_); rintro e w' ⟨rfl, ⟨nd, rfl⟩⟩; refine ⟨_, rfl, ?_⟩) | (go_at_call 26; (with_reducible refine (rank_Cmp.calls (Flt.fbits a1) (Flt.fbits a0) t162 _ A28.out).mono ?_); rintro e w' ⟨rfl, ⟨nd, rfl⟩⟩) | (go_at_call 26; (with_reducible refine (rank_Cmp.calls (Flt.fbits a0) (Flt.fbits a0) t163 _ A30.out).mono ?_); rintro e w' ⟨rfl, ⟨nd, rfl⟩⟩))
              go_ret
              exact ⟨by first | rfl | (simp; done) | (simp [*]; done), by repeat (first | exact Drawn0.refl _ | apply Drawn0.step)⟩
            · rw [if_neg c29] at H
              have c29b0 : (t162 == (wrap64 (-t150))) = false := beq_eq_false_iff_ne.mpr c29
              have c29b1 : (t162 != (wrap64 (-t150))) = true := bne_iff_ne.mpr c29
              obtain rfl := Option.some.inj H
              go_enter Try.func6, Try.ntmps6
              go_wp2_with (first | ((with_reducible refine gate_callee (f := 26) rfl ?_); refine goesL_ (some 21) rfl rfl Try.func26 (by kernel_rfl) rfl #[.float .f64 (Flt.fbits a0), .float .f64 (Flt.fbits a1)] rfl (by (try simp only [List.map_toArray, List.map_cons, List.map_nil]); first | done | rfl | (simp only [List.length_drop, List.length_take]; rfl)) ?_; (with_reducible refine (rank_Cmp.calls (Flt.fbits a0) (Flt.fbits a1) t150 _ A4.out).mono ?_); rintro e w' ⟨rfl, ⟨nd, rfl⟩⟩; refine ⟨_, rfl, ?_⟩) | ((with_reducible refine gate_callee (f := 26) rfl ?_); refine goesL_ (some 24) rfl rfl Try.func26 (by kernel_rfl) rfl #[.float .f64 (Flt.fbits a1), .float .f64 (Flt.fbits a2)] rfl (by (try simp only [List.map_toArray, List.map_cons, List.map_nil]); first | done | rfl | (simp only [List.length_drop, List.length_take]; rfl)) ?_; (with_reducible refine (rank_Cmp.calls (Flt.fbits a1) (Flt.fbits a2) t151 _ A5.out).mono ?_); rintro e w' ⟨rfl, ⟨nd, rfl⟩⟩; refine ⟨_, rfl, ?_⟩) | ((with_reducible refine gate_callee (f := 26) rfl ?_); refine goesL_ (some 27) rfl rfl Try.func26 (by kernel_rfl) rfl #[.float .f64 (Flt.fbits a0), .float .f64 (Flt.fbits a2)] rfl (by (try simp only [List.map_toArray, List.map_cons, List.map_nil]); first | done | rfl | (simp only [List.length_drop, List.length_take]; rfl)) ?_; (with_reducible refine (rank_Cmp.calls (Flt.fbits a0) (Flt.fbits a2) t152 _ A6.out).mono ?_); rintro e w' ⟨rfl, ⟨nd, rfl⟩⟩; refine ⟨_, rfl, ?_⟩) | ((with_reducible refine gate_callee (f := 19) rfl ?_); refine goesL_ (some 28) rfl rfl Try.func19 (by kernel_rfl) rfl #[] rfl (by (try simp only [List.map_toArray, List.map_cons, List.map_nil]); first | done | rfl | (simp only [List.length_drop, List.length_take]; rfl)) ?_; (with_reducible refine (hornbeamlaw06_fixed.calls  true _ A7.out).mono ?_); rintro e w' ⟨rfl, ⟨nd, rfl⟩⟩; refine ⟨_, rfl, ?_⟩) | (go_at_call 26; (with_reducible refine (rank_Cmp.calls (Flt.fbits a1) (Flt.fbits a0) t162 _ A28.out).mono ?_); rintro e w' ⟨rfl, ⟨nd, rfl⟩⟩))
              go_ret
              exact ⟨by first | rfl | (simp; done) | (simp [*]; done), by repeat (first | exact Drawn0.refl _ | apply Drawn0.step)⟩
          · rw [if_neg c27] at H
            have c27b0 : decide (t151 < 0) = false := decide_eq_false c27
            clear c27
            by_cases c31 : t152 ≥ 0
            · rw [if_pos c31] at H
              have c31b0 : decide (0 ≤ t152) = true := decide_eq_true c31
              clear c31
              replace H := Option.bind_eq_some_iff.mp H
              obtain ⟨t164, A320, H⟩ := H
              replace H : (if t164 = (wrap64 (-t150)) then ((rank_Cmp.f (Flt.fbits a0) (Flt.fbits a0)).bind fun t165 => (some (t165 == 0))) else (some false)) = some r := H
              have A32 := Aside0.mk A320
              clear A320
              by_cases c33 : t164 = (wrap64 (-t150))
              · rw [if_pos c33] at H
                have c33b0 : (t164 == (wrap64 (-t150))) = true := beq_iff_eq.mpr c33
                have c33b1 : (t164 != (wrap64 (-t150))) = false := bne_eq_false_iff_eq.mpr c33
                clear c33
                replace H := Option.bind_eq_some_iff.mp H
                obtain ⟨t165, A340, H⟩ := H
                replace H : (some (t165 == 0)) = some r := H
                have A34 := Aside0.mk A340
                clear A340
                obtain rfl := Option.some.inj H
                go_enter Try.func6, Try.ntmps6
                go_wp2_with (first | ((with_reducible refine gate_callee (f := 26) rfl ?_); refine goesL_ (some 21) rfl rfl Try.func26 (by kernel_rfl) rfl #[.float .f64 (Flt.fbits a0), .float .f64 (Flt.fbits a1)] rfl (by (try simp only [List.map_toArray, List.map_cons, List.map_nil]); first | done | rfl | (simp only [List.length_drop, List.length_take]; rfl)) ?_; (with_reducible refine (rank_Cmp.calls (Flt.fbits a0) (Flt.fbits a1) t150 _ A4.out).mono ?_); rintro e w' ⟨rfl, ⟨nd, rfl⟩⟩; refine ⟨_, rfl, ?_⟩) | ((with_reducible refine gate_callee (f := 26) rfl ?_); refine goesL_ (some 24) rfl rfl Try.func26 (by kernel_rfl) rfl #[.float .f64 (Flt.fbits a1), .float .f64 (Flt.fbits a2)] rfl (by (try simp only [List.map_toArray, List.map_cons, List.map_nil]); first | done | rfl | (simp only [List.length_drop, List.length_take]; rfl)) ?_; (with_reducible refine (rank_Cmp.calls (Flt.fbits a1) (Flt.fbits a2) t151 _ A5.out).mono ?_); rintro e w' ⟨rfl, ⟨nd, rfl⟩⟩; refine ⟨_, rfl, ?_⟩) | ((with_reducible refine gate_callee (f := 26) rfl ?_); refine goesL_ (some 27) rfl rfl Try.func26 (by kernel_rfl) rfl #[.float .f64 (Flt.fbits a0), .float .f64 (Flt.fbits a2)] rfl (by (try simp only [List.map_toArray, List.map_cons, List.map_nil]); first | done | rfl | (simp only [List.length_drop, List.length_take]; rfl)) ?_; (with_reducible refine (rank_Cmp.calls (Flt.fbits a0) (Flt.fbits a2) t152 _ A6.out).mono ?_); rintro e w' ⟨rfl, ⟨nd, rfl⟩⟩; refine ⟨_, rfl, ?_⟩) | ((with_reducible refine gate_callee (f := 19) rfl ?_); refine goesL_ (some 28) rfl rfl Try.func19 (by kernel_rfl) rfl #[] rfl (by (try simp only [List.map_toArray, List.map_cons, List.map_nil]); first | done | rfl | (simp only [List.length_drop, List.length_take]; rfl)) ?_; (with_reducible refine (hornbeamlaw06_fixed.calls  true _ A7.out).mono ?_); rintro e w' ⟨rfl, ⟨nd, rfl⟩⟩; refine ⟨_, rfl, ?_⟩) | (go_at_call 26; (with_reducible refine (rank_Cmp.calls (Flt.fbits a1) (Flt.fbits a0) t164 _ A32.out).mono ?_); rintro e w' ⟨rfl, ⟨nd, rfl⟩⟩) | (go_at_call 26; (with_reducible refine (rank_Cmp.calls (Flt.fbits a0) (Flt.fbits a0) t165 _ A34.out).mono ?_); rintro e w' ⟨rfl, ⟨nd, rfl⟩⟩))
                go_ret
                exact ⟨by first | rfl | (simp; done) | (simp [*]; done), by repeat (first | exact Drawn0.refl _ | apply Drawn0.step)⟩
              · rw [if_neg c33] at H
                have c33b0 : (t164 == (wrap64 (-t150))) = false := beq_eq_false_iff_ne.mpr c33
                have c33b1 : (t164 != (wrap64 (-t150))) = true := bne_iff_ne.mpr c33
                obtain rfl := Option.some.inj H
                go_enter Try.func6, Try.ntmps6
                go_wp2_with (first | ((with_reducible refine gate_callee (f := 26) rfl ?_); refine goesL_ (some 21) rfl rfl Try.func26 (by kernel_rfl) rfl #[.float .f64 (Flt.fbits a0), .float .f64 (Flt.fbits a1)] rfl (by (try simp only [List.map_toArray, List.map_cons, List.map_nil]); first | done | rfl | (simp only [List.length_drop, List.length_take]; rfl)) ?_; (with_reducible refine (rank_Cmp.calls (Flt.fbits a0) (Flt.fbits a1) t150 _ A4.out).mono ?_); rintro e w' ⟨rfl, ⟨nd, rfl⟩⟩; refine ⟨_, rfl, ?_⟩) | ((with_reducible refine gate_callee (f := 26) rfl ?_); refine goesL_ (some 24) rfl rfl Try.func26 (by kernel_rfl) rfl #[.float .f64 (Flt.fbits a1), .float .f64 (Flt.fbits a2)] rfl (by (try simp only [List.map_toArray, List.map_cons, List.map_nil]); first | done | rfl | (simp only [List.length_drop, List.length_take]; rfl)) ?_; (with_reducible refine (rank_Cmp.calls (Flt.fbits a1) (Flt.fbits a2) t151 _ A5.out).mono ?_); rintro e w' ⟨rfl, ⟨nd, rfl⟩⟩; refine ⟨_, rfl, ?_⟩) | ((with_reducible refine gate_callee (f := 26) rfl ?_); refine goesL_ (some 27) rfl rfl Try.func26 (by kernel_rfl) rfl #[.float .f64 (Flt.fbits a0), .float .f64 (Flt.fbits a2)] rfl (by (try simp only [List.map_toArray, List.map_cons, List.map_nil]); first | done | rfl | (simp only [List.length_drop, List.length_take]; rfl)) ?_; (with_reducible refine (rank_Cmp.calls (Flt.fbits a0) (Flt.fbits a2) t152 _ A6.out).mono ?_); rintro e w' ⟨rfl, ⟨nd, rfl⟩⟩; refine ⟨_, rfl, ?_⟩) | ((with_reducible refine gate_callee (f := 19) rfl ?_); refine goesL_ (some 28) rfl rfl Try.func19 (by kernel_rfl) rfl #[] rfl (by (try simp only [List.map_toArray, List.map_cons, List.map_nil]); first | done | rfl | (simp only [List.length_drop, List.length_take]; rfl)) ?_; (with_reducible refine (hornbeamlaw06_fixed.calls  true _ A7.out).mono ?_); rintro e w' ⟨rfl, ⟨nd, rfl⟩⟩; refine ⟨_, rfl, ?_⟩) | (go_at_call 26; (with_reducible refine (rank_Cmp.calls (Flt.fbits a1) (Flt.fbits a0) t164 _ A32.out).mono ?_); rintro e w' ⟨rfl, ⟨nd, rfl⟩⟩))
                go_ret
                exact ⟨by first | rfl | (simp; done) | (simp [*]; done), by repeat (first | exact Drawn0.refl _ | apply Drawn0.step)⟩
            · rw [if_neg c31] at H
              have c31b0 : decide (0 ≤ t152) = false := decide_eq_false c31
              clear c31
              obtain rfl := Option.some.inj H
              go_enter Try.func6, Try.ntmps6
              go_wp2_with (first | ((with_reducible refine gate_callee (f := 26) rfl ?_); refine goesL_ (some 21) rfl rfl Try.func26 (by kernel_rfl) rfl #[.float .f64 (Flt.fbits a0), .float .f64 (Flt.fbits a1)] rfl (by (try simp only [List.map_toArray, List.map_cons, List.map_nil]); first | done | rfl | (simp only [List.length_drop, List.length_take]; rfl)) ?_; (with_reducible refine (rank_Cmp.calls (Flt.fbits a0) (Flt.fbits a1) t150 _ A4.out).mono ?_); rintro e w' ⟨rfl, ⟨nd, rfl⟩⟩; refine ⟨_, rfl, ?_⟩) | ((with_reducible refine gate_callee (f := 26) rfl ?_); refine goesL_ (some 24) rfl rfl Try.func26 (by kernel_rfl) rfl #[.float .f64 (Flt.fbits a1), .float .f64 (Flt.fbits a2)] rfl (by (try simp only [List.map_toArray, List.map_cons, List.map_nil]); first | done | rfl | (simp only [List.length_drop, List.length_take]; rfl)) ?_; (with_reducible refine (rank_Cmp.calls (Flt.fbits a1) (Flt.fbits a2) t151 _ A5.out).mono ?_); rintro e w' ⟨rfl, ⟨nd, rfl⟩⟩; refine ⟨_, rfl, ?_⟩) | ((with_reducible refine gate_callee (f := 26) rfl ?_); refine goesL_ (some 27) rfl rfl Try.func26 (by kernel_rfl) rfl #[.float .f64 (Flt.fbits a0), .float .f64 (Flt.fbits a2)] rfl (by (try simp only [List.map_toArray, List.map_cons, List.map_nil]); first | done | rfl | (simp only [List.length_drop, List.length_take]; rfl)) ?_; (with_reducible refine (rank_Cmp.calls (Flt.fbits a0) (Flt.fbits a2) t152 _ A6.out).mono ?_); rintro e w' ⟨rfl, ⟨nd, rfl⟩⟩; refine ⟨_, rfl, ?_⟩) | ((with_reducible refine gate_callee (f := 19) rfl ?_); refine goesL_ (some 28) rfl rfl Try.func19 (by kernel_rfl) rfl #[] rfl (by (try simp only [List.map_toArray, List.map_cons, List.map_nil]); first | done | rfl | (simp only [List.length_drop, List.length_take]; rfl)) ?_; (with_reducible refine (hornbeamlaw06_fixed.calls  true _ A7.out).mono ?_); rintro e w' ⟨rfl, ⟨nd, rfl⟩⟩; refine ⟨_, rfl, ?_⟩))
              go_ret
              exact ⟨by first | rfl | (simp; done) | (simp [*]; done), by repeat (first | exact Drawn0.refl _ | apply Drawn0.step)⟩
      · rw [if_neg c22] at H
        have c22b0 : decide (0 < t151) = false := decide_eq_false c22
        clear c22
        by_cases c35 : t152 ≤ 0
        · rw [if_pos c35] at H
          have c35b0 : decide (t152 ≤ 0) = true := decide_eq_true c35
          clear c35
          by_cases c36 : t150 < 0
          · rw [if_pos c36] at H
            have c36b0 : decide (t150 < 0) = true := decide_eq_true c36
            clear c36
            replace H := Option.bind_eq_some_iff.mp H
            obtain ⟨t166, A370, H⟩ := H
            replace H : (if t166 = (wrap64 (-t150)) then ((rank_Cmp.f (Flt.fbits a0) (Flt.fbits a0)).bind fun t167 => (some (t167 == 0))) else (some false)) = some r := H
            have A37 := Aside0.mk A370
            clear A370
            by_cases c38 : t166 = (wrap64 (-t150))
            · rw [if_pos c38] at H
              have c38b0 : (t166 == (wrap64 (-t150))) = true := beq_iff_eq.mpr c38
              have c38b1 : (t166 != (wrap64 (-t150))) = false := bne_eq_false_iff_eq.mpr c38
              clear c38
              replace H := Option.bind_eq_some_iff.mp H
              obtain ⟨t167, A390, H⟩ := H
              replace H : (some (t167 == 0)) = some r := H
              have A39 := Aside0.mk A390
              clear A390
              obtain rfl := Option.some.inj H
              go_enter Try.func6, Try.ntmps6
              go_wp2_with (first | ((with_reducible refine gate_callee (f := 26) rfl ?_); refine goesL_ (some 21) rfl rfl Try.func26 (by kernel_rfl) rfl #[.float .f64 (Flt.fbits a0), .float .f64 (Flt.fbits a1)] rfl (by (try simp only [List.map_toArray, List.map_cons, List.map_nil]); first | done | rfl | (simp only [List.length_drop, List.length_take]; rfl)) ?_; (with_reducible refine (rank_Cmp.calls (Flt.fbits a0) (Flt.fbits a1) t150 _ A4.out).mono ?_); rintro e w' ⟨rfl, ⟨nd, rfl⟩⟩; refine ⟨_, rfl, ?_⟩) | ((with_reducible refine gate_callee (f := 26) rfl ?_); refine goesL_ (some 24) rfl rfl Try.func26 (by kernel_rfl) rfl #[.float .f64 (Flt.fbits a1), .float .f64 (Flt.fbits a2)] rfl (by (try simp only [List.map_toArray, List.map_cons, List.map_nil]); first | done | rfl | (simp only [List.length_drop, List.length_take]; rfl)) ?_; (with_reducible refine (rank_Cmp.calls (Flt.fbits a1) (Flt.fbits a2) t151 _ A5.out).mono ?_); rintro e w' ⟨rfl, ⟨nd, rfl⟩⟩; refine ⟨_, rfl, ?_⟩) | ((with_reducible refine gate_callee (f := 26) rfl ?_); refine goesL_ (some 27) rfl rfl Try.func26 (by kernel_rfl) rfl #[.float .f64 (Flt.fbits a0), .float .f64 (Flt.fbits a2)] rfl (by (try simp only [List.map_toArray, List.map_cons, List.map_nil]); first | done | rfl | (simp only [List.length_drop, List.length_take]; rfl)) ?_; (with_reducible refine (rank_Cmp.calls (Flt.fbits a0) (Flt.fbits a2) t152 _ A6.out).mono ?_); rintro e w' ⟨rfl, ⟨nd, rfl⟩⟩; refine ⟨_, rfl, ?_⟩) | ((with_reducible refine gate_callee (f := 19) rfl ?_); refine goesL_ (some 28) rfl rfl Try.func19 (by kernel_rfl) rfl #[] rfl (by (try simp only [List.map_toArray, List.map_cons, List.map_nil]); first | done | rfl | (simp only [List.length_drop, List.length_take]; rfl)) ?_; (with_reducible refine (hornbeamlaw06_fixed.calls  true _ A7.out).mono ?_); rintro e w' ⟨rfl, ⟨nd, rfl⟩⟩; refine ⟨_, rfl, ?_⟩) | (go_at_call 26; (with_reducible refine (rank_Cmp.calls (Flt.fbits a1) (Flt.fbits a0) t166 _ A37.out).mono ?_); rintro e w' ⟨rfl, ⟨nd, rfl⟩⟩) | (go_at_call 26; (with_reducible refine (rank_Cmp.calls (Flt.fbits a0) (Flt.fbits a0) t167 _ A39.out).mono ?_); rintro e w' ⟨rfl, ⟨nd, rfl⟩⟩))
              go_ret
              exact ⟨by first | rfl | (simp; done) | (simp [*]; done), by repeat (first | exact Drawn0.refl _ | apply Drawn0.step)⟩
            · rw [if_neg c38] at H
              have c38b0 : (t166 == (wrap64 (-t150))) = false := beq_eq_false_iff_ne.mpr c38
              have c38b1 : (t166 != (wrap64 (-t150))) = true := bne_iff_ne.mpr c38
              obtain rfl := Option.some.inj H
              go_enter Try.func6, Try.ntmps6
              go_wp2_with (first | ((with_reducible refine gate_callee (f := 26) rfl ?_); refine goesL_ (some 21) rfl rfl Try.func26 (by kernel_rfl) rfl #[.float .f64 (Flt.fbits a0), .float .f64 (Flt.fbits a1)] rfl (by (try simp only [List.map_toArray, List.map_cons, List.map_nil]); first | done | rfl | (simp only [List.length_drop, List.length_take]; rfl)) ?_; (with_reducible refine (rank_Cmp.calls (Flt.fbits a0) (Flt.fbits a1) t150 _ A4.out).mono ?_); rintro e w' ⟨rfl, ⟨nd, rfl⟩⟩; refine ⟨_, rfl, ?_⟩) | ((with_reducible refine gate_callee (f := 26) rfl ?_); refine goesL_ (some 24) rfl rfl Try.func26 (by kernel_rfl) rfl #[.float .f64 (Flt.fbits a1), .float .f64 (Flt.fbits a2)] rfl (by (try simp only [List.map_toArray, List.map_cons, List.map_nil]); first | done | rfl | (simp only [List.length_drop, List.length_take]; rfl)) ?_; (with_reducible refine (rank_Cmp.calls (Flt.fbits a1) (Flt.fbits a2) t151 _ A5.out).mono ?_); rintro e w' ⟨rfl, ⟨nd, rfl⟩⟩; refine ⟨_, rfl, ?_⟩) | ((with_reducible refine gate_callee (f := 26) rfl ?_); refine goesL_ (some 27) rfl rfl Try.func26 (by kernel_rfl) rfl #[.float .f64 (Flt.fbits a0), .float .f64 (Flt.fbits a2)] rfl (by (try simp only [List.map_toArray, List.map_cons, List.map_nil]); first | done | rfl | (simp only [List.length_drop, List.length_take]; rfl)) ?_; (with_reducible refine (rank_Cmp.calls (Flt.fbits a0) (Flt.fbits a2) t152 _ A6.out).mono ?_); rintro e w' ⟨rfl, ⟨nd, rfl⟩⟩; refine ⟨_, rfl, ?_⟩) | ((with_reducible refine gate_callee (f := 19) rfl ?_); refine goesL_ (some 28) rfl rfl Try.func19 (by kernel_rfl) rfl #[] rfl (by (try simp only [List.map_toArray, List.map_cons, List.map_nil]); first | done | rfl | (simp only [List.length_drop, List.length_take]; rfl)) ?_; (with_reducible refine (hornbeamlaw06_fixed.calls  true _ A7.out).mono ?_); rintro e w' ⟨rfl, ⟨nd, rfl⟩⟩; refine ⟨_, rfl, ?_⟩) | (go_at_call 26; (with_reducible refine (rank_Cmp.calls (Flt.fbits a1) (Flt.fbits a0) t166 _ A37.out).mono ?_); rintro e w' ⟨rfl, ⟨nd, rfl⟩⟩))
              go_ret
              exact ⟨by first | rfl | (simp; done) | (simp [*]; done), by repeat (first | exact Drawn0.refl _ | apply Drawn0.step)⟩
          · rw [if_neg c36] at H
            have c36b0 : decide (t150 < 0) = false := decide_eq_false c36
            clear c36
            by_cases c40 : t151 < 0
            · rw [if_pos c40] at H
              have c40b0 : decide (t151 < 0) = true := decide_eq_true c40
              clear c40
              replace H := Option.bind_eq_some_iff.mp H
              obtain ⟨t168, A410, H⟩ := H
              replace H : (if t168 = (wrap64 (-t150)) then ((rank_Cmp.f (Flt.fbits a0) (Flt.fbits a0)).bind fun t169 => (some (t169 == 0))) else (some false)) = some r := H
              have A41 := Aside0.mk A410
              clear A410
              by_cases c42 : t168 = (wrap64 (-t150))
              · rw [if_pos c42] at H
                have c42b0 : (t168 == (wrap64 (-t150))) = true := beq_iff_eq.mpr c42
                have c42b1 : (t168 != (wrap64 (-t150))) = false := bne_eq_false_iff_eq.mpr c42
                clear c42
                replace H := Option.bind_eq_some_iff.mp H
                obtain ⟨t169, A430, H⟩ := H
                replace H : (some (t169 == 0)) = some r := H
                have A43 := Aside0.mk A430
                clear A430
                obtain rfl := Option.some.inj H
                go_enter Try.func6, Try.ntmps6
                go_wp2_with (first | ((with_reducible refine gate_callee (f := 26) rfl ?_); refine goesL_ (some 21) rfl rfl Try.func26 (by kernel_rfl) rfl #[.float .f64 (Flt.fbits a0), .float .f64 (Flt.fbits a1)] rfl (by (try simp only [List.map_toArray, List.map_cons, List.map_nil]); first | done | rfl | (simp only [List.length_drop, List.length_take]; rfl)) ?_; (with_reducible refine (rank_Cmp.calls (Flt.fbits a0) (Flt.fbits a1) t150 _ A4.out).mono ?_); rintro e w' ⟨rfl, ⟨nd, rfl⟩⟩; refine ⟨_, rfl, ?_⟩) | ((with_reducible refine gate_callee (f := 26) rfl ?_); refine goesL_ (some 24) rfl rfl Try.func26 (by kernel_rfl) rfl #[.float .f64 (Flt.fbits a1), .float .f64 (Flt.fbits a2)] rfl (by (try simp only [List.map_toArray, List.map_cons, List.map_nil]); first | done | rfl | (simp only [List.length_drop, List.length_take]; rfl)) ?_; (with_reducible refine (rank_Cmp.calls (Flt.fbits a1) (Flt.fbits a2) t151 _ A5.out).mono ?_); rintro e w' ⟨rfl, ⟨nd, rfl⟩⟩; refine ⟨_, rfl, ?_⟩) | ((with_reducible refine gate_callee (f := 26) rfl ?_); refine goesL_ (some 27) rfl rfl Try.func26 (by kernel_rfl) rfl #[.float .f64 (Flt.fbits a0), .float .f64 (Flt.fbits a2)] rfl (by (try simp only [List.map_toArray, List.map_cons, List.map_nil]); first | done | rfl | (simp only [List.length_drop, List.length_take]; rfl)) ?_; (with_reducible refine (rank_Cmp.calls (Flt.fbits a0) (Flt.fbits a2) t152 _ A6.out).mono ?_); rintro e w' ⟨rfl, ⟨nd, rfl⟩⟩; refine ⟨_, rfl, ?_⟩) | ((with_reducible refine gate_callee (f := 19) rfl ?_); refine goesL_ (some 28) rfl rfl Try.func19 (by kernel_rfl) rfl #[] rfl (by (try simp only [List.map_toArray, List.map_cons, List.map_nil]); first | done | rfl | (simp only [List.length_drop, List.length_take]; rfl)) ?_; (with_reducible refine (hornbeamlaw06_fixed.calls  true _ A7.out).mono ?_); rintro e w' ⟨rfl, ⟨nd, rfl⟩⟩; refine ⟨_, rfl, ?_⟩) | (go_at_call 26; (with_reducible refine (rank_Cmp.calls (Flt.fbits a1) (Flt.fbits a0) t168 _ A41.out).mono ?_); rintro e w' ⟨rfl, ⟨nd, rfl⟩⟩) | (go_at_call 26; (with_reducible refine (rank_Cmp.calls (Flt.fbits a0) (Flt.fbits a0) t169 _ A43.out).mono ?_); rintro e w' ⟨rfl, ⟨nd, rfl⟩⟩))
                go_ret
                exact ⟨by first | rfl | (simp; done) | (simp [*]; done), by repeat (first | exact Drawn0.refl _ | apply Drawn0.step)⟩
              · rw [if_neg c42] at H
                have c42b0 : (t168 == (wrap64 (-t150))) = false := beq_eq_false_iff_ne.mpr c42
                have c42b1 : (t168 != (wrap64 (-t150))) = true := bne_iff_ne.mpr c42
                obtain rfl := Option.some.inj H
                go_enter Try.func6, Try.ntmps6
                go_wp2_with (first | ((with_reducible refine gate_callee (f := 26) rfl ?_); refine goesL_ (some 21) rfl rfl Try.func26 (by kernel_rfl) rfl #[.float .f64 (Flt.fbits a0), .float .f64 (Flt.fbits a1)] rfl (by (try simp only [List.map_toArray, List.map_cons, List.map_nil]); first | done | rfl | (simp only [List.length_drop, List.length_take]; rfl)) ?_; (with_reducible refine (rank_Cmp.calls (Flt.fbits a0) (Flt.fbits a1) t150 _ A4.out).mono ?_); rintro e w' ⟨rfl, ⟨nd, rfl⟩⟩; refine ⟨_, rfl, ?_⟩) | ((with_reducible refine gate_callee (f := 26) rfl ?_); refine goesL_ (some 24) rfl rfl Try.func26 (by kernel_rfl) rfl #[.float .f64 (Flt.fbits a1), .float .f64 (Flt.fbits a2)] rfl (by (try simp only [List.map_toArray, List.map_cons, List.map_nil]); first | done | rfl | (simp only [List.length_drop, List.length_take]; rfl)) ?_; (with_reducible refine (rank_Cmp.calls (Flt.fbits a1) (Flt.fbits a2) t151 _ A5.out).mono ?_); rintro e w' ⟨rfl, ⟨nd, rfl⟩⟩; refine ⟨_, rfl, ?_⟩) | ((with_reducible refine gate_callee (f := 26) rfl ?_); refine goesL_ (some 27) rfl rfl Try.func26 (by kernel_rfl) rfl #[.float .f64 (Flt.fbits a0), .float .f64 (Flt.fbits a2)] rfl (by (try simp only [List.map_toArray, List.map_cons, List.map_nil]); first | done | rfl | (simp only [List.length_drop, List.length_take]; rfl)) ?_; (with_reducible refine (rank_Cmp.calls (Flt.fbits a0) (Flt.fbits a2) t152 _ A6.out).mono ?_); rintro e w' ⟨rfl, ⟨nd, rfl⟩⟩; refine ⟨_, rfl, ?_⟩) | ((with_reducible refine gate_callee (f := 19) rfl ?_); refine goesL_ (some 28) rfl rfl Try.func19 (by kernel_rfl) rfl #[] rfl (by (try simp only [List.map_toArray, List.map_cons, List.map_nil]); first | done | rfl | (simp only [List.length_drop, List.length_take]; rfl)) ?_; (with_reducible refine (hornbeamlaw06_fixed.calls  true _ A7.out).mono ?_); rintro e w' ⟨rfl, ⟨nd, rfl⟩⟩; refine ⟨_, rfl, ?_⟩) | (go_at_call 26; (with_reducible refine (rank_Cmp.calls (Flt.fbits a1) (Flt.fbits a0) t168 _ A41.out).mono ?_); rintro e w' ⟨rfl, ⟨nd, rfl⟩⟩))
                go_ret
                exact ⟨by first | rfl | (simp; done) | (simp [*]; done), by repeat (first | exact Drawn0.refl _ | apply Drawn0.step)⟩
            · rw [if_neg c40] at H
              have c40b0 : decide (t151 < 0) = false := decide_eq_false c40
              clear c40
              by_cases c44 : t152 ≥ 0
              · rw [if_pos c44] at H
                have c44b0 : decide (0 ≤ t152) = true := decide_eq_true c44
                clear c44
                replace H := Option.bind_eq_some_iff.mp H
                obtain ⟨t170, A450, H⟩ := H
                replace H : (if t170 = (wrap64 (-t150)) then ((rank_Cmp.f (Flt.fbits a0) (Flt.fbits a0)).bind fun t171 => (some (t171 == 0))) else (some false)) = some r := H
                have A45 := Aside0.mk A450
                clear A450
                by_cases c46 : t170 = (wrap64 (-t150))
                · rw [if_pos c46] at H
                  have c46b0 : (t170 == (wrap64 (-t150))) = true := beq_iff_eq.mpr c46
                  have c46b1 : (t170 != (wrap64 (-t150))) = false := bne_eq_false_iff_eq.mpr c46
                  clear c46
                  replace H := Option.bind_eq_some_iff.mp H
                  obtain ⟨t171, A470, H⟩ := H
                  replace H : (some (t171 == 0)) = some r := H
                  have A47 := Aside0.mk A470
                  clear A470
                  obtain rfl := Option.some.inj H
                  go_enter Try.func6, Try.ntmps6
                  go_wp2_with (first | ((with_reducible refine gate_callee (f := 26) rfl ?_); refine goesL_ (some 21) rfl rfl Try.func26 (by kernel_rfl) rfl #[.float .f64 (Flt.fbits a0), .float .f64 (Flt.fbits a1)] rfl (by (try simp only [List.map_toArray, List.map_cons, List.map_nil]); first | done | rfl | (simp only [List.length_drop, List.length_take]; rfl)) ?_; (with_reducible refine (rank_Cmp.calls (Flt.fbits a0) (Flt.fbits a1) t150 _ A4.out).mono ?_); rintro e w' ⟨rfl, ⟨nd, rfl⟩⟩; refine ⟨_, rfl, ?_⟩) | ((with_reducible refine gate_callee (f := 26) rfl ?_); refine goesL_ (some 24) rfl rfl Try.func26 (by kernel_rfl) rfl #[.float .f64 (Flt.fbits a1), .float .f64 (Flt.fbits a2)] rfl (by (try simp only [List.map_toArray, List.map_cons, List.map_nil]); first | done | rfl | (simp only [List.length_drop, List.length_take]; rfl)) ?_; (with_reducible refine (rank_Cmp.calls (Flt.fbits a1) (Flt.fbits a2) t151 _ A5.out).mono ?_); rintro e w' ⟨rfl, ⟨nd, rfl⟩⟩; refine ⟨_, rfl, ?_⟩) | ((with_reducible refine gate_callee (f := 26) rfl ?_); refine goesL_ (some 27) rfl rfl Try.func26 (by kernel_rfl) rfl #[.float .f64 (Flt.fbits a0), .float .f64 (Flt.fbits a2)] rfl (by (try simp only [List.map_toArray, List.map_cons, List.map_nil]); first | done | rfl | (simp only [List.length_drop, List.length_take]; rfl)) ?_; (with_reducible refine (rank_Cmp.calls (Flt.fbits a0) (Flt.fbits a2) t152 _ A6.out).mono ?_); rintro e w' ⟨rfl, ⟨nd, rfl⟩⟩; refine ⟨_, rfl, ?_⟩) | ((with_reducible refine gate_callee (f := 19) rfl ?_); refine goesL_ (some 28) rfl rfl Try.func19 (by kernel_rfl) rfl #[] rfl (by (try simp only [List.map_toArray, List.map_cons, List.map_nil]); first | done | rfl | (simp only [List.length_drop, List.length_take]; rfl)) ?_; (with_reducible refine (hornbeamlaw06_fixed.calls  true _ A7.out).mono ?_); rintro e w' ⟨rfl, ⟨nd, rfl⟩⟩; refine ⟨_, rfl, ?_⟩) | (go_at_call 26; (with_reducible refine (rank_Cmp.calls (Flt.fbits a1) (Flt.fbits a0) t170 _ A45.out).mono ?_); rintro e w' ⟨rfl, ⟨nd, rfl⟩⟩) | (go_at_call 26; (with_reducible refine (rank_Cmp.calls (Flt.fbits a0) (Flt.fbits a0) t171 _ A47.out).mono ?_); rintro e w' ⟨rfl, ⟨nd, rfl⟩⟩))
                  go_ret
                  exact ⟨by first | rfl | (simp; done) | (simp [*]; done), by repeat (first | exact Drawn0.refl _ | apply Drawn0.step)⟩
                · rw [if_neg c46] at H
                  have c46b0 : (t170 == (wrap64 (-t150))) = false := beq_eq_false_iff_ne.mpr c46
                  have c46b1 : (t170 != (wrap64 (-t150))) = true := bne_iff_ne.mpr c46
                  obtain rfl := Option.some.inj H
                  go_enter Try.func6, Try.ntmps6
                  go_wp2_with (first | ((with_reducible refine gate_callee (f := 26) rfl ?_); refine goesL_ (some 21) rfl rfl Try.func26 (by kernel_rfl) rfl #[.float .f64 (Flt.fbits a0), .float .f64 (Flt.fbits a1)] rfl (by (try simp only [List.map_toArray, List.map_cons, List.map_nil]); first | done | rfl | (simp only [List.length_drop, List.length_take]; rfl)) ?_; (with_reducible refine (rank_Cmp.calls (Flt.fbits a0) (Flt.fbits a1) t150 _ A4.out).mono ?_); rintro e w' ⟨rfl, ⟨nd, rfl⟩⟩; refine ⟨_, rfl, ?_⟩) | ((with_reducible refine gate_callee (f := 26) rfl ?_); refine goesL_ (some 24) rfl rfl Try.func26 (by kernel_rfl) rfl #[.float .f64 (Flt.fbits a1), .float .f64 (Flt.fbits a2)] rfl (by (try simp only [List.map_toArray, List.map_cons, List.map_nil]); first | done | rfl | (simp only [List.length_drop, List.length_take]; rfl)) ?_; (with_reducible refine (rank_Cmp.calls (Flt.fbits a1) (Flt.fbits a2) t151 _ A5.out).mono ?_); rintro e w' ⟨rfl, ⟨nd, rfl⟩⟩; refine ⟨_, rfl, ?_⟩) | ((with_reducible refine gate_callee (f := 26) rfl ?_); refine goesL_ (some 27) rfl rfl Try.func26 (by kernel_rfl) rfl #[.float .f64 (Flt.fbits a0), .float .f64 (Flt.fbits a2)] rfl (by (try simp only [List.map_toArray, List.map_cons, List.map_nil]); first | done | rfl | (simp only [List.length_drop, List.length_take]; rfl)) ?_; (with_reducible refine (rank_Cmp.calls (Flt.fbits a0) (Flt.fbits a2) t152 _ A6.out).mono ?_); rintro e w' ⟨rfl, ⟨nd, rfl⟩⟩; refine ⟨_, rfl, ?_⟩) | ((with_reducible refine gate_callee (f := 19) rfl ?_); refine goesL_ (some 28) rfl rfl Try.func19 (by kernel_rfl) rfl #[] rfl (by (try simp only [List.map_toArray, List.map_cons, List.map_nil]); first | done | rfl | (simp only [List.length_drop, List.length_take]; rfl)) ?_; (with_reducible refine (hornbeamlaw06_fixed.calls  true _ A7.out).mono ?_); rintro e w' ⟨rfl, ⟨nd, rfl⟩⟩; refine ⟨_, rfl, ?_⟩) | (go_at_call 26; (with_reducible refine (rank_Cmp.calls (Flt.fbits a1) (Flt.fbits a0) t170 _ A45.out).mono ?_); rintro e w' ⟨rfl, ⟨nd, rfl⟩⟩))
                  go_ret
                  exact ⟨by first | rfl | (simp; done) | (simp [*]; done), by repeat (first | exact Drawn0.refl _ | apply Drawn0.step)⟩
              · rw [if_neg c44] at H
                have c44b0 : decide (0 ≤ t152) = false := decide_eq_false c44
                clear c44
                obtain rfl := Option.some.inj H
                go_enter Try.func6, Try.ntmps6
                go_wp2_with (first | ((with_reducible refine gate_callee (f := 26) rfl ?_); refine goesL_ (some 21) rfl rfl Try.func26 (by kernel_rfl) rfl #[.float .f64 (Flt.fbits a0), .float .f64 (Flt.fbits a1)] rfl (by (try simp only [List.map_toArray, List.map_cons, List.map_nil]); first | done | rfl | (simp only [List.length_drop, List.length_take]; rfl)) ?_; (with_reducible refine (rank_Cmp.calls (Flt.fbits a0) (Flt.fbits a1) t150 _ A4.out).mono ?_); rintro e w' ⟨rfl, ⟨nd, rfl⟩⟩; refine ⟨_, rfl, ?_⟩) | ((with_reducible refine gate_callee (f := 26) rfl ?_); refine goesL_ (some 24) rfl rfl Try.func26 (by kernel_rfl) rfl #[.float .f64 (Flt.fbits a1), .float .f64 (Flt.fbits a2)] rfl (by (try simp only [List.map_toArray, List.map_cons, List.map_nil]); first | done | rfl | (simp only [List.length_drop, List.length_take]; rfl)) ?_; (with_reducible refine (rank_Cmp.calls (Flt.fbits a1) (Flt.fbits a2) t151 _ A5.out).mono ?_); rintro e w' ⟨rfl, ⟨nd, rfl⟩⟩; refine ⟨_, rfl, ?_⟩) | ((with_reducible refine gate_callee (f := 26) rfl ?_); refine goesL_ (some 27) rfl rfl Try.func26 (by kernel_rfl) rfl #[.float .f64 (Flt.fbits a0), .float .f64 (Flt.fbits a2)] rfl (by (try simp only [List.map_toArray, List.map_cons, List.map_nil]); first | done | rfl | (simp only [List.length_drop, List.length_take]; rfl)) ?_; (with_reducible refine (rank_Cmp.calls (Flt.fbits a0) (Flt.fbits a2) t152 _ A6.out).mono ?_); rintro e w' ⟨rfl, ⟨nd, rfl⟩⟩; refine ⟨_, rfl, ?_⟩) | ((with_reducible refine gate_callee (f := 19) rfl ?_); refine goesL_ (some 28) rfl rfl Try.func19 (by kernel_rfl) rfl #[] rfl (by (try simp only [List.map_toArray, List.map_cons, List.map_nil]); first | done | rfl | (simp only [List.length_drop, List.length_take]; rfl)) ?_; (with_reducible refine (hornbeamlaw06_fixed.calls  true _ A7.out).mono ?_); rintro e w' ⟨rfl, ⟨nd, rfl⟩⟩; refine ⟨_, rfl, ?_⟩))
                go_ret
                exact ⟨by first | rfl | (simp; done) | (simp [*]; done), by repeat (first | exact Drawn0.refl _ | apply Drawn0.step)⟩
        · rw [if_neg c35] at H
          have c35b0 : decide (t152 ≤ 0) = false := decide_eq_false c35
          clear c35
          obtain rfl := Option.some.inj H
          go_enter Try.func6, Try.ntmps6
          go_wp2_with (first | ((with_reducible refine gate_callee (f := 26) rfl ?_); refine goesL_ (some 21) rfl rfl Try.func26 (by kernel_rfl) rfl #[.float .f64 (Flt.fbits a0), .float .f64 (Flt.fbits a1)] rfl (by (try simp only [List.map_toArray, List.map_cons, List.map_nil]); first | done | rfl | (simp only [List.length_drop, List.length_take]; rfl)) ?_; (with_reducible refine (rank_Cmp.calls (Flt.fbits a0) (Flt.fbits a1) t150 _ A4.out).mono ?_); rintro e w' ⟨rfl, ⟨nd, rfl⟩⟩; refine ⟨_, rfl, ?_⟩) | ((with_reducible refine gate_callee (f := 26) rfl ?_); refine goesL_ (some 24) rfl rfl Try.func26 (by kernel_rfl) rfl #[.float .f64 (Flt.fbits a1), .float .f64 (Flt.fbits a2)] rfl (by (try simp only [List.map_toArray, List.map_cons, List.map_nil]); first | done | rfl | (simp only [List.length_drop, List.length_take]; rfl)) ?_; (with_reducible refine (rank_Cmp.calls (Flt.fbits a1) (Flt.fbits a2) t151 _ A5.out).mono ?_); rintro e w' ⟨rfl, ⟨nd, rfl⟩⟩; refine ⟨_, rfl, ?_⟩) | ((with_reducible refine gate_callee (f := 26) rfl ?_); refine goesL_ (some 27) rfl rfl Try.func26 (by kernel_rfl) rfl #[.float .f64 (Flt.fbits a0), .float .f64 (Flt.fbits a2)] rfl (by (try simp only [List.map_toArray, List.map_cons, List.map_nil]); first | done | rfl | (simp only [List.length_drop, List.length_take]; rfl)) ?_; (with_reducible refine (rank_Cmp.calls (Flt.fbits a0) (Flt.fbits a2) t152 _ A6.out).mono ?_); rintro e w' ⟨rfl, ⟨nd, rfl⟩⟩; refine ⟨_, rfl, ?_⟩) | ((with_reducible refine gate_callee (f := 19) rfl ?_); refine goesL_ (some 28) rfl rfl Try.func19 (by kernel_rfl) rfl #[] rfl (by (try simp only [List.map_toArray, List.map_cons, List.map_nil]); first | done | rfl | (simp only [List.length_drop, List.length_take]; rfl)) ?_; (with_reducible refine (hornbeamlaw06_fixed.calls  true _ A7.out).mono ?_); rintro e w' ⟨rfl, ⟨nd, rfl⟩⟩; refine ⟨_, rfl, ?_⟩))
          go_ret
          exact ⟨by first | rfl | (simp; done) | (simp [*]; done), by repeat (first | exact Drawn0.refl _ | apply Drawn0.step)⟩
  · replace c8 := Bool.eq_false_iff.mpr c8
    subst c8
    have H1 : (some false) = some r := by rw [if_neg (show ¬ (false = true) by decide)] at H; exact H
    clear H
    have H := H1
    clear H1
    obtain rfl := Option.some.inj H
    go_enter Try.func6, Try.ntmps6
    go_wp2_with (first | ((with_reducible refine gate_callee (f := 26) rfl ?_); refine goesL_ (some 21) rfl rfl Try.func26 (by kernel_rfl) rfl #[.float .f64 (Flt.fbits a0), .float .f64 (Flt.fbits a1)] rfl (by (try simp only [List.map_toArray, List.map_cons, List.map_nil]); first | done | rfl | (simp only [List.length_drop, List.length_take]; rfl)) ?_; (with_reducible refine (rank_Cmp.calls (Flt.fbits a0) (Flt.fbits a1) t150 _ A4.out).mono ?_); rintro e w' ⟨rfl, ⟨nd, rfl⟩⟩; refine ⟨_, rfl, ?_⟩) | ((with_reducible refine gate_callee (f := 26) rfl ?_); refine goesL_ (some 24) rfl rfl Try.func26 (by kernel_rfl) rfl #[.float .f64 (Flt.fbits a1), .float .f64 (Flt.fbits a2)] rfl (by (try simp only [List.map_toArray, List.map_cons, List.map_nil]); first | done | rfl | (simp only [List.length_drop, List.length_take]; rfl)) ?_; (with_reducible refine (rank_Cmp.calls (Flt.fbits a1) (Flt.fbits a2) t151 _ A5.out).mono ?_); rintro e w' ⟨rfl, ⟨nd, rfl⟩⟩; refine ⟨_, rfl, ?_⟩) | ((with_reducible refine gate_callee (f := 26) rfl ?_); refine goesL_ (some 27) rfl rfl Try.func26 (by kernel_rfl) rfl #[.float .f64 (Flt.fbits a0), .float .f64 (Flt.fbits a2)] rfl (by (try simp only [List.map_toArray, List.map_cons, List.map_nil]); first | done | rfl | (simp only [List.length_drop, List.length_take]; rfl)) ?_; (with_reducible refine (rank_Cmp.calls (Flt.fbits a0) (Flt.fbits a2) t152 _ A6.out).mono ?_); rintro e w' ⟨rfl, ⟨nd, rfl⟩⟩; refine ⟨_, rfl, ?_⟩) | ((with_reducible refine gate_callee (f := 19) rfl ?_); refine goesL_ (some 28) rfl rfl Try.func19 (by kernel_rfl) rfl #[] rfl (by (try simp only [List.map_toArray, List.map_cons, List.map_nil]); first | done | rfl | (simp only [List.length_drop, List.length_take]; rfl)) ?_; (with_reducible refine (hornbeamlaw06_fixed.calls  false _ A7.out).mono ?_); rintro e w' ⟨rfl, ⟨nd, rfl⟩⟩; refine ⟨_, rfl, ?_⟩))
    go_ret
    exact ⟨by first | rfl | (simp; done) | (simp [*]; done), by repeat (first | exact Drawn0.refl _ | apply Drawn0.step)⟩

/-- What is left to prove of hornbeamlaw06_RankChains. -/
def hornbeamlaw06_RankChains.Pure : Prop := ∀ (a0 : Int) (a1 : Int) (a2 : Int), ((Lit.int .u64 a0).wf = true) → ((Lit.int .u64 a1).wf = true) → ((Lit.int .u64 a2).wf = true) → hornbeamlaw06_RankChains.f a0 a1 a2 = some true

end Go.Proofs.Ytlmmlhljflladaa.PA
