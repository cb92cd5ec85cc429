/- hornbeam/hornbeamlaw09.DatasetGets: for every input that can be read as data the call returns true, and its arguments read afterwards as before. No condition. -/
import Derived.Test.YtnagfbadjbkhmaaRows
import Derived.Test.YtnagfbadjbkhmaaFDatasetGetsM
import Derived.Test.YtnagfbadjbkhmaaOpen
import Derived.WalkKit
import Derived.ProofKit
import Derived.OpenShut
import Derived.ShutString
import Derived.ChangeOld
import Derived.Below
import Derived.SizedLaws
namespace Go.Proofs.Ytnagfbadjbkhmaa.datasetGets
open Go.ChangeShapes Go.WideShapes Go.ChangeAt Go.RowKit Go.Proofs.YtnagfbadjbkhmaaW.PrintWords Go.Proofs.Ytnagfbadjbkhmaa
open Go.ChangeMaps (open_string shut_string)
set_option linter.unusedVariables false
set_option linter.unusedSimpArgs false
theorem own : ownKnob Try.prog.godebug = none := by kernel_rfl
theorem laidOut : laidOutB Try.prog = true := by kernel_rfl
set_option maxRecDepth 100000 in
theorem lifted (os : Os) (started : os.Started) (H : Type) (enc : TypeId × Value → H) :
    ReturnsInHanded {} Try.checked os 5 .any (Rows.datasetGetsSpec.pre6 enc Try.prog Try.f5 Rows.datasetGetsRow.domain false) (Rows.datasetGetsSpec.post enc Try.prog Try.f5 false true false false) := by
  refine returnsInHanded_of_change_sized (C := Try.checked) own started (by kernel_rfl) Try.func5
    (ChangeSpec.witness6 (enc := enc) (C := Try.checked) false ⟨#[], #[.slice none 0 0], []⟩ 8 (by kernel_rfl) (by kernel_rfl) (by kernel_rfl) (by kernel_rfl)) ?_
  intro W base args ds gs before hval0 hW hcnd hsz0 _
  have hsz : (DataW.weightsEach Try.prog (Try.f5.params.toList ++ Rows.datasetGetsSpec.plain.varTypes Try.prog) (ds ++ gs)).all (· ≤ reachBytes) = true := hsz0
  have hval : ∀ (j : Nat) t v, Try.f5.params[j]? = some t → args[j]? = some v → Value.okWide Try.prog W .any base t v := hval0
  have hW' := hW
  obtain ⟨p, q, hA0, hV, rfl, hfz, hnd⟩ := hW
  have hA : DataW.TrodAll enc Try.prog W 0 (fun _ => true) true Try.f5.params.toList args.toList ds p := hA0
  rw [Try.params5] at hA hval hsz
  obtain ⟨v0, vs0, d0, ds0, p0, q0, hargs, rfl, rfl, h0, r0⟩ := trodAll_cons hA
  obtain ⟨rfl, rfl, rfl⟩ := trodAll_nil r0
  obtain rfl : args = #[v0] := by cases args; simp_all
  obtain ⟨rfl, rfl⟩ := trodVars_none hV
  have lt0 : ∀ x ∈ p0, x.block < W.heap.size := by obtain ⟨m, hm⟩ := h0; exact DataW.trod_lt m _ _ _ hm
  obtain ⟨X0, hK0, hO0⟩ := Open.arg (Open.slice_ (d := (Kd.int .u8)) Try.underlying42 (by kernel_rfl) (by kernel_rfl) (Open.int_ Try.underlying5)) h0 hsz (j := 0) rfl rfl
  have hQ0 : X0.length ≤ 9223372036854775807 ∧ X0.length * 1 ≤ 140737488351232 ∧ ∀ x ∈ X0, (Lit.int .u8 x).wf = true := hO0
  obtain ⟨B0, len0, cap0, rfl⟩ := okWide_slice Try.underlying42 (hval 0 42 v0 rfl rfl)
  obtain ⟨A0, c0, hcs0, hc0, hr0⟩ := hK0
  simp only [Value.cells, List.cons.injEq, Value.slice.injEq, and_true] at hcs0
  obtain ⟨rfl, rfl, rfl⟩ := hcs0
  refine (FDatasetGets.law_calls B0 cap0 X0 W hr0 hc0 (fun x hx => by have := Pure.wf_u8 (hQ0.2.2 x hx); omega)).mono fun e W' ⟨he, bel0⟩ => ?_
  have bel : Below W.heap.size W W' := bel0
  subst he
  exact ⟨_, rfl, _, _, _, [], _, [], hW', trodAll_mk1 (shut_bool Try.underlying4 _), (trodAll_cons_mk (Below.trod laidOut (by kernel_rfl) (of_decide_eq_true (by kernel_rfl)) h0 bel lt0) trodAll_mk0), rfl, bel.frame _, fun h => by cases h⟩
theorem over : Rows.datasetGetsRow.holds Try.pinned (OpenSpec.ofChange Rows.datasetGetsSpec) :=
  OpenClaim.holds_of_wide 5 Try.f5 rfl rfl rfl rfl rfl rfl rfl ⟨rfl, rfl, rfl, rfl, rfl⟩ rfl rfl rfl rfl rfl (by kernel_rfl) Try.func5 (by kernel_rfl)
    (of_decide_eq_true (by kernel_rfl)) (by unfold Func.isWrapper; first | (rw [if_pos (by decide +kernel)]; kernel_rfl) | (rw [if_neg (by decide +kernel)]; exact ⟨rfl, rfl⟩))
    (fun os started H enc _ => lifted os started H enc)
theorem proved : Rows.DatasetGetsSaid := over
#print axioms proved
end Go.Proofs.Ytnagfbadjbkhmaa.datasetGets
namespace Go.Proofs.Ytnagfbadjbkhmaa
/-- The row, under a short name, for the claim. -/
theorem datasetGets_holds : Rows.DatasetGetsSaid := datasetGets.proved
end Go.Proofs.Ytnagfbadjbkhmaa
