/- hornbeam/hornbeamlaw07.TakeFails: for every input that can be read as data the call returns true, and its arguments read afterwards as before. No condition. -/
import Derived.Test.YtebbnjgaikppgaaRows
import Derived.Test.YtebbnjgaikppgaaFTakeFails
import Derived.Test.YtebbnjgaikppgaaOpen
import Derived.WalkKit
import Derived.ProofKit
import Derived.OpenShut
import Derived.ShutString
import Derived.ChangeOld
import Derived.Below
import Derived.SizedLaws
namespace Go.Proofs.Ytebbnjgaikppgaa.takeFails
open Go.ChangeShapes Go.WideShapes Go.ChangeAt Go.RowKit Go.Proofs.YtebbnjgaikppgaaW.PrintWords Go.Proofs.Ytebbnjgaikppgaa
open Go.ChangeMaps (open_string shut_string)
set_option linter.unusedVariables false
set_option linter.unusedSimpArgs false
theorem own : ownKnob Try.prog.godebug = none := by kernel_rfl
theorem laidOut : laidOutB Try.prog = true := by kernel_rfl
set_option maxRecDepth 100000 in
theorem lifted (os : Os) (started : os.Started) (H : Type) (enc : TypeId × Value → H) :
    ReturnsInHanded {} Try.checked os 4 .any (Rows.takeFailsSpec.pre6 enc Try.prog Try.f4 Rows.takeFailsRow.domain false) (Rows.takeFailsSpec.post enc Try.prog Try.f4 false true false false) := by
  refine returnsInHanded_of_change_sized (C := Try.checked) own started (by kernel_rfl) Try.func4
    (ChangeSpec.witness6 (enc := enc) (C := Try.checked) false ⟨#[], #[.slice none 0 0, .int .i16 0, .slice none 0 0], []⟩ 8 (by kernel_rfl) (by kernel_rfl) (by kernel_rfl) (by kernel_rfl)) ?_
  intro W base args ds gs before hval0 hW hcnd hsz0 _
  have hsz : (DataW.weightsEach Try.prog (Try.f4.params.toList ++ Rows.takeFailsSpec.plain.varTypes Try.prog) (ds ++ gs)).all (· ≤ reachBytes) = true := hsz0
  have hval : ∀ (j : Nat) t v, Try.f4.params[j]? = some t → args[j]? = some v → Value.okWide Try.prog W .any base t v := hval0
  have hW' := hW
  obtain ⟨p, q, hA0, hV, rfl, hfz, hnd⟩ := hW
  have hA : DataW.TrodAll enc Try.prog W 0 (fun _ => true) true Try.f4.params.toList args.toList ds p := hA0
  rw [Try.params4] at hA hval hsz
  obtain ⟨v0, vs0, d0, ds0, p0, q0, hargs, rfl, rfl, h0, r0⟩ := trodAll_cons hA
  obtain ⟨v1, vs1, d1, ds1, p1, q1, rfl, rfl, rfl, h1, r1⟩ := trodAll_cons r0
  obtain ⟨v2, vs2, d2, ds2, p2, q2, rfl, rfl, rfl, h2, r2⟩ := trodAll_cons r1
  obtain ⟨rfl, rfl, rfl⟩ := trodAll_nil r2
  obtain rfl : args = #[v0, v1, v2] := by cases args; simp_all
  obtain ⟨rfl, rfl⟩ := trodVars_none hV
  have lt0 : ∀ x ∈ p0, x.block < W.heap.size := by obtain ⟨m, hm⟩ := h0; exact DataW.trod_lt m _ _ _ hm
  obtain ⟨X0, hK0, hO0⟩ := Open.arg (Open.slice_ (d := (Kd.int .u8)) Try.underlying22 (by kernel_rfl) (by kernel_rfl) (Open.int_ Try.underlying5)) h0 hsz (j := 0) rfl rfl
  have hQ0 : X0.length ≤ 9223372036854775807 ∧ X0.length * 1 ≤ 140737488351232 ∧ ∀ x ∈ X0, (Lit.int .u8 x).wf = true := hO0
  obtain ⟨B0, len0, cap0, rfl⟩ := okWide_slice Try.underlying22 (hval 0 22 v0 rfl rfl)
  obtain ⟨A0, c0, hcs0, hc0, hr0⟩ := hK0
  simp only [Value.cells, List.cons.injEq, Value.slice.injEq, and_true] at hcs0
  obtain ⟨rfl, rfl, rfl⟩ := hcs0
  have lt1 : ∀ x ∈ p1, x.block < W.heap.size := by obtain ⟨m, hm⟩ := h1; exact DataW.trod_lt m _ _ _ hm
  obtain ⟨X1, hK1, hO1⟩ := Open.arg (Open.int_ Try.underlying38) h1 hsz (j := 1) rfl rfl
  obtain ⟨y1, rfl⟩ := okWide_int Try.underlying38 (hval 1 38 v1 rfl rfl)
  obtain rfl : y1 = X1 := by have z := hK1; simpa [Value.cells, Kd.int, Kd.bool, Kd.string, Kd.scalar] using z
  have lt2 : ∀ x ∈ p2, x.block < W.heap.size := by obtain ⟨m, hm⟩ := h2; exact DataW.trod_lt m _ _ _ hm
  obtain ⟨X2, hK2, hO2⟩ := Open.arg (Open.slice_ (d := (Kd.int .u8)) Try.underlying22 (by kernel_rfl) (by kernel_rfl) (Open.int_ Try.underlying5)) h2 hsz (j := 2) rfl rfl
  have hQ2 : X2.length ≤ 9223372036854775807 ∧ X2.length * 1 ≤ 140737488351232 ∧ ∀ x ∈ X2, (Lit.int .u8 x).wf = true := hO2
  obtain ⟨B2, len2, cap2, rfl⟩ := okWide_slice Try.underlying22 (hval 2 22 v2 rfl rfl)
  obtain ⟨A2, c2, hcs2, hc2, hr2⟩ := hK2
  simp only [Value.cells, List.cons.injEq, Value.slice.injEq, and_true] at hcs2
  obtain ⟨rfl, rfl, rfl⟩ := hcs2
  refine (FTakeFails.law_calls B0 B2 cap0 cap2 X0 X2 y1 W hr0 hc0 hr2 hc2 (fun x hx => FTakeFails.wf_u8 (hQ0.2.2 x hx)) (fun x hx => FTakeFails.wf_u8 (hQ2.2.2 x hx)) (FTakeFails.wf_i16 hO1)).mono fun e W' ⟨he, bel0⟩ => ?_
  have bel : Below W.heap.size W W' := bel0
  subst he
  exact ⟨_, rfl, _, _, _, [], _, [], hW', trodAll_mk1 (shut_bool Try.underlying4 _), (trodAll_cons_mk (Below.trod laidOut (by kernel_rfl) (of_decide_eq_true (by kernel_rfl)) h0 bel lt0) (trodAll_cons_mk (Below.trod laidOut (by kernel_rfl) (of_decide_eq_true (by kernel_rfl)) h1 bel lt1) (trodAll_cons_mk (Below.trod laidOut (by kernel_rfl) (of_decide_eq_true (by kernel_rfl)) h2 bel lt2) trodAll_mk0))), rfl, bel.frame _, fun h => by cases h⟩
theorem over : Rows.takeFailsRow.holds Try.pinned (OpenSpec.ofChange Rows.takeFailsSpec) :=
  OpenClaim.holds_of_wide 4 Try.f4 rfl rfl rfl rfl rfl rfl rfl ⟨rfl, rfl, rfl, rfl, rfl⟩ rfl rfl rfl rfl rfl (by kernel_rfl) Try.func4 (by kernel_rfl)
    (of_decide_eq_true (by kernel_rfl)) (by unfold Func.isWrapper; first | (rw [if_pos (by decide +kernel)]; kernel_rfl) | (rw [if_neg (by decide +kernel)]; exact ⟨rfl, rfl⟩))
    (fun os started H enc _ => lifted os started H enc)
theorem proved : Rows.TakeFailsSaid := over
#print axioms proved
end Go.Proofs.Ytebbnjgaikppgaa.takeFails
namespace Go.Proofs.Ytebbnjgaikppgaa
/-- The row, under a short name, for the claim. -/
theorem takeFails_holds : Rows.TakeFailsSaid := takeFails.proved
end Go.Proofs.Ytebbnjgaikppgaa
