/- hornbeam/hornbeamlaw07.TakePlays: for every input that can be read as data the call returns true, and its arguments read afterwards as before. No condition. -/
import Derived.Test.YtebbnjgaikppgaaRows
import Derived.Test.YtebbnjgaikppgaaFTakePlays
import Derived.Test.YtebbnjgaikppgaaOpen
import Derived.WalkKit
import Derived.ProofKit
import Derived.OpenShut
import Derived.ShutString
import Derived.ChangeOld
import Derived.Below
import Derived.SizedLaws
namespace Go.Proofs.Ytebbnjgaikppgaa.takePlays
open Go.ChangeShapes Go.WideShapes Go.ChangeAt Go.RowKit Go.Proofs.YtebbnjgaikppgaaW.PrintWords Go.Proofs.Ytebbnjgaikppgaa
open Go.ChangeMaps (open_string shut_string)
set_option linter.unusedVariables false
set_option linter.unusedSimpArgs false
theorem own : ownKnob Try.prog.godebug = none := by kernel_rfl
theorem laidOut : laidOutB Try.prog = true := by kernel_rfl
set_option maxRecDepth 100000 in
theorem lifted (os : Os) (started : os.Started) (H : Type) (enc : TypeId × Value → H) :
    ReturnsInHanded {} Try.checked os 3 .any (Rows.takePlaysSpec.pre6 enc Try.prog Try.f3 Rows.takePlaysRow.domain false) (Rows.takePlaysSpec.post enc Try.prog Try.f3 false true false false) := by
  refine returnsInHanded_of_change_sized (C := Try.checked) own started (by kernel_rfl) Try.func3
    (ChangeSpec.witness6 (enc := enc) (C := Try.checked) false ⟨#[], #[.slice none 0 0, .slice none 0 0], []⟩ 8 (by kernel_rfl) (by kernel_rfl) (by kernel_rfl) (by kernel_rfl)) ?_
  intro W base args ds gs before hval0 hW hcnd hsz0 _
  have hsz : (DataW.weightsEach Try.prog (Try.f3.params.toList ++ Rows.takePlaysSpec.plain.varTypes Try.prog) (ds ++ gs)).all (· ≤ reachBytes) = true := hsz0
  have hval : ∀ (j : Nat) t v, Try.f3.params[j]? = some t → args[j]? = some v → Value.okWide Try.prog W .any base t v := hval0
  have hW' := hW
  obtain ⟨p, q, hA0, hV, rfl, hfz, hnd⟩ := hW
  have hA : DataW.TrodAll enc Try.prog W 0 (fun _ => true) true Try.f3.params.toList args.toList ds p := hA0
  rw [Try.params3] at hA hval hsz
  obtain ⟨v0, vs0, d0, ds0, p0, q0, hargs, rfl, rfl, h0, r0⟩ := trodAll_cons hA
  obtain ⟨v1, vs1, d1, ds1, p1, q1, rfl, rfl, rfl, h1, r1⟩ := trodAll_cons r0
  obtain ⟨rfl, rfl, rfl⟩ := trodAll_nil r1
  obtain rfl : args = #[v0, v1] := by cases args; simp_all
  obtain ⟨rfl, rfl⟩ := trodVars_none hV
  have lt0 : ∀ x ∈ p0, x.block < W.heap.size := by obtain ⟨m, hm⟩ := h0; exact DataW.trod_lt m _ _ _ hm
  obtain ⟨X0, hK0, hO0⟩ := Open.arg (Open.slice_ (d := (Kd.int .u8)) Try.underlying22 (by kernel_rfl) (by kernel_rfl) (Open.int_ Try.underlying5)) h0 hsz (j := 0) rfl rfl
  have hQ0 : X0.length ≤ 9223372036854775807 ∧ X0.length * 1 ≤ 140737488351232 ∧ ∀ x ∈ X0, (Lit.int .u8 x).wf = true := hO0
  obtain ⟨B0, len0, cap0, rfl⟩ := okWide_slice Try.underlying22 (hval 0 22 v0 rfl rfl)
  obtain ⟨A0, c0, hcs0, hc0, hr0⟩ := hK0
  simp only [Value.cells, List.cons.injEq, Value.slice.injEq, and_true] at hcs0
  obtain ⟨rfl, rfl, rfl⟩ := hcs0
  have lt1 : ∀ x ∈ p1, x.block < W.heap.size := by obtain ⟨m, hm⟩ := h1; exact DataW.trod_lt m _ _ _ hm
  obtain ⟨X1, hK1, hO1⟩ := Open.arg (Open.slice_ (d := (Kd.int .i8)) Try.underlying23 (by kernel_rfl) (by kernel_rfl) (Open.int_ Try.underlying30)) h1 hsz (j := 1) rfl rfl
  have hQ1 : X1.length ≤ 9223372036854775807 ∧ X1.length * 1 ≤ 140737488351232 ∧ ∀ x ∈ X1, (Lit.int .i8 x).wf = true := hO1
  obtain ⟨B1, len1, cap1, rfl⟩ := okWide_slice Try.underlying23 (hval 1 23 v1 rfl rfl)
  obtain ⟨A1, c1, hcs1, hc1, hr1⟩ := hK1
  simp only [Value.cells, List.cons.injEq, Value.slice.injEq, and_true] at hcs1
  obtain ⟨rfl, rfl, rfl⟩ := hcs1
  refine (FTakePlays.law_calls B0 B1 cap0 cap1 X0 X1 W hr0 hc0 hr1 hc1 (fun x hx => by have := Pure.wf_u8 (hQ0.2.2 x hx); omega) (fun x hx => FTakePlays.wf_i8 (hQ1.2.2 x hx))).mono fun e W' ⟨he, bel0⟩ => ?_
  have bel : Below W.heap.size W W' := bel0
  subst he
  exact ⟨_, rfl, _, _, _, [], _, [], hW', trodAll_mk1 (shut_bool Try.underlying4 _), (trodAll_cons_mk (Below.trod laidOut (by kernel_rfl) (of_decide_eq_true (by kernel_rfl)) h0 bel lt0) (trodAll_cons_mk (Below.trod laidOut (by kernel_rfl) (of_decide_eq_true (by kernel_rfl)) h1 bel lt1) trodAll_mk0)), rfl, bel.frame _, fun h => by cases h⟩
theorem over : Rows.takePlaysRow.holds Try.pinned (OpenSpec.ofChange Rows.takePlaysSpec) :=
  OpenClaim.holds_of_wide 3 Try.f3 rfl rfl rfl rfl rfl rfl rfl ⟨rfl, rfl, rfl, rfl, rfl⟩ rfl rfl rfl rfl rfl (by kernel_rfl) Try.func3 (by kernel_rfl)
    (of_decide_eq_true (by kernel_rfl)) (by unfold Func.isWrapper; first | (rw [if_pos (by decide +kernel)]; kernel_rfl) | (rw [if_neg (by decide +kernel)]; exact ⟨rfl, rfl⟩))
    (fun os started H enc _ => lifted os started H enc)
theorem proved : Rows.TakePlaysSaid := over
#print axioms proved
end Go.Proofs.Ytebbnjgaikppgaa.takePlays
namespace Go.Proofs.Ytebbnjgaikppgaa
/-- The row, under a short name, for the claim. -/
theorem takePlays_holds : Rows.TakePlaysSaid := takePlays.proved
end Go.Proofs.Ytebbnjgaikppgaa
