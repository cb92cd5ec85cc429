/- hornbeam/hornbeamlaw11.BinsOf: for every input that can be read as data the call returns true, and its arguments read afterwards as before. No condition. -/
import Derived.Test.YtnagfbadjbkhmaaRows
import Derived.Test.YtnagfbadjbkhmaaFBinsOf
import Derived.Test.YtnagfbadjbkhmaaOpen
import Derived.WalkKit
import Derived.ProofKit
import Derived.OpenShut
import Derived.ShutString
import Derived.ChangeOld
import Derived.Below
import Derived.SizedLaws
namespace Go.Proofs.Ytnagfbadjbkhmaa.binsOf
open Go.ChangeShapes Go.WideShapes Go.ChangeAt Go.RowKit Go.Proofs.YtnagfbadjbkhmaaW.PrintWords Go.Proofs.Ytnagfbadjbkhmaa
open Go.ChangeMaps (open_string shut_string)
set_option linter.unusedVariables false
set_option linter.unusedSimpArgs false
theorem own : ownKnob Try.prog.godebug = none := by kernel_rfl
theorem laidOut : laidOutB Try.prog = true := by kernel_rfl
set_option maxRecDepth 100000 in
theorem lifted (os : Os) (started : os.Started) (H : Type) (enc : TypeId × Value → H) :
    ReturnsInHanded {} Try.checked os 7 .any (Rows.binsOfSpec.pre6 enc Try.prog Try.f7 Rows.binsOfRow.domain false) (Rows.binsOfSpec.post enc Try.prog Try.f7 false true false false) := by
  refine returnsInHanded_of_change_sized (C := Try.checked) own started (by kernel_rfl) Try.func7
    (ChangeSpec.witness6 (enc := enc) (C := Try.checked) false ⟨#[], #[.agg #[.int .i64 0, .int .i64 0, .int .i64 0, .int .i64 0, .int .i64 0, .int .i64 0, .int .i64 0, .int .i64 0, .int .i64 0, .slice none 0 0, .slice none 0 0], .slice none 0 0], []⟩ 8 (by kernel_rfl) (by kernel_rfl) (by kernel_rfl) (by kernel_rfl)) ?_
  intro W base args ds gs before hval0 hW hcnd hsz0 _
  have hsz : (DataW.weightsEach Try.prog (Try.f7.params.toList ++ Rows.binsOfSpec.plain.varTypes Try.prog) (ds ++ gs)).all (· ≤ reachBytes) = true := hsz0
  have hval : ∀ (j : Nat) t v, Try.f7.params[j]? = some t → args[j]? = some v → Value.okWide Try.prog W .any base t v := hval0
  have hW' := hW
  obtain ⟨p, q, hA0, hV, rfl, hfz, hnd⟩ := hW
  have hA : DataW.TrodAll enc Try.prog W 0 (fun _ => true) true Try.f7.params.toList args.toList ds p := hA0
  rw [Try.params7] at hA hval hsz
  obtain ⟨v0, vs0, d0, ds0, p0, q0, hargs, rfl, rfl, h0, r0⟩ := trodAll_cons hA
  obtain ⟨v1, vs1, d1, ds1, p1, q1, rfl, rfl, rfl, h1, r1⟩ := trodAll_cons r0
  obtain ⟨rfl, rfl, rfl⟩ := trodAll_nil r1
  obtain rfl : args = #[v0, v1] := by cases args; simp_all
  obtain ⟨rfl, rfl⟩ := trodVars_none hV
  have lt0 : ∀ x ∈ p0, x.block < W.heap.size := by obtain ⟨m, hm⟩ := h0; exact DataW.trod_lt m _ _ _ hm
  obtain ⟨X0, hK0, hO0⟩ := Open.arg (Open.struct_ Try.underlying27 (by kernel_rfl) (Open.more_ (Open.struct_ Try.underlying23 (by kernel_rfl) (Open.more_ (Open.int_ Try.underlying3) rfl (by kernel_rfl) (Open.more_ (Open.int_ Try.underlying3) rfl (by kernel_rfl) (Open.more_ (Open.int_ Try.underlying3) rfl (by kernel_rfl) (Open.more_ (Open.int_ Try.underlying3) rfl (by kernel_rfl) (Open.more_ (Open.int_ Try.underlying3) rfl (by kernel_rfl) (Open.more_ (Open.int_ Try.underlying3) rfl (by kernel_rfl) (Open.last_ (Open.int_ Try.underlying3) rfl (by kernel_rfl))))))))) rfl (by kernel_rfl) (Open.more_ (Open.int_ Try.underlying3) rfl (by kernel_rfl) (Open.more_ (Open.int_ Try.underlying3) rfl (by kernel_rfl) (Open.more_ (Open.slice_ (d := (Kd.int .u64)) Try.underlying24 (by kernel_rfl) (by kernel_rfl) (Open.int_ Try.underlying37)) rfl (by kernel_rfl) (Open.last_ (Open.slice_ (d := (Kd.int .i64)) Try.underlying25 (by kernel_rfl) (by kernel_rfl) (Open.int_ Try.underlying2)) rfl (by kernel_rfl))))))) h0 hsz (j := 0) rfl rfl
  obtain ⟨cs0, rfl, _⟩ := okWide_struct Try.underlying27 (hval 0 27 v0 rfl rfl)
  obtain ⟨⟨z0_0, ⟨z0_1, ⟨z0_2, ⟨z0_3, ⟨z0_4, ⟨z0_5, z0_6⟩⟩⟩⟩⟩⟩, ⟨z0_7, ⟨z0_8, ⟨z0_9, z0_10⟩⟩⟩⟩ := X0
  obtain ⟨_, _, hcs0, ⟨_, _, rfl, rfl, ⟨_, _, rfl, rfl, ⟨_, _, rfl, rfl, ⟨_, _, rfl, rfl, ⟨_, _, rfl, rfl, ⟨_, _, rfl, rfl, rfl⟩⟩⟩⟩⟩⟩, ⟨_, _, rfl, rfl, ⟨_, _, rfl, rfl, ⟨_, _, rfl, ⟨A0_9, c0_9, rfl, hc0_9, hr0_9⟩, ⟨A0_10, c0_10, rfl, hc0_10, hr0_10⟩⟩⟩⟩⟩ := hK0
  have e0 := congrArg List.toArray hcs0
  simp only [Value.cells, List.cons_append, List.nil_append, Array.toArray_toList] at e0
  subst e0
  have hQ0 : ((((Lit.int .i64 z0_0).wf = true) ∧ (((Lit.int .i64 z0_1).wf = true) ∧ (((Lit.int .i64 z0_2).wf = true) ∧ (((Lit.int .i64 z0_3).wf = true) ∧ (((Lit.int .i64 z0_4).wf = true) ∧ (((Lit.int .i64 z0_5).wf = true) ∧ ((Lit.int .i64 z0_6).wf = true))))))) ∧ (((Lit.int .i64 z0_7).wf = true) ∧ (((Lit.int .i64 z0_8).wf = true) ∧ (((z0_9.length ≤ 9223372036854775807) ∧ (z0_9.length * 8 ≤ 140737488351232) ∧ (∀ x_ ∈ z0_9, ((Lit.int .u64 x_).wf = true))) ∧ ((z0_10.length ≤ 9223372036854775807) ∧ (z0_10.length * 8 ≤ 140737488351232) ∧ (∀ x_ ∈ z0_10, ((Lit.int .i64 x_).wf = true))))))) := hO0
  obtain ⟨hO0c, hO0r, hO0k, ⟨_, _, hO0v⟩, _, _, hO0t⟩ := hQ0
  have lt1 : ∀ x ∈ p1, x.block < W.heap.size := by obtain ⟨m, hm⟩ := h1; exact DataW.trod_lt m _ _ _ hm
  obtain ⟨X1, hK1, hO1⟩ := Open.arg (Open.slice_ (d := (Kd.slice 37 (Kd.int .u64))) Try.underlying55 (by kernel_rfl) (by kernel_rfl) (Open.slice_ (d := (Kd.int .u64)) Try.underlying24 (by kernel_rfl) (by kernel_rfl) (Open.int_ Try.underlying37))) h1 hsz (j := 1) rfl rfl
  obtain ⟨B1, len1, cap1, rfl⟩ := okWide_slice Try.underlying55 (hval 1 55 v1 rfl rfl)
  obtain ⟨A1, c1, hcs1, hc1, hr1⟩ := hK1
  simp only [Value.cells, List.cons.injEq, Value.slice.injEq, and_true] at hcs1
  obtain ⟨rfl, rfl, rfl⟩ := hcs1
  have hQ1 : X1.length ≤ 9223372036854775807 ∧ X1.length * 24 ≤ 140737488351232 ∧ ∀ x ∈ X1, (x.length ≤ 9223372036854775807 ∧ x.length * 8 ≤ 140737488351232 ∧ ∀ y ∈ x, (Lit.int .u64 y).wf = true) := hO1
  refine (FBinsOf.law_calls z0_0 z0_1 z0_2 z0_3 z0_4 z0_5 z0_6 z0_7 z0_8 A0_9 A0_10 c0_9 c0_10 z0_9 z0_10 B1 cap1 X1 W hr0_9 hc0_9 hr0_10 hc0_10 hr1 hc1 hO0v (fun l hl => (hQ1.2.2 l hl).2.2)).mono fun e W' ⟨he, bel0⟩ => ?_
  have bel : Below W.heap.size W W' := bel0
  subst he
  exact ⟨_, rfl, _, _, _, [], _, [], hW', trodAll_mk1 (shut_bool Try.underlying4 _), (trodAll_cons_mk (Below.trod laidOut (by kernel_rfl) (of_decide_eq_true (by kernel_rfl)) h0 bel lt0) (trodAll_cons_mk (Below.trod laidOut (by kernel_rfl) (of_decide_eq_true (by kernel_rfl)) h1 bel lt1) trodAll_mk0)), rfl, bel.frame _, fun h => by cases h⟩
theorem over : Rows.binsOfRow.holds Try.pinned (OpenSpec.ofChange Rows.binsOfSpec) :=
  OpenClaim.holds_of_wide 7 Try.f7 rfl rfl rfl rfl rfl rfl rfl ⟨rfl, rfl, rfl, rfl, rfl⟩ rfl rfl rfl rfl rfl (by kernel_rfl) Try.func7 (by kernel_rfl)
    (of_decide_eq_true (by kernel_rfl)) (by unfold Func.isWrapper; first | (rw [if_pos (by decide +kernel)]; kernel_rfl) | (rw [if_neg (by decide +kernel)]; exact ⟨rfl, rfl⟩))
    (fun os started H enc _ => lifted os started H enc)
theorem proved : Rows.BinsOfSaid := over
#print axioms proved
end Go.Proofs.Ytnagfbadjbkhmaa.binsOf
namespace Go.Proofs.Ytnagfbadjbkhmaa
/-- The row, under a short name, for the claim. -/
theorem binsOf_holds : Rows.BinsOfSaid := binsOf.proved
end Go.Proofs.Ytnagfbadjbkhmaa
