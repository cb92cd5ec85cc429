-- Written by a program of this session (wip/hp) out of the translation of seat Ytlmmlhljflladaa.
import Derived.Test.YtlmmlhljflladaaPAx0
import Derived.Test.YtlmmlhljflladaaPAx7
import Derived.Test.YtlmmlhljflladaaPAx13
import Derived.Test.YtlmmlhljflladaaPAx19
import Derived.Test.YtlmmlhljflladaaPAx20
import Derived.Test.YtlmmlhljflladaaPAx21
namespace Go.Proofs.Ytlmmlhljflladaa.PA
open Go.RowKit Go.Proofs.YtlmmlhljflladaaW.PrintWords Go.Proofs.YtlmmlhljflladaaW.PrintLast Go.Proofs.YtlmmlhljflladaaW.PrintMore
attribute [local go_sem] max2_int min2_int max_two min_two max_three min_three max_four min_four   -- for this text's walks alone
attribute [local go_sem high] Flt.fold_eq Flt.fold_ne Flt.fold_lt Flt.fold_gt Flt.fold_le Flt.fold_ge Flt.run_bits Flt.run_frombits
set_option linter.unusedVariables false
set_option linter.unusedSimpArgs false

/-! ### hornbeamlaw10_EdgesBins: function 12 -/
def hornbeamlaw10_EdgesBins.f (k : Nat) (l0 : List Int) (a1 : Int) : Option (Bool) := if (l0.length : Int) > 300 then ((hornbeamlaw10_fixed.f k).bind fun t388 => (some t388)) else ((hornbeamref06_Of.f k l0).bind fun t389 => ((hornbeamlaw10_fixed.f k).bind fun t392 => (if t392 = true then ((edges_Bin.f k t389 (Flt.fbits a1)).bind fun t393 => ((hornbeamref10_Bin.f k t389 (Flt.fbits a1)).bind fun t394 => (if t393 = t394 then ((edges_Right.f k t389).bind fun t395 => ((hornbeamref10_Right.f k t389).bind fun t396 => (some (t395 == t396)))) else (some false)))) else (some false))))
theorem hornbeamlaw10_EdgesBins.mono : ∀ a0 a1 k, LeO (hornbeamlaw10_EdgesBins.f k a0 a1) (hornbeamlaw10_EdgesBins.f (k + 1) a0 a1) := by
  intro a0 a1 k
  unfold hornbeamlaw10_EdgesBins.f
  repeat' first
      | (with_reducible exact edges_Bin.mono _ _ _)
      | (with_reducible exact edges_Right.mono _ _)
      | (with_reducible exact hornbeamlaw10_fixed.mono _)
      | (with_reducible exact hornbeamref06_Of.mono _ _)
      | (with_reducible exact hornbeamref10_Bin.mono _ _ _)
      | (with_reducible exact hornbeamref10_Right.mono _ _)
      | (with_reducible exact LeO.refl _)
      | (with_reducible exact LeO.none _)
      | (with_reducible refine LeO.ite ?_ ?_)
      | (with_reducible refine LeO.bind ?_ (fun _ => ?_))
      | exact edges_Bin.mono _ _ _
      | exact edges_Right.mono _ _
      | exact hornbeamlaw10_fixed.mono _
      | exact hornbeamref06_Of.mono _ _
      | exact hornbeamref10_Bin.mono _ _ _
      | exact hornbeamref10_Right.mono _ _
      | exact LeO.none _
      | refine LeO.ite ?_ ?_
      | refine LeO.bind ?_ (fun _ => ?_)
set_option maxHeartbeats 8000000 in
set_option maxRecDepth 100000 in
theorem hornbeamlaw10_EdgesBins.calls (k : Nat) (A0 : Option Addr) (c0 : Nat) (l0 : List Int) (a1 : Int) (r : Bool) (w : World) (hr0 : Kd.C (Kd.int .u64) w A0 l0.length l0) (hc0 : l0.length ≤ c0) (h : hornbeamlaw10_EdgesBins.f k l0 a1 = some r) :
    Calls Try.prog 12 #[.slice A0 l0.length c0, .int .u64 a1] w fun e w' => e = .returned (.bool r) ∧ Below w.heap.size w w' := by
  have HR0 := Aside0.mk hr0
  have HC0 := Aside0.mk hc0
  clear hr0 hc0
  have HB := Aside0.mk (Below.refl w.heap.size w)
  have H : (if (l0.length : Int) > 300 then ((hornbeamlaw10_fixed.f k).bind fun t388 => (some t388)) else ((hornbeamref06_Of.f k l0).bind fun t389 => ((hornbeamlaw10_fixed.f k).bind fun t392 => (if t392 = true then ((edges_Bin.f k t389 (Flt.fbits a1)).bind fun t393 => ((hornbeamref10_Bin.f k t389 (Flt.fbits a1)).bind fun t394 => (if t393 = t394 then ((edges_Right.f k t389).bind fun t395 => ((hornbeamref10_Right.f k t389).bind fun t396 => (some (t395 == t396)))) else (some false)))) else (some false))))) = some r := h
  clear h
  by_cases c3 : (l0.length : Int) > 300
  · rw [if_pos c3] at H
    have c3b0 : decide (300 < (l0.length : Int)) = true := decide_eq_true c3
    have c3b1 : decide (300 < l0.length) = true := decide_eq_true (by omega)
    clear c3
    replace H := Option.bind_eq_some_iff.mp H
    obtain ⟨t388, A40, H⟩ := H
    replace H : (some t388) = some r := H
    have A4 := Aside0.mk A40
    clear A40
    obtain rfl := Option.some.inj H
    go_enter Try.func12, Try.ntmps12
    go_wp2_with (first | ((with_reducible refine gate_callee (f := 32) rfl ?_); refine goesL_ (some 9) rfl rfl Try.func32 (by kernel_rfl) rfl #[] rfl (by (try simp only [List.map_toArray, List.map_cons, List.map_nil]); first | done | rfl | (simp only [List.length_drop, List.length_take]; rfl)) ?_; (with_reducible refine (hornbeamlaw10_fixed.calls k  t388 _ A4.out).mono ?_); rintro e w5 ⟨rfl, hb⟩; refine ⟨_, rfl, ?_⟩; have n0_ := Aside0.mk (below_step (by repeat (first | (with_reducible first | exact HB.out | apply below_alloc | apply pw_below_drewN | apply below_drew1) | exact HB.out)) hb); clear HB; have HB := n0_; clear n0_; (try clear hb); (try clear hb2); (try clear hk); (try clear hi)))
    go_ret
    exact ⟨by first | rfl | (simp [errW_none, errW_some] <;> rfl) | (simp [*, errW_none, errW_some] <;> rfl), by repeat (first | (with_reducible first | exact HB.out | apply below_alloc | apply pw_below_drewN | apply below_drew1) | exact HB.out)⟩
  · rw [if_neg c3] at H
    have c3b0 : decide (300 < (l0.length : Int)) = false := decide_eq_false c3
    have c3b1 : decide (300 < l0.length) = false := decide_eq_false (by omega)
    clear c3
    replace H := Option.bind_eq_some_iff.mp H
    obtain ⟨t389, A60, H⟩ := H
    replace H : ((hornbeamlaw10_fixed.f k).bind fun t392 => (if t392 = true then ((edges_Bin.f k t389 (Flt.fbits a1)).bind fun t393 => ((hornbeamref10_Bin.f k t389 (Flt.fbits a1)).bind fun t394 => (if t393 = t394 then ((edges_Right.f k t389).bind fun t395 => ((hornbeamref10_Right.f k t389).bind fun t396 => (some (t395 == t396)))) else (some false)))) else (some false))) = some r := H
    have A6 := Aside0.mk A60
    clear A60
    replace H := Option.bind_eq_some_iff.mp H
    obtain ⟨t392, A70, H⟩ := H
    replace H : (if t392 = true then ((edges_Bin.f k t389 (Flt.fbits a1)).bind fun t393 => ((hornbeamref10_Bin.f k t389 (Flt.fbits a1)).bind fun t394 => (if t393 = t394 then ((edges_Right.f k t389).bind fun t395 => ((hornbeamref10_Right.f k t389).bind fun t396 => (some (t395 == t396)))) else (some false)))) else (some false)) = some r := H
    have A7 := Aside0.mk A70
    clear A70
    by_cases c8 : t392 = true
    · subst c8
      have H1 : ((edges_Bin.f k t389 (Flt.fbits a1)).bind fun t393 => ((hornbeamref10_Bin.f k t389 (Flt.fbits a1)).bind fun t394 => (if t393 = t394 then ((edges_Right.f k t389).bind fun t395 => ((hornbeamref10_Right.f k t389).bind fun t396 => (some (t395 == t396)))) else (some false)))) = some r := by rw [if_pos rfl] at H; exact H
      clear H
      have H := H1
      clear H1
      replace H := Option.bind_eq_some_iff.mp H
      obtain ⟨t393, A90, H⟩ := H
      replace H : ((hornbeamref10_Bin.f k t389 (Flt.fbits a1)).bind fun t394 => (if t393 = t394 then ((edges_Right.f k t389).bind fun t395 => ((hornbeamref10_Right.f k t389).bind fun t396 => (some (t395 == t396)))) else (some false))) = some r := H
      have A9 := Aside0.mk A90
      clear A90
      replace H := Option.bind_eq_some_iff.mp H
      obtain ⟨t394, A100, H⟩ := H
      replace H : (if t393 = t394 then ((edges_Right.f k t389).bind fun t395 => ((hornbeamref10_Right.f k t389).bind fun t396 => (some (t395 == t396)))) else (some false)) = some r := H
      have A10 := Aside0.mk A100
      clear A100
      by_cases c11 : t393 = t394
      · rw [if_pos c11] at H
        have c11b0 : (t393 == t394) = true := beq_iff_eq.mpr c11
        have c11b1 : (t393 != t394) = false := bne_eq_false_iff_eq.mpr c11
        clear c11
        replace H := Option.bind_eq_some_iff.mp H
        obtain ⟨t395, A120, H⟩ := H
        replace H : ((hornbeamref10_Right.f k t389).bind fun t396 => (some (t395 == t396))) = some r := H
        have A12 := Aside0.mk A120
        clear A120
        replace H := Option.bind_eq_some_iff.mp H
        obtain ⟨t396, A130, H⟩ := H
        replace H : (some (t395 == t396)) = some r := H
        have A13 := Aside0.mk A130
        clear A130
        obtain rfl := Option.some.inj H
        go_enter Try.func12, Try.ntmps12
        go_wp2_with (first | ((with_reducible refine gate_callee (f := 28) rfl ?_); refine goesL_ (some 11) rfl rfl Try.func28 (by kernel_rfl) rfl #[.slice A0 l0.length c0] rfl (by (try simp only [List.map_toArray, List.map_cons, List.map_nil]); first | done | rfl | (simp only [List.length_drop, List.length_take]; rfl)) ?_; (with_reducible refine (hornbeamref06_Of.calls k _ _ l0 t389 _ ?side1 ?side2 A6.out).mono ?_); (case side1 => repeat (first | exact HR0.out | (with_reducible refine Kd.C_alloc ?_ _) | (with_reducible refine Kd.C_drewN ?_ _) | (with_reducible refine Kd.C_drew ?_))); (case side2 => exact HC0.out); rintro e w14 ⟨v390, rfl, ho0, hb⟩; refine ⟨_, rfl, ?_⟩; have n0_ := Aside0.mk (Kd.R_lower ho0 (below_size (by repeat (first | (with_reducible first | exact HB.out | apply below_alloc | apply pw_below_drewN | apply below_drew1) | exact HB.out)))); have n1_ := Aside0.mk (below_step (by repeat (first | (with_reducible first | exact HB.out | apply below_alloc | apply pw_below_drewN | apply below_drew1) | exact HB.out)) hb); clear HB; have HO391 := n0_; have HB := n1_; clear n0_ n1_; (try clear hb); (try clear hb2); (try clear hk); (try clear hi); (try clear ho0)) | ((with_reducible refine gate_callee (f := 32) rfl ?_); refine goesL_ (some 12) rfl rfl Try.func32 (by kernel_rfl) rfl #[] rfl (by (try simp only [List.map_toArray, List.map_cons, List.map_nil]); first | done | rfl | (simp only [List.length_drop, List.length_take]; rfl)) ?_; (with_reducible refine (hornbeamlaw10_fixed.calls k  true _ A7.out).mono ?_); rintro e w15 ⟨rfl, hb⟩; refine ⟨_, rfl, ?_⟩; have n0_ := Aside0.mk (Kd.R_below (by (with_reducible repeat (first | apply Kd.R_alloc | apply Kd.R_drewN | apply Kd.R_drew)); exact HO391.out) hb); have n1_ := Aside0.mk (below_step (by repeat (first | (with_reducible first | exact HB.out | apply below_alloc | apply pw_below_drewN | apply below_drew1) | exact HB.out)) hb); clear HO391; clear HB; have HO391 := n0_; have HB := n1_; clear n0_ n1_; (try clear hb); (try clear hb2); (try clear hk); (try clear hi); obtain ⟨Ao16, co16, eo16⟩ := Kd.R_slice HO391.out; subst eo16) | (go_at_call 34; (with_reducible refine (edges_Bin.calls k _ _ t389 (Flt.fbits a1) t393 _ ?side1 ?side2 A9.out).mono ?_); (case side1 => repeat (first | exact (Kd.R_reads' HO391.out).2.2 | (with_reducible refine Kd.C_alloc ?_ _) | (with_reducible refine Kd.C_drewN ?_ _) | (with_reducible refine Kd.C_drew ?_))); (case side2 => exact (Kd.R_reads' HO391.out).2.1); rintro e w' ⟨rfl, ⟨nd, rfl⟩⟩) | (go_at_call 37; (with_reducible refine (hornbeamref10_Bin.calls k _ _ t389 (Flt.fbits a1) t394 _ ?side1 ?side2 A10.out).mono ?_); (case side1 => repeat (first | exact (Kd.R_reads' HO391.out).2.2 | (with_reducible refine Kd.C_alloc ?_ _) | (with_reducible refine Kd.C_drewN ?_ _) | (with_reducible refine Kd.C_drew ?_))); (case side2 => exact (Kd.R_reads' HO391.out).2.1); rintro e w' ⟨rfl, ⟨nd, rfl⟩⟩) | (go_at_call 36; (with_reducible refine (edges_Right.calls k _ _ t389 t395 _ ?side1 ?side2 A12.out).mono ?_); (case side1 => repeat (first | exact (Kd.R_reads' HO391.out).2.2 | (with_reducible refine Kd.C_alloc ?_ _) | (with_reducible refine Kd.C_drewN ?_ _) | (with_reducible refine Kd.C_drew ?_))); (case side2 => exact (Kd.R_reads' HO391.out).2.1); rintro e w' ⟨rfl, ⟨nd, rfl⟩⟩) | (go_at_call 38; (with_reducible refine (hornbeamref10_Right.calls k _ _ t389 t396 _ ?side1 ?side2 A13.out).mono ?_); (case side1 => repeat (first | exact (Kd.R_reads' HO391.out).2.2 | (with_reducible refine Kd.C_alloc ?_ _) | (with_reducible refine Kd.C_drewN ?_ _) | (with_reducible refine Kd.C_drew ?_))); (case side2 => exact (Kd.R_reads' HO391.out).2.1); rintro e w17 ⟨rfl, hb⟩; have n0_ := Aside0.mk (Kd.R_below (by (with_reducible repeat (first | apply Kd.R_alloc | apply Kd.R_drewN | apply Kd.R_drew)); exact HO391.out) hb); have n1_ := Aside0.mk (below_step (by repeat (first | (with_reducible first | exact HB.out | apply below_alloc | apply pw_below_drewN | apply below_drew1) | exact HB.out)) hb); clear HO391; clear HB; have HO391 := n0_; have HB := n1_; clear n0_ n1_; (try clear hb); (try clear hb2); (try clear hk); (try clear hi)))
        go_ret
        exact ⟨by first | rfl | (simp [errW_none, errW_some] <;> rfl) | (simp [*, errW_none, errW_some] <;> rfl), by repeat (first | (with_reducible first | exact HB.out | apply below_alloc | apply pw_below_drewN | apply below_drew1) | exact HB.out)⟩
      · rw [if_neg c11] at H
        have c11b0 : (t393 == t394) = false := beq_eq_false_iff_ne.mpr c11
        have c11b1 : (t393 != t394) = true := bne_iff_ne.mpr c11
        obtain rfl := Option.some.inj H
        go_enter Try.func12, Try.ntmps12
        go_wp2_with (first | ((with_reducible refine gate_callee (f := 28) rfl ?_); refine goesL_ (some 11) rfl rfl Try.func28 (by kernel_rfl) rfl #[.slice A0 l0.length c0] rfl (by (try simp only [List.map_toArray, List.map_cons, List.map_nil]); first | done | rfl | (simp only [List.length_drop, List.length_take]; rfl)) ?_; (with_reducible refine (hornbeamref06_Of.calls k _ _ l0 t389 _ ?side1 ?side2 A6.out).mono ?_); (case side1 => repeat (first | exact HR0.out | (with_reducible refine Kd.C_alloc ?_ _) | (with_reducible refine Kd.C_drewN ?_ _) | (with_reducible refine Kd.C_drew ?_))); (case side2 => exact HC0.out); rintro e w18 ⟨v390, rfl, ho0, hb⟩; refine ⟨_, rfl, ?_⟩; have n0_ := Aside0.mk (Kd.R_lower ho0 (below_size (by repeat (first | (with_reducible first | exact HB.out | apply below_alloc | apply pw_below_drewN | apply below_drew1) | exact HB.out)))); have n1_ := Aside0.mk (below_step (by repeat (first | (with_reducible first | exact HB.out | apply below_alloc | apply pw_below_drewN | apply below_drew1) | exact HB.out)) hb); clear HB; have HO391 := n0_; have HB := n1_; clear n0_ n1_; (try clear hb); (try clear hb2); (try clear hk); (try clear hi); (try clear ho0)) | ((with_reducible refine gate_callee (f := 32) rfl ?_); refine goesL_ (some 12) rfl rfl Try.func32 (by kernel_rfl) rfl #[] rfl (by (try simp only [List.map_toArray, List.map_cons, List.map_nil]); first | done | rfl | (simp only [List.length_drop, List.length_take]; rfl)) ?_; (with_reducible refine (hornbeamlaw10_fixed.calls k  true _ A7.out).mono ?_); rintro e w19 ⟨rfl, hb⟩; refine ⟨_, rfl, ?_⟩; have n0_ := Aside0.mk (Kd.R_below (by (with_reducible repeat (first | apply Kd.R_alloc | apply Kd.R_drewN | apply Kd.R_drew)); exact HO391.out) hb); have n1_ := Aside0.mk (below_step (by repeat (first | (with_reducible first | exact HB.out | apply below_alloc | apply pw_below_drewN | apply below_drew1) | exact HB.out)) hb); clear HO391; clear HB; have HO391 := n0_; have HB := n1_; clear n0_ n1_; (try clear hb); (try clear hb2); (try clear hk); (try clear hi); obtain ⟨Ao20, co20, eo20⟩ := Kd.R_slice HO391.out; subst eo20) | (go_at_call 34; (with_reducible refine (edges_Bin.calls k _ _ t389 (Flt.fbits a1) t393 _ ?side1 ?side2 A9.out).mono ?_); (case side1 => repeat (first | exact (Kd.R_reads' HO391.out).2.2 | (with_reducible refine Kd.C_alloc ?_ _) | (with_reducible refine Kd.C_drewN ?_ _) | (with_reducible refine Kd.C_drew ?_))); (case side2 => exact (Kd.R_reads' HO391.out).2.1); rintro e w' ⟨rfl, ⟨nd, rfl⟩⟩) | (go_at_call 37; (with_reducible refine (hornbeamref10_Bin.calls k _ _ t389 (Flt.fbits a1) t394 _ ?side1 ?side2 A10.out).mono ?_); (case side1 => repeat (first | exact (Kd.R_reads' HO391.out).2.2 | (with_reducible refine Kd.C_alloc ?_ _) | (with_reducible refine Kd.C_drewN ?_ _) | (with_reducible refine Kd.C_drew ?_))); (case side2 => exact (Kd.R_reads' HO391.out).2.1); rintro e w' ⟨rfl, ⟨nd, rfl⟩⟩))
        go_ret
        exact ⟨by first | rfl | (simp [errW_none, errW_some] <;> rfl) | (simp [*, errW_none, errW_some] <;> rfl), by repeat (first | (with_reducible first | exact HB.out | apply below_alloc | apply pw_below_drewN | apply below_drew1) | exact HB.out)⟩
    · replace c8 := Bool.eq_false_iff.mpr c8
      subst c8
      have H1 : (some false) = some r := by rw [if_neg (show ¬ (false = true) by decide)] at H; exact H
      clear H
      have H := H1
      clear H1
      obtain rfl := Option.some.inj H
      go_enter Try.func12, Try.ntmps12
      go_wp2_with (first | ((with_reducible refine gate_callee (f := 28) rfl ?_); refine goesL_ (some 11) rfl rfl Try.func28 (by kernel_rfl) rfl #[.slice A0 l0.length c0] rfl (by (try simp only [List.map_toArray, List.map_cons, List.map_nil]); first | done | rfl | (simp only [List.length_drop, List.length_take]; rfl)) ?_; (with_reducible refine (hornbeamref06_Of.calls k _ _ l0 t389 _ ?side1 ?side2 A6.out).mono ?_); (case side1 => repeat (first | exact HR0.out | (with_reducible refine Kd.C_alloc ?_ _) | (with_reducible refine Kd.C_drewN ?_ _) | (with_reducible refine Kd.C_drew ?_))); (case side2 => exact HC0.out); rintro e w21 ⟨v390, rfl, ho0, hb⟩; refine ⟨_, rfl, ?_⟩; have n0_ := Aside0.mk (Kd.R_lower ho0 (below_size (by repeat (first | (with_reducible first | exact HB.out | apply below_alloc | apply pw_below_drewN | apply below_drew1) | exact HB.out)))); have n1_ := Aside0.mk (below_step (by repeat (first | (with_reducible first | exact HB.out | apply below_alloc | apply pw_below_drewN | apply below_drew1) | exact HB.out)) hb); clear HB; have HO391 := n0_; have HB := n1_; clear n0_ n1_; (try clear hb); (try clear hb2); (try clear hk); (try clear hi); (try clear ho0)) | ((with_reducible refine gate_callee (f := 32) rfl ?_); refine goesL_ (some 12) rfl rfl Try.func32 (by kernel_rfl) rfl #[] rfl (by (try simp only [List.map_toArray, List.map_cons, List.map_nil]); first | done | rfl | (simp only [List.length_drop, List.length_take]; rfl)) ?_; (with_reducible refine (hornbeamlaw10_fixed.calls k  false _ A7.out).mono ?_); rintro e w22 ⟨rfl, hb⟩; refine ⟨_, rfl, ?_⟩; have n0_ := Aside0.mk (Kd.R_below (by (with_reducible repeat (first | apply Kd.R_alloc | apply Kd.R_drewN | apply Kd.R_drew)); exact HO391.out) hb); have n1_ := Aside0.mk (below_step (by repeat (first | (with_reducible first | exact HB.out | apply below_alloc | apply pw_below_drewN | apply below_drew1) | exact HB.out)) hb); clear HO391; clear HB; have HO391 := n0_; have HB := n1_; clear n0_ n1_; (try clear hb); (try clear hb2); (try clear hk); (try clear hi)))
      go_ret
      exact ⟨by first | rfl | (simp [errW_none, errW_some] <;> rfl) | (simp [*, errW_none, errW_some] <;> rfl), by repeat (first | (with_reducible first | exact HB.out | apply below_alloc | apply pw_below_drewN | apply below_drew1) | exact HB.out)⟩

/-- What is left to prove of hornbeamlaw10_EdgesBins. -/
def hornbeamlaw10_EdgesBins.Pure : Prop := ∀ (l0 : List Int) (a1 : Int), ((l0.length ≤ 9223372036854775807 ∧ l0.length * 8 ≤ 140737488351232 ∧ ∀ x ∈ l0, (Lit.int .u64 x).wf = true)) → ((Lit.int .u64 a1).wf = true) → ∃ k, hornbeamlaw10_EdgesBins.f k l0 a1 = some true

-- NOT PRINTED: function 53 (walk_steps)

/-! ### walk_Place: function 43, by hand -/
def walk_Place.g (l : List S59) (i j : Nat) : Int := match j with
  | 0 => (rd_T59 l i).f0
  | 1 => (rd_T59 l i).f1
  | 2 => (rd_T59 l i).f2
  | 3 => (rd_T59 l i).f3
  | 4 => (rd_T59 l i).f4
  | _ => (rd_T59 l i).f5
def walk_Place.f (l0 : List (S59)) (l1 : List Int) : Option (Int) := some (FWalk.place (walk_Place.g l0) (fun i => rd l1 i) l0.length l1.length)
theorem walk_Place.calls (A0 : Option Addr) (c0 : Nat) (l0 : List (S59)) (A1 : Option Addr) (c1 : Nat) (l1 : List Int) (r : Int) (w : World) (hr0 : Kd.C k59 w A0 l0.length l0) (hc0 : l0.length ≤ c0) (hr1 : Kd.C (Kd.int .i64) w A1 l1.length l1) (hc1 : l1.length ≤ c1) (h : walk_Place.f l0 l1 = some r) :
    Calls Try.prog 43 #[.slice A0 l0.length c0, .slice A1 l1.length c1] w fun e w' => e = .returned (.int .i64 r) ∧ Below w.heap.size w w' := by
  have hl0 : l0.length ≤ 9223372036854775807 := hr0.2.1
  have hl1 : l1.length ≤ 9223372036854775807 := hr1.2.1
  obtain rfl := Option.some.inj h
  refine callsIn_wide.1 (FWalk.place_in 3 (Nat.le_refl _) A0 l0.length c0 A1 l1.length c1 (walk_Place.g l0) (fun i => rd l1 i) hl0 hl1 w ?_ ?_)
  · intro i hi
    obtain ⟨ad, e, h0, h1, h2, h3, h4, h5⟩ := at_T59 hr0 i (by omega) (by omega)
    simp only [Int.toNat_natCast] at h0 h1 h2 h3 h4 h5
    refine ⟨ad, e, ?_, h0, ?_⟩
    · have := World.block_lt_of_cell? w _ h0; rwa [FWalk.block_of_add] at this
    · intro j hj hj6
      rcases j with _ | _ | _ | _ | _ | _ | j
      · omega
      · exact h1
      · exact h2
      · exact h3
      · exact h4
      · exact h5
      · omega
  · intro i hi
    obtain ⟨ad, e, h0⟩ := Kd.at_int hr1 i (by omega) (by omega)
    simp only [Int.toNat_natCast] at h0
    refine ⟨ad, e, ?_, h0⟩
    have := World.block_lt_of_cell? w _ h0; rwa [FWalk.block_of_add] at this


/-! ### hornbeamlaw20_fixed: function 39 -/
def hornbeamlaw20_fixed.f  : Option (Bool) := (some (([(⟨0, 2, 1, 0, 0, 0⟩ : S59), (⟨(-1), 0, 0, 0, 0, 0⟩ : S59), (⟨(-1), 0, 0, 0, 0, 0⟩ : S59)] : List (S59)) : List (S59))).bind fun y397 => ((walk_Place.f y397 (([2] : List Int))).bind fun t403 => (if t403 = 1 then ((walk_Place.f y397 (([3] : List Int))).bind fun t407 => (some (t407 == 2))) else (some false)))
set_option maxHeartbeats 8000000 in
set_option maxRecDepth 100000 in
theorem hornbeamlaw20_fixed.calls  (r : Bool) (w : World) (h : hornbeamlaw20_fixed.f  = some r) :
    Calls Try.prog 39 #[] w fun e w' => e = .returned (.bool r) ∧ Below w.heap.size w w' := by
  have hu59 := Try.underlying59
  have HB := Aside0.mk (Below.refl w.heap.size w)
  have H : ((some (([(⟨0, 2, 1, 0, 0, 0⟩ : S59), (⟨(-1), 0, 0, 0, 0, 0⟩ : S59), (⟨(-1), 0, 0, 0, 0, 0⟩ : S59)] : List (S59)) : List (S59))).bind fun y397 => ((walk_Place.f y397 (([2] : List Int))).bind fun t403 => (if t403 = 1 then ((walk_Place.f y397 (([3] : List Int))).bind fun t407 => (some (t407 == 2))) else (some false)))) = some r := h
  clear h
  obtain ⟨y397, hy397⟩ : ∃ y_ : List (S59), y_ = (([(⟨0, 2, 1, 0, 0, 0⟩ : S59), (⟨(-1), 0, 0, 0, 0, 0⟩ : S59), (⟨(-1), 0, 0, 0, 0, 0⟩ : S59)] : List (S59))) := ⟨_, rfl⟩
  replace H : ((walk_Place.f y397 (([2] : List Int))).bind fun t403 => (if t403 = 1 then ((walk_Place.f y397 (([3] : List Int))).bind fun t407 => (some (t407 == 2))) else (some false))) = some r := by first | (rw [hy397]; with_reducible exact H) | (have H2_ := (Option.bind_some _ _).symm.trans H; rw [hy397]; with_reducible exact H2_) | (have H2_ := (Option.bind_some _ _).symm.trans H; with_reducible exact H2_) | with_reducible exact H | (rw [hy397]; exact H) | exact H
  have Ny397 := Aside0.mk hy397
  clear hy397
  obtain ⟨y400, hy400⟩ : ∃ y_ : List Int, y_ = (([2] : List Int)) := ⟨_, rfl⟩
  replace H : ((walk_Place.f y397 y400).bind fun t403 => (if t403 = 1 then ((walk_Place.f y397 (([3] : List Int))).bind fun t407 => (some (t407 == 2))) else (some false))) = some r := by first | (rw [hy400]; with_reducible exact H) | (have H2_ := (Option.bind_some _ _).symm.trans H; rw [hy400]; with_reducible exact H2_) | (have H2_ := (Option.bind_some _ _).symm.trans H; with_reducible exact H2_) | with_reducible exact H | (rw [hy400]; exact H) | exact H
  have Ny400 := Aside0.mk hy400
  clear hy400
  replace H := Option.bind_eq_some_iff.mp H
  obtain ⟨t403, A10, H⟩ := H
  replace H : (if t403 = 1 then ((walk_Place.f y397 (([3] : List Int))).bind fun t407 => (some (t407 == 2))) else (some false)) = some r := H
  have A1 := Aside0.mk A10
  clear A10
  by_cases c2 : t403 = 1
  · rw [if_pos c2] at H
    have c2b0 : (t403 == 1) = true := beq_iff_eq.mpr c2
    have c2b1 : (t403 != 1) = false := bne_eq_false_iff_eq.mpr c2
    clear c2
    obtain ⟨y404, hy404⟩ : ∃ y_ : List Int, y_ = (([3] : List Int)) := ⟨_, rfl⟩
    replace H : ((walk_Place.f y397 y404).bind fun t407 => (some (t407 == 2))) = some r := by first | (rw [hy404]; with_reducible exact H) | (have H2_ := (Option.bind_some _ _).symm.trans H; rw [hy404]; with_reducible exact H2_) | (have H2_ := (Option.bind_some _ _).symm.trans H; with_reducible exact H2_) | with_reducible exact H | (rw [hy404]; exact H) | exact H
    have Ny404 := Aside0.mk hy404
    clear hy404
    replace H := Option.bind_eq_some_iff.mp H
    obtain ⟨t407, A30, H⟩ := H
    replace H : (some (t407 == 2)) = some r := H
    have A3 := Aside0.mk A30
    clear A30
    obtain rfl := Option.some.inj H
    go_enter Try.func39, Try.ntmps39
    go_wp2_with (first | ((with_reducible refine gate_dst (N := 5) rfl ?_); (try (refine gate_guard (by rfl) ?_; dsimp only)); refine Kd.R_lit k59 _ 59 ?hg (N := 5) ?hd (xs := ([(⟨0, 2, 1, 0, 0, 0⟩ : S59), (⟨(-1), 0, 0, 0, 0, 0⟩ : S59), (⟨(-1), 0, 0, 0, 0, 0⟩ : S59)] : List (S59))) (inner := [.int .i64 0, .int .i64 2, .int .i64 1, .int .i64 0, .int .i64 0, .int .i64 0, .int .i64 (-1), .int .i64 0, .int .i64 0, .int .i64 0, .int .i64 0, .int .i64 0, .int .i64 (-1), .int .i64 0, .int .i64 0, .int .i64 0, .int .i64 0, .int .i64 0]) (ok := fun _ => True) (okp := fun _ => True) ?hr ?hp (fun _ hk => hk) trivial (Below.refl _ _) (Nat.le_refl _) (by simp) ?_; (case hd => rfl); (case hg => rfl); (case hr => first | (go_simp; done) | (go_simp; rfl)); (case hp => exact (Reps.c6 (show Kd.M k59 _ _ _ (⟨0, 2, 1, 0, 0, 0⟩ : S59) [.int .i64 0, .int .i64 2, .int .i64 1, .int .i64 0, .int .i64 0, .int .i64 0] from (k59_mkM _ _ _ (⟨0, 2, 1, 0, 0, 0⟩ : S59) )) (Reps.c6 (show Kd.M k59 _ _ _ (⟨(-1), 0, 0, 0, 0, 0⟩ : S59) [.int .i64 (-1), .int .i64 0, .int .i64 0, .int .i64 0, .int .i64 0, .int .i64 0] from (k59_mkM _ _ _ (⟨(-1), 0, 0, 0, 0, 0⟩ : S59) )) (Reps.c6 (show Kd.M k59 _ _ _ (⟨(-1), 0, 0, 0, 0, 0⟩ : S59) [.int .i64 (-1), .int .i64 0, .int .i64 0, .int .i64 0, .int .i64 0, .int .i64 0] from (k59_mkM _ _ _ (⟨(-1), 0, 0, 0, 0, 0⟩ : S59) )) (Reps.none _ _))))); intro v398 w4 ho5 hb hg_ hnew_; clear hg_ hnew_; (first | rw [← Ny397.out] at ho5 | (simp only [Int.reduceToNat] at ho5; rw [← Ny397.out] at ho5)); have n0_ := Aside0.mk (Kd.R_lower ho5 (below_size (by repeat (first | (with_reducible first | exact HB.out | apply below_alloc | apply pw_below_drewN | apply below_drew1) | exact HB.out)))); have n1_ := Aside0.mk (below_step (by repeat (first | (with_reducible first | exact HB.out | apply below_alloc | apply pw_below_drewN | apply below_drew1) | exact HB.out)) hb); clear HB; have HO399 := n0_; have HB := n1_; clear n0_ n1_; clear hb ho5) | ((with_reducible refine gate_dst (N := 7) rfl ?_); (try (refine gate_guard (by rfl) ?_; dsimp only)); refine Kd.R_lit (Kd.int .i64) _ 3 ?hg (N := 7) ?hd (xs := ([2] : List Int)) (inner := [.int .i64 2]) (ok := fun _ => True) (okp := fun _ => True) ?hr ?hp (fun _ hk => hk) trivial (Below.refl _ _) (Nat.le_refl _) (by simp) ?_; (case hd => rfl); (case hg => rfl); (case hr => first | (go_simp; done) | (go_simp; rfl)); (case hp => exact (Reps.one (show Kd.M (Kd.int .i64) _ _ _ 2 [.int .i64 2] from rfl) (Reps.none _ _))); intro v401 w6 ho7 hb hg_ hnew_; clear hg_ hnew_; (first | rw [← Ny400.out] at ho7 | (simp only [Int.reduceToNat] at ho7; rw [← Ny400.out] at ho7)); have n0_ := Aside0.mk (Kd.R_below (by (with_reducible repeat (first | apply Kd.R_alloc | apply Kd.R_drewN | apply Kd.R_drew)); exact HO399.out) hb); have n1_ := Aside0.mk (Kd.R_lower ho7 (below_size (by repeat (first | (with_reducible first | exact HB.out | apply below_alloc | apply pw_below_drewN | apply below_drew1) | exact HB.out)))); have n2_ := Aside0.mk (below_step (by repeat (first | (with_reducible first | exact HB.out | apply below_alloc | apply pw_below_drewN | apply below_drew1) | exact HB.out)) hb); clear HO399; clear HB; have HO399 := n0_; have HO402 := n1_; have HB := n2_; clear n0_ n1_ n2_; clear hb ho7; obtain ⟨Ao8, co8, eo8⟩ := Kd.R_slice HO399.out; subst eo8; obtain ⟨Ao9, co9, eo9⟩ := Kd.R_slice HO402.out; subst eo9) | ((with_reducible refine gate_callee (f := 43) rfl ?_); refine goesL_ (some 8) rfl rfl Try.func43 (by kernel_rfl) rfl #[.slice Ao8 y397.length co8, .slice Ao9 y400.length co9] rfl (by (try simp only [List.map_toArray, List.map_cons, List.map_nil]); first | done | rfl | (simp only [List.length_drop, List.length_take]; rfl)) ?_; (with_reducible refine (walk_Place.calls _ _ y397 _ _ y400 t403 _ ?side1 ?side2 ?side3 ?side4 A1.out).mono ?_); (case side1 => repeat (first | exact (Kd.R_reads' HO399.out).2.2 | (with_reducible refine Kd.C_alloc ?_ _) | (with_reducible refine Kd.C_drewN ?_ _) | (with_reducible refine Kd.C_drew ?_))); (case side2 => exact (Kd.R_reads' HO399.out).2.1); (case side3 => repeat (first | exact (Kd.R_reads' HO402.out).2.2 | (with_reducible refine Kd.C_alloc ?_ _) | (with_reducible refine Kd.C_drewN ?_ _) | (with_reducible refine Kd.C_drew ?_))); (case side4 => exact (Kd.R_reads' HO402.out).2.1); rintro e w10 ⟨rfl, hb⟩; refine ⟨_, rfl, ?_⟩; have n0_ := Aside0.mk (Kd.R_below (by (with_reducible repeat (first | apply Kd.R_alloc | apply Kd.R_drewN | apply Kd.R_drew)); exact HO399.out) hb); have n1_ := Aside0.mk (Kd.R_below (by (with_reducible repeat (first | apply Kd.R_alloc | apply Kd.R_drewN | apply Kd.R_drew)); exact HO402.out) hb); have n2_ := Aside0.mk (below_step (by repeat (first | (with_reducible first | exact HB.out | apply below_alloc | apply pw_below_drewN | apply below_drew1) | exact HB.out)) hb); clear HO399; clear HO402; clear HB; have HO399 := n0_; have HO402 := n1_; have HB := n2_; clear n0_ n1_ n2_; (try clear hb); (try clear hb2); (try clear hk); (try clear hi)) | ((with_reducible refine gate_dst (N := 12) rfl ?_); (try (refine gate_guard (by rfl) ?_; dsimp only)); refine Kd.R_lit (Kd.int .i64) _ 3 ?hg (N := 12) ?hd (xs := ([3] : List Int)) (inner := [.int .i64 3]) (ok := fun _ => True) (okp := fun _ => True) ?hr ?hp (fun _ hk => hk) trivial (Below.refl _ _) (Nat.le_refl _) (by simp) ?_; (case hd => rfl); (case hg => rfl); (case hr => first | (go_simp; done) | (go_simp; rfl)); (case hp => exact (Reps.one (show Kd.M (Kd.int .i64) _ _ _ 3 [.int .i64 3] from rfl) (Reps.none _ _))); intro v405 w11 ho12 hb hg_ hnew_; clear hg_ hnew_; (first | rw [← Ny404.out] at ho12 | (simp only [Int.reduceToNat] at ho12; rw [← Ny404.out] at ho12)); have n0_ := Aside0.mk (Kd.R_below (by (with_reducible repeat (first | apply Kd.R_alloc | apply Kd.R_drewN | apply Kd.R_drew)); exact HO399.out) hb); have n1_ := Aside0.mk (Kd.R_elder' (by (with_reducible repeat (first | apply Kd.R_alloc | apply Kd.R_drewN | apply Kd.R_drew)); exact HO402.out) (Kd.R_base ho12) hb); have n2_ := Aside0.mk (Kd.R_lower (Kd.R_new' ho12 (Kd.R_lt (by (with_reducible repeat (first | apply Kd.R_alloc | apply Kd.R_drewN | apply Kd.R_drew)); exact HO402.out))) (below_size (by repeat (first | (with_reducible first | exact HB.out | apply below_alloc | apply pw_below_drewN | apply below_drew1) | exact HB.out)))); have n3_ := Aside0.mk (below_step (by repeat (first | (with_reducible first | exact HB.out | apply below_alloc | apply pw_below_drewN | apply below_drew1) | exact HB.out)) hb); clear HO399; clear HO402; clear HB; have HO399 := n0_; have HO402 := n1_; have HO406 := n2_; have HB := n3_; clear n0_ n1_ n2_ n3_; clear hb ho12; obtain ⟨Ao13, co13, eo13⟩ := Kd.R_slice HO406.out; subst eo13) | (go_at_call 43; (with_reducible refine (walk_Place.calls _ _ y397 _ _ y404 t407 _ ?side1 ?side2 ?side3 ?side4 A3.out).mono ?_); (case side1 => repeat (first | exact (Kd.R_reads' HO399.out).2.2 | (with_reducible refine Kd.C_alloc ?_ _) | (with_reducible refine Kd.C_drewN ?_ _) | (with_reducible refine Kd.C_drew ?_))); (case side2 => exact (Kd.R_reads' HO399.out).2.1); (case side3 => repeat (first | exact (Kd.R_reads' HO406.out).2.2 | (with_reducible refine Kd.C_alloc ?_ _) | (with_reducible refine Kd.C_drewN ?_ _) | (with_reducible refine Kd.C_drew ?_))); (case side4 => exact (Kd.R_reads' HO406.out).2.1); rintro e w14 ⟨rfl, hb⟩; have n0_ := Aside0.mk (Kd.R_below (by (with_reducible repeat (first | apply Kd.R_alloc | apply Kd.R_drewN | apply Kd.R_drew)); exact HO399.out) hb); have n1_ := Aside0.mk (Kd.R_below (by (with_reducible repeat (first | apply Kd.R_alloc | apply Kd.R_drewN | apply Kd.R_drew)); exact HO402.out) hb); have n2_ := Aside0.mk (Kd.R_below (by (with_reducible repeat (first | apply Kd.R_alloc | apply Kd.R_drewN | apply Kd.R_drew)); exact HO406.out) hb); have n3_ := Aside0.mk (below_step (by repeat (first | (with_reducible first | exact HB.out | apply below_alloc | apply pw_below_drewN | apply below_drew1) | exact HB.out)) hb); clear HO399; clear HO402; clear HO406; clear HB; have HO399 := n0_; have HO402 := n1_; have HO406 := n2_; have HB := n3_; clear n0_ n1_ n2_ n3_; (try clear hb); (try clear hb2); (try clear hk); (try clear hi)))
    go_ret
    exact ⟨by first | rfl | (simp [errW_none, errW_some] <;> rfl) | (simp [*, errW_none, errW_some] <;> rfl), by repeat (first | (with_reducible first | exact HB.out | apply below_alloc | apply pw_below_drewN | apply below_drew1) | exact HB.out)⟩
  · rw [if_neg c2] at H
    have c2b0 : (t403 == 1) = false := beq_eq_false_iff_ne.mpr c2
    have c2b1 : (t403 != 1) = true := bne_iff_ne.mpr c2
    obtain rfl := Option.some.inj H
    go_enter Try.func39, Try.ntmps39
    go_wp2_with (first | ((with_reducible refine gate_dst (N := 5) rfl ?_); (try (refine gate_guard (by rfl) ?_; dsimp only)); refine Kd.R_lit k59 _ 59 ?hg (N := 5) ?hd (xs := ([(⟨0, 2, 1, 0, 0, 0⟩ : S59), (⟨(-1), 0, 0, 0, 0, 0⟩ : S59), (⟨(-1), 0, 0, 0, 0, 0⟩ : S59)] : List (S59))) (inner := [.int .i64 0, .int .i64 2, .int .i64 1, .int .i64 0, .int .i64 0, .int .i64 0, .int .i64 (-1), .int .i64 0, .int .i64 0, .int .i64 0, .int .i64 0, .int .i64 0, .int .i64 (-1), .int .i64 0, .int .i64 0, .int .i64 0, .int .i64 0, .int .i64 0]) (ok := fun _ => True) (okp := fun _ => True) ?hr ?hp (fun _ hk => hk) trivial (Below.refl _ _) (Nat.le_refl _) (by simp) ?_; (case hd => rfl); (case hg => rfl); (case hr => first | (go_simp; done) | (go_simp; rfl)); (case hp => exact (Reps.c6 (show Kd.M k59 _ _ _ (⟨0, 2, 1, 0, 0, 0⟩ : S59) [.int .i64 0, .int .i64 2, .int .i64 1, .int .i64 0, .int .i64 0, .int .i64 0] from (k59_mkM _ _ _ (⟨0, 2, 1, 0, 0, 0⟩ : S59) )) (Reps.c6 (show Kd.M k59 _ _ _ (⟨(-1), 0, 0, 0, 0, 0⟩ : S59) [.int .i64 (-1), .int .i64 0, .int .i64 0, .int .i64 0, .int .i64 0, .int .i64 0] from (k59_mkM _ _ _ (⟨(-1), 0, 0, 0, 0, 0⟩ : S59) )) (Reps.c6 (show Kd.M k59 _ _ _ (⟨(-1), 0, 0, 0, 0, 0⟩ : S59) [.int .i64 (-1), .int .i64 0, .int .i64 0, .int .i64 0, .int .i64 0, .int .i64 0] from (k59_mkM _ _ _ (⟨(-1), 0, 0, 0, 0, 0⟩ : S59) )) (Reps.none _ _))))); intro v398 w15 ho16 hb hg_ hnew_; clear hg_ hnew_; (first | rw [← Ny397.out] at ho16 | (simp only [Int.reduceToNat] at ho16; rw [← Ny397.out] at ho16)); have n0_ := Aside0.mk (Kd.R_lower ho16 (below_size (by repeat (first | (with_reducible first | exact HB.out | apply below_alloc | apply pw_below_drewN | apply below_drew1) | exact HB.out)))); have n1_ := Aside0.mk (below_step (by repeat (first | (with_reducible first | exact HB.out | apply below_alloc | apply pw_below_drewN | apply below_drew1) | exact HB.out)) hb); clear HB; have HO399 := n0_; have HB := n1_; clear n0_ n1_; clear hb ho16) | ((with_reducible refine gate_dst (N := 7) rfl ?_); (try (refine gate_guard (by rfl) ?_; dsimp only)); refine Kd.R_lit (Kd.int .i64) _ 3 ?hg (N := 7) ?hd (xs := ([2] : List Int)) (inner := [.int .i64 2]) (ok := fun _ => True) (okp := fun _ => True) ?hr ?hp (fun _ hk => hk) trivial (Below.refl _ _) (Nat.le_refl _) (by simp) ?_; (case hd => rfl); (case hg => rfl); (case hr => first | (go_simp; done) | (go_simp; rfl)); (case hp => exact (Reps.one (show Kd.M (Kd.int .i64) _ _ _ 2 [.int .i64 2] from rfl) (Reps.none _ _))); intro v401 w17 ho18 hb hg_ hnew_; clear hg_ hnew_; (first | rw [← Ny400.out] at ho18 | (simp only [Int.reduceToNat] at ho18; rw [← Ny400.out] at ho18)); have n0_ := Aside0.mk (Kd.R_below (by (with_reducible repeat (first | apply Kd.R_alloc | apply Kd.R_drewN | apply Kd.R_drew)); exact HO399.out) hb); have n1_ := Aside0.mk (Kd.R_lower ho18 (below_size (by repeat (first | (with_reducible first | exact HB.out | apply below_alloc | apply pw_below_drewN | apply below_drew1) | exact HB.out)))); have n2_ := Aside0.mk (below_step (by repeat (first | (with_reducible first | exact HB.out | apply below_alloc | apply pw_below_drewN | apply below_drew1) | exact HB.out)) hb); clear HO399; clear HB; have HO399 := n0_; have HO402 := n1_; have HB := n2_; clear n0_ n1_ n2_; clear hb ho18; obtain ⟨Ao19, co19, eo19⟩ := Kd.R_slice HO399.out; subst eo19; obtain ⟨Ao20, co20, eo20⟩ := Kd.R_slice HO402.out; subst eo20) | ((with_reducible refine gate_callee (f := 43) rfl ?_); refine goesL_ (some 8) rfl rfl Try.func43 (by kernel_rfl) rfl #[.slice Ao19 y397.length co19, .slice Ao20 y400.length co20] rfl (by (try simp only [List.map_toArray, List.map_cons, List.map_nil]); first | done | rfl | (simp only [List.length_drop, List.length_take]; rfl)) ?_; (with_reducible refine (walk_Place.calls _ _ y397 _ _ y400 t403 _ ?side1 ?side2 ?side3 ?side4 A1.out).mono ?_); (case side1 => repeat (first | exact (Kd.R_reads' HO399.out).2.2 | (with_reducible refine Kd.C_alloc ?_ _) | (with_reducible refine Kd.C_drewN ?_ _) | (with_reducible refine Kd.C_drew ?_))); (case side2 => exact (Kd.R_reads' HO399.out).2.1); (case side3 => repeat (first | exact (Kd.R_reads' HO402.out).2.2 | (with_reducible refine Kd.C_alloc ?_ _) | (with_reducible refine Kd.C_drewN ?_ _) | (with_reducible refine Kd.C_drew ?_))); (case side4 => exact (Kd.R_reads' HO402.out).2.1); rintro e w21 ⟨rfl, hb⟩; refine ⟨_, rfl, ?_⟩; have n0_ := Aside0.mk (Kd.R_below (by (with_reducible repeat (first | apply Kd.R_alloc | apply Kd.R_drewN | apply Kd.R_drew)); exact HO399.out) hb); have n1_ := Aside0.mk (Kd.R_below (by (with_reducible repeat (first | apply Kd.R_alloc | apply Kd.R_drewN | apply Kd.R_drew)); exact HO402.out) hb); have n2_ := Aside0.mk (below_step (by repeat (first | (with_reducible first | exact HB.out | apply below_alloc | apply pw_below_drewN | apply below_drew1) | exact HB.out)) hb); clear HO399; clear HO402; clear HB; have HO399 := n0_; have HO402 := n1_; have HB := n2_; clear n0_ n1_ n2_; (try clear hb); (try clear hb2); (try clear hk); (try clear hi)))
    go_ret
    exact ⟨by first | rfl | (simp [errW_none, errW_some] <;> rfl) | (simp [*, errW_none, errW_some] <;> rfl), by repeat (first | (with_reducible first | exact HB.out | apply below_alloc | apply pw_below_drewN | apply below_drew1) | exact HB.out)⟩

end Go.Proofs.Ytlmmlhljflladaa.PA
