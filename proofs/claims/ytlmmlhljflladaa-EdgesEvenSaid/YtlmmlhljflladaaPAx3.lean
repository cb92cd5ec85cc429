-- Written by a program of this session (wip/hp) out of the translation of seat Ytlmmlhljflladaa.
import Derived.Test.YtlmmlhljflladaaPAx0
import Derived.Test.YtlmmlhljflladaaPAx1
import Derived.Test.YtlmmlhljflladaaPAx2
namespace Go.Proofs.Ytlmmlhljflladaa.PA
open Go.RowKit Go.Proofs.YtlmmlhljflladaaW.PrintWords Go.Proofs.YtlmmlhljflladaaW.PrintLast Go.Proofs.YtlmmlhljflladaaW.PrintMore
attribute [local go_sem] max2_int min2_int max_two min_two max_three min_three max_four min_four   -- for this text's walks alone
attribute [local go_sem high] Flt.fold_eq Flt.fold_ne Flt.fold_lt Flt.fold_gt Flt.fold_le Flt.fold_ge Flt.run_bits Flt.run_frombits
set_option linter.unusedVariables false
set_option linter.unusedSimpArgs false

/-! ### hornbeamlaw06_RankKeys: function 3 -/
def hornbeamlaw06_RankKeys.f (k : Nat) (a0 : Int) : Option (Bool) := (rank_Clean.f (Flt.fbits a0)).bind fun t116 => ((rank_Key.f (Flt.fbits a0)).bind fun t117 => ((rank_Of.f k t117).bind fun bt118 => ((hornbeamlaw06_fixed.f).bind fun t120 => (if t120 = true then ((rank_Missing.f (Flt.fbits a0)).bind fun t121 => ((hornbeamref06_Missing.f (Flt.fbits a0)).bind fun t122 => (if (t121 == t122) = true then ((rank_Key.f (Flt.fbits a0)).bind fun t123 => ((hornbeamref06_Key.f (Flt.fbits a0)).bind fun t124 => (if t123 = t124 then ((hornbeamref06_Bits.f (Flt.fbits a0)).bind fun t125 => (if (Flt.ubits t116) = t125 then (if bt118.2 = true then ((hornbeamref06_Bits.f (Flt.fbits a0)).bind fun t126 => (some ((Flt.ubits bt118.1) == t125))) else (some false)) else (some false))) else (some false)))) else (some false)))) else (some false)))))
theorem hornbeamlaw06_RankKeys.mono : ∀ a0 k, LeO (hornbeamlaw06_RankKeys.f k a0) (hornbeamlaw06_RankKeys.f (k + 1) a0) := by
  intro a0 k
  unfold hornbeamlaw06_RankKeys.f
  repeat' first
      | (with_reducible exact rank_Of.mono _ _)
      | (with_reducible exact LeO.refl _)
      | (with_reducible exact LeO.none _)
      | (with_reducible refine LeO.ite ?_ ?_)
      | (with_reducible refine LeO.bind ?_ (fun _ => ?_))
      | exact rank_Of.mono _ _
      | exact LeO.none _
      | refine LeO.ite ?_ ?_
      | refine LeO.bind ?_ (fun _ => ?_)
set_option maxHeartbeats 8000000 in
set_option maxRecDepth 100000 in
theorem hornbeamlaw06_RankKeys.calls (k : Nat) (a0 : Int) (r : Bool) (w : World) (h : hornbeamlaw06_RankKeys.f k a0 = some r) :
    Calls Try.prog 3 #[.int .u64 a0] w fun e w' => e = .returned (.bool r) ∧ Drawn0 w w' := by
  have H : ((rank_Clean.f (Flt.fbits a0)).bind fun t116 => ((rank_Key.f (Flt.fbits a0)).bind fun t117 => ((rank_Of.f k t117).bind fun bt118 => ((hornbeamlaw06_fixed.f).bind fun t120 => (if t120 = true then ((rank_Missing.f (Flt.fbits a0)).bind fun t121 => ((hornbeamref06_Missing.f (Flt.fbits a0)).bind fun t122 => (if (t121 == t122) = true then ((rank_Key.f (Flt.fbits a0)).bind fun t123 => ((hornbeamref06_Key.f (Flt.fbits a0)).bind fun t124 => (if t123 = t124 then ((hornbeamref06_Bits.f (Flt.fbits a0)).bind fun t125 => (if (Flt.ubits t116) = t125 then (if bt118.2 = true then ((hornbeamref06_Bits.f (Flt.fbits a0)).bind fun t126 => (some ((Flt.ubits bt118.1) == t125))) else (some false)) else (some false))) else (some false)))) else (some false)))) else (some false)))))) = some r := h
  clear h
  replace H := Option.bind_eq_some_iff.mp H
  obtain ⟨t116, A20, H⟩ := H
  replace H : ((rank_Key.f (Flt.fbits a0)).bind fun t117 => ((rank_Of.f k t117).bind fun bt118 => ((hornbeamlaw06_fixed.f).bind fun t120 => (if t120 = true then ((rank_Missing.f (Flt.fbits a0)).bind fun t121 => ((hornbeamref06_Missing.f (Flt.fbits a0)).bind fun t122 => (if (t121 == t122) = true then ((rank_Key.f (Flt.fbits a0)).bind fun t123 => ((hornbeamref06_Key.f (Flt.fbits a0)).bind fun t124 => (if t123 = t124 then ((hornbeamref06_Bits.f (Flt.fbits a0)).bind fun t125 => (if (Flt.ubits t116) = t125 then (if bt118.2 = true then ((hornbeamref06_Bits.f (Flt.fbits a0)).bind fun t126 => (some ((Flt.ubits bt118.1) == t125))) else (some false)) else (some false))) else (some false)))) else (some false)))) else (some false))))) = some r := H
  have A2 := Aside0.mk A20
  clear A20
  replace H := Option.bind_eq_some_iff.mp H
  obtain ⟨t117, A30, H⟩ := H
  replace H : ((rank_Of.f k t117).bind fun bt118 => ((hornbeamlaw06_fixed.f).bind fun t120 => (if t120 = true then ((rank_Missing.f (Flt.fbits a0)).bind fun t121 => ((hornbeamref06_Missing.f (Flt.fbits a0)).bind fun t122 => (if (t121 == t122) = true then ((rank_Key.f (Flt.fbits a0)).bind fun t123 => ((hornbeamref06_Key.f (Flt.fbits a0)).bind fun t124 => (if t123 = t124 then ((hornbeamref06_Bits.f (Flt.fbits a0)).bind fun t125 => (if (Flt.ubits t116) = t125 then (if bt118.2 = true then ((hornbeamref06_Bits.f (Flt.fbits a0)).bind fun t126 => (some ((Flt.ubits bt118.1) == t125))) else (some false)) else (some false))) else (some false)))) else (some false)))) else (some false)))) = some r := H
  have A3 := Aside0.mk A30
  clear A30
  replace H := Option.bind_eq_some_iff.mp H
  obtain ⟨⟨t118, t119⟩, A40, H⟩ := H
  replace H : ((hornbeamlaw06_fixed.f).bind fun t120 => (if t120 = true then ((rank_Missing.f (Flt.fbits a0)).bind fun t121 => ((hornbeamref06_Missing.f (Flt.fbits a0)).bind fun t122 => (if (t121 == t122) = true then ((rank_Key.f (Flt.fbits a0)).bind fun t123 => ((hornbeamref06_Key.f (Flt.fbits a0)).bind fun t124 => (if t123 = t124 then ((hornbeamref06_Bits.f (Flt.fbits a0)).bind fun t125 => (if (Flt.ubits t116) = t125 then (if t119 = true then ((hornbeamref06_Bits.f (Flt.fbits a0)).bind fun t126 => (some ((Flt.ubits t118) == t125))) else (some false)) else (some false))) else (some false)))) else (some false)))) else (some false))) = some r := H
  have A4 := Aside0.mk A40
  clear A40
  replace H := Option.bind_eq_some_iff.mp H
  obtain ⟨t120, A50, H⟩ := H
  replace H : (if t120 = true then ((rank_Missing.f (Flt.fbits a0)).bind fun t121 => ((hornbeamref06_Missing.f (Flt.fbits a0)).bind fun t122 => (if (t121 == t122) = true then ((rank_Key.f (Flt.fbits a0)).bind fun t123 => ((hornbeamref06_Key.f (Flt.fbits a0)).bind fun t124 => (if t123 = t124 then ((hornbeamref06_Bits.f (Flt.fbits a0)).bind fun t125 => (if (Flt.ubits t116) = t125 then (if t119 = true then ((hornbeamref06_Bits.f (Flt.fbits a0)).bind fun t126 => (some ((Flt.ubits t118) == t125))) else (some false)) else (some false))) else (some false)))) else (some false)))) else (some false)) = some r := H
  have A5 := Aside0.mk A50
  clear A50
  by_cases c6 : t120 = true
  · subst c6
    have H1 : ((rank_Missing.f (Flt.fbits a0)).bind fun t121 => ((hornbeamref06_Missing.f (Flt.fbits a0)).bind fun t122 => (if (t121 == t122) = true then ((rank_Key.f (Flt.fbits a0)).bind fun t123 => ((hornbeamref06_Key.f (Flt.fbits a0)).bind fun t124 => (if t123 = t124 then ((hornbeamref06_Bits.f (Flt.fbits a0)).bind fun t125 => (if (Flt.ubits t116) = t125 then (if t119 = true then ((hornbeamref06_Bits.f (Flt.fbits a0)).bind fun t126 => (some ((Flt.ubits t118) == t125))) else (some false)) else (some false))) else (some false)))) else (some false)))) = some r := by rw [if_pos rfl] at H; exact H
    clear H
    have H := H1
    clear H1
    replace H := Option.bind_eq_some_iff.mp H
    obtain ⟨t121, A70, H⟩ := H
    replace H : ((hornbeamref06_Missing.f (Flt.fbits a0)).bind fun t122 => (if (t121 == t122) = true then ((rank_Key.f (Flt.fbits a0)).bind fun t123 => ((hornbeamref06_Key.f (Flt.fbits a0)).bind fun t124 => (if t123 = t124 then ((hornbeamref06_Bits.f (Flt.fbits a0)).bind fun t125 => (if (Flt.ubits t116) = t125 then (if t119 = true then ((hornbeamref06_Bits.f (Flt.fbits a0)).bind fun t126 => (some ((Flt.ubits t118) == t125))) else (some false)) else (some false))) else (some false)))) else (some false))) = some r := H
    have A7 := Aside0.mk A70
    clear A70
    replace H := Option.bind_eq_some_iff.mp H
    obtain ⟨t122, A80, H⟩ := H
    replace H : (if (t121 == t122) = true then ((rank_Key.f (Flt.fbits a0)).bind fun t123 => ((hornbeamref06_Key.f (Flt.fbits a0)).bind fun t124 => (if t123 = t124 then ((hornbeamref06_Bits.f (Flt.fbits a0)).bind fun t125 => (if (Flt.ubits t116) = t125 then (if t119 = true then ((hornbeamref06_Bits.f (Flt.fbits a0)).bind fun t126 => (some ((Flt.ubits t118) == t125))) else (some false)) else (some false))) else (some false)))) else (some false)) = some r := H
    have A8 := Aside0.mk A80
    clear A80
    by_cases c9 : (t121 == t122) = true
    · rw [if_pos c9] at H
      have c9b0 : (t121 == t122) = true := c9
      (try (have c9b1 : decide (t121 = t122) = true := by simpa using c9))
      (try (have c9b2 : (t121 == t122) = true := by simpa using c9))
      clear c9
      replace H := Option.bind_eq_some_iff.mp H
      obtain ⟨t123, A100, H⟩ := H
      replace H : ((hornbeamref06_Key.f (Flt.fbits a0)).bind fun t124 => (if t123 = t124 then ((hornbeamref06_Bits.f (Flt.fbits a0)).bind fun t125 => (if (Flt.ubits t116) = t125 then (if t119 = true then ((hornbeamref06_Bits.f (Flt.fbits a0)).bind fun t126 => (some ((Flt.ubits t118) == t125))) else (some false)) else (some false))) else (some false))) = some r := H
      have A10 := Aside0.mk A100
      clear A100
      replace H := Option.bind_eq_some_iff.mp H
      obtain ⟨t124, A110, H⟩ := H
      replace H : (if t123 = t124 then ((hornbeamref06_Bits.f (Flt.fbits a0)).bind fun t125 => (if (Flt.ubits t116) = t125 then (if t119 = true then ((hornbeamref06_Bits.f (Flt.fbits a0)).bind fun t126 => (some ((Flt.ubits t118) == t125))) else (some false)) else (some false))) else (some false)) = some r := H
      have A11 := Aside0.mk A110
      clear A110
      by_cases c12 : t123 = t124
      · rw [if_pos c12] at H
        have c12b0 : (t123 == t124) = true := beq_iff_eq.mpr c12
        have c12b1 : (t123 != t124) = false := bne_eq_false_iff_eq.mpr c12
        clear c12
        replace H := Option.bind_eq_some_iff.mp H
        obtain ⟨t125, A130, H⟩ := H
        replace H : (if (Flt.ubits t116) = t125 then (if t119 = true then ((hornbeamref06_Bits.f (Flt.fbits a0)).bind fun t126 => (some ((Flt.ubits t118) == t125))) else (some false)) else (some false)) = some r := H
        have A13 := Aside0.mk A130
        clear A130
        by_cases c14 : (Flt.ubits t116) = t125
        · rw [if_pos c14] at H
          have c14b0 : ((Flt.ubits t116) == t125) = true := beq_iff_eq.mpr c14
          have c14b1 : ((Flt.ubits t116) != t125) = false := bne_eq_false_iff_eq.mpr c14
          clear c14
          by_cases c15 : t119 = true
          · subst c15
            have H1 : ((hornbeamref06_Bits.f (Flt.fbits a0)).bind fun t126 => (some ((Flt.ubits t118) == t125))) = some r := by rw [if_pos rfl] at H; exact H
            clear H
            have H := H1
            clear H1
            replace H := Option.bind_eq_some_iff.mp H
            obtain ⟨t126, A160, H⟩ := H
            replace H : (some ((Flt.ubits t118) == t125)) = some r := H
            have A16 := Aside0.mk A160
            clear A160
            obtain rfl := Option.some.inj H
            go_enter Try.func3, Try.ntmps3
            go_wp2_with (first | ((with_reducible refine gate_callee (f := 16) rfl ?_); refine goesL_ (some 10) rfl rfl Try.func16 (by kernel_rfl) rfl #[.float .f64 (Flt.fbits a0)] rfl (by (try simp only [List.map_toArray, List.map_cons, List.map_nil]); first | done | rfl | (simp only [List.length_drop, List.length_take]; rfl)) ?_; (with_reducible refine (rank_Clean.calls (Flt.fbits a0) t116 _ A2.out).mono ?_); rintro e w' ⟨rfl, ⟨nd, rfl⟩⟩; refine ⟨_, rfl, ?_⟩) | ((with_reducible refine gate_callee (f := 18) rfl ?_); refine goesL_ (some 13) rfl rfl Try.func18 (by kernel_rfl) rfl #[.float .f64 (Flt.fbits a0)] rfl (by (try simp only [List.map_toArray, List.map_cons, List.map_nil]); first | done | rfl | (simp only [List.length_drop, List.length_take]; rfl)) ?_; (with_reducible refine (rank_Key.calls (Flt.fbits a0) t117 _ A3.out).mono ?_); rintro e w' ⟨rfl, ⟨nd, rfl⟩⟩; refine ⟨_, rfl, ?_⟩) | ((with_reducible refine gate_callee (f := 17) rfl ?_); refine goesL_ (some 14) rfl rfl Try.func17 (by kernel_rfl) rfl #[.int .u64 t117] rfl (by (try simp only [List.map_toArray, List.map_cons, List.map_nil]); first | done | rfl | (simp only [List.length_drop, List.length_take]; rfl)) ?_; (with_reducible refine (rank_Of.calls k t117 t118 true _ A4.out).mono ?_); rintro e w' ⟨rfl, ⟨nd, rfl⟩⟩; refine ⟨_, rfl, ?_⟩) | ((with_reducible refine gate_callee (f := 19) rfl ?_); refine goesL_ (some 17) rfl rfl Try.func19 (by kernel_rfl) rfl #[] rfl (by (try simp only [List.map_toArray, List.map_cons, List.map_nil]); first | done | rfl | (simp only [List.length_drop, List.length_take]; rfl)) ?_; (with_reducible refine (hornbeamlaw06_fixed.calls  true _ A5.out).mono ?_); rintro e w' ⟨rfl, ⟨nd, rfl⟩⟩; refine ⟨_, rfl, ?_⟩) | (go_at_call 20; (with_reducible refine (rank_Missing.calls (Flt.fbits a0) t121 _ A7.out).mono ?_); rintro e w' ⟨rfl, ⟨nd, rfl⟩⟩) | (go_at_call 21; (with_reducible refine (hornbeamref06_Missing.calls (Flt.fbits a0) t122 _ A8.out).mono ?_); rintro e w' ⟨rfl, ⟨nd, rfl⟩⟩) | (go_at_call 18; (with_reducible refine (rank_Key.calls (Flt.fbits a0) t123 _ A10.out).mono ?_); rintro e w' ⟨rfl, ⟨nd, rfl⟩⟩) | (go_at_call 22; (with_reducible refine (hornbeamref06_Key.calls (Flt.fbits a0) t124 _ A11.out).mono ?_); rintro e w' ⟨rfl, ⟨nd, rfl⟩⟩) | (go_at_call 24; (with_reducible refine (hornbeamref06_Bits.calls (Flt.fbits a0) t125 _ A13.out).mono ?_); rintro e w' ⟨rfl, ⟨nd, rfl⟩⟩) | (go_at_call 24; (with_reducible refine (hornbeamref06_Bits.calls (Flt.fbits a0) t126 _ A16.out).mono ?_); rintro e w' ⟨rfl, ⟨nd, rfl⟩⟩))
            go_ret
            exact ⟨by first | rfl | (simp; done) | (simp [*]; done), by repeat (first | exact Drawn0.refl _ | apply Drawn0.step)⟩
          · replace c15 := Bool.eq_false_iff.mpr c15
            subst c15
            have H1 : (some false) = some r := by rw [if_neg (show ¬ (false = true) by decide)] at H; exact H
            clear H
            have H := H1
            clear H1
            obtain rfl := Option.some.inj H
            go_enter Try.func3, Try.ntmps3
            go_wp2_with (first | ((with_reducible refine gate_callee (f := 16) rfl ?_); refine goesL_ (some 10) rfl rfl Try.func16 (by kernel_rfl) rfl #[.float .f64 (Flt.fbits a0)] rfl (by (try simp only [List.map_toArray, List.map_cons, List.map_nil]); first | done | rfl | (simp only [List.length_drop, List.length_take]; rfl)) ?_; (with_reducible refine (rank_Clean.calls (Flt.fbits a0) t116 _ A2.out).mono ?_); rintro e w' ⟨rfl, ⟨nd, rfl⟩⟩; refine ⟨_, rfl, ?_⟩) | ((with_reducible refine gate_callee (f := 18) rfl ?_); refine goesL_ (some 13) rfl rfl Try.func18 (by kernel_rfl) rfl #[.float .f64 (Flt.fbits a0)] rfl (by (try simp only [List.map_toArray, List.map_cons, List.map_nil]); first | done | rfl | (simp only [List.length_drop, List.length_take]; rfl)) ?_; (with_reducible refine (rank_Key.calls (Flt.fbits a0) t117 _ A3.out).mono ?_); rintro e w' ⟨rfl, ⟨nd, rfl⟩⟩; refine ⟨_, rfl, ?_⟩) | ((with_reducible refine gate_callee (f := 17) rfl ?_); refine goesL_ (some 14) rfl rfl Try.func17 (by kernel_rfl) rfl #[.int .u64 t117] rfl (by (try simp only [List.map_toArray, List.map_cons, List.map_nil]); first | done | rfl | (simp only [List.length_drop, List.length_take]; rfl)) ?_; (with_reducible refine (rank_Of.calls k t117 t118 false _ A4.out).mono ?_); rintro e w' ⟨rfl, ⟨nd, rfl⟩⟩; refine ⟨_, rfl, ?_⟩) | ((with_reducible refine gate_callee (f := 19) rfl ?_); refine goesL_ (some 17) rfl rfl Try.func19 (by kernel_rfl) rfl #[] rfl (by (try simp only [List.map_toArray, List.map_cons, List.map_nil]); first | done | rfl | (simp only [List.length_drop, List.length_take]; rfl)) ?_; (with_reducible refine (hornbeamlaw06_fixed.calls  true _ A5.out).mono ?_); rintro e w' ⟨rfl, ⟨nd, rfl⟩⟩; refine ⟨_, rfl, ?_⟩) | (go_at_call 20; (with_reducible refine (rank_Missing.calls (Flt.fbits a0) t121 _ A7.out).mono ?_); rintro e w' ⟨rfl, ⟨nd, rfl⟩⟩) | (go_at_call 21; (with_reducible refine (hornbeamref06_Missing.calls (Flt.fbits a0) t122 _ A8.out).mono ?_); rintro e w' ⟨rfl, ⟨nd, rfl⟩⟩) | (go_at_call 18; (with_reducible refine (rank_Key.calls (Flt.fbits a0) t123 _ A10.out).mono ?_); rintro e w' ⟨rfl, ⟨nd, rfl⟩⟩) | (go_at_call 22; (with_reducible refine (hornbeamref06_Key.calls (Flt.fbits a0) t124 _ A11.out).mono ?_); rintro e w' ⟨rfl, ⟨nd, rfl⟩⟩) | (go_at_call 24; (with_reducible refine (hornbeamref06_Bits.calls (Flt.fbits a0) t125 _ A13.out).mono ?_); rintro e w' ⟨rfl, ⟨nd, rfl⟩⟩))
            go_ret
            exact ⟨by first | rfl | (simp; done) | (simp [*]; done), by repeat (first | exact Drawn0.refl _ | apply Drawn0.step)⟩
        · rw [if_neg c14] at H
          have c14b0 : ((Flt.ubits t116) == t125) = false := beq_eq_false_iff_ne.mpr c14
          have c14b1 : ((Flt.ubits t116) != t125) = true := bne_iff_ne.mpr c14
          obtain rfl := Option.some.inj H
          go_enter Try.func3, Try.ntmps3
          go_wp2_with (first | ((with_reducible refine gate_callee (f := 16) rfl ?_); refine goesL_ (some 10) rfl rfl Try.func16 (by kernel_rfl) rfl #[.float .f64 (Flt.fbits a0)] rfl (by (try simp only [List.map_toArray, List.map_cons, List.map_nil]); first | done | rfl | (simp only [List.length_drop, List.length_take]; rfl)) ?_; (with_reducible refine (rank_Clean.calls (Flt.fbits a0) t116 _ A2.out).mono ?_); rintro e w' ⟨rfl, ⟨nd, rfl⟩⟩; refine ⟨_, rfl, ?_⟩) | ((with_reducible refine gate_callee (f := 18) rfl ?_); refine goesL_ (some 13) rfl rfl Try.func18 (by kernel_rfl) rfl #[.float .f64 (Flt.fbits a0)] rfl (by (try simp only [List.map_toArray, List.map_cons, List.map_nil]); first | done | rfl | (simp only [List.length_drop, List.length_take]; rfl)) ?_; (with_reducible refine (rank_Key.calls (Flt.fbits a0) t117 _ A3.out).mono ?_); rintro e w' ⟨rfl, ⟨nd, rfl⟩⟩; refine ⟨_, rfl, ?_⟩) | ((with_reducible refine gate_callee (f := 17) rfl ?_); refine goesL_ (some 14) rfl rfl Try.func17 (by kernel_rfl) rfl #[.int .u64 t117] rfl (by (try simp only [List.map_toArray, List.map_cons, List.map_nil]); first | done | rfl | (simp only [List.length_drop, List.length_take]; rfl)) ?_; (with_reducible refine (rank_Of.calls k t117 t118 t119 _ A4.out).mono ?_); rintro e w' ⟨rfl, ⟨nd, rfl⟩⟩; refine ⟨_, rfl, ?_⟩) | ((with_reducible refine gate_callee (f := 19) rfl ?_); refine goesL_ (some 17) rfl rfl Try.func19 (by kernel_rfl) rfl #[] rfl (by (try simp only [List.map_toArray, List.map_cons, List.map_nil]); first | done | rfl | (simp only [List.length_drop, List.length_take]; rfl)) ?_; (with_reducible refine (hornbeamlaw06_fixed.calls  true _ A5.out).mono ?_); rintro e w' ⟨rfl, ⟨nd, rfl⟩⟩; refine ⟨_, rfl, ?_⟩) | (go_at_call 20; (with_reducible refine (rank_Missing.calls (Flt.fbits a0) t121 _ A7.out).mono ?_); rintro e w' ⟨rfl, ⟨nd, rfl⟩⟩) | (go_at_call 21; (with_reducible refine (hornbeamref06_Missing.calls (Flt.fbits a0) t122 _ A8.out).mono ?_); rintro e w' ⟨rfl, ⟨nd, rfl⟩⟩) | (go_at_call 18; (with_reducible refine (rank_Key.calls (Flt.fbits a0) t123 _ A10.out).mono ?_); rintro e w' ⟨rfl, ⟨nd, rfl⟩⟩) | (go_at_call 22; (with_reducible refine (hornbeamref06_Key.calls (Flt.fbits a0) t124 _ A11.out).mono ?_); rintro e w' ⟨rfl, ⟨nd, rfl⟩⟩) | (go_at_call 24; (with_reducible refine (hornbeamref06_Bits.calls (Flt.fbits a0) t125 _ A13.out).mono ?_); rintro e w' ⟨rfl, ⟨nd, rfl⟩⟩))
          go_ret
          exact ⟨by first | rfl | (simp; done) | (simp [*]; done), by repeat (first | exact Drawn0.refl _ | apply Drawn0.step)⟩
      · rw [if_neg c12] at H
        have c12b0 : (t123 == t124) = false := beq_eq_false_iff_ne.mpr c12
        have c12b1 : (t123 != t124) = true := bne_iff_ne.mpr c12
        obtain rfl := Option.some.inj H
        go_enter Try.func3, Try.ntmps3
        go_wp2_with (first | ((with_reducible refine gate_callee (f := 16) rfl ?_); refine goesL_ (some 10) rfl rfl Try.func16 (by kernel_rfl) rfl #[.float .f64 (Flt.fbits a0)] rfl (by (try simp only [List.map_toArray, List.map_cons, List.map_nil]); first | done | rfl | (simp only [List.length_drop, List.length_take]; rfl)) ?_; (with_reducible refine (rank_Clean.calls (Flt.fbits a0) t116 _ A2.out).mono ?_); rintro e w' ⟨rfl, ⟨nd, rfl⟩⟩; refine ⟨_, rfl, ?_⟩) | ((with_reducible refine gate_callee (f := 18) rfl ?_); refine goesL_ (some 13) rfl rfl Try.func18 (by kernel_rfl) rfl #[.float .f64 (Flt.fbits a0)] rfl (by (try simp only [List.map_toArray, List.map_cons, List.map_nil]); first | done | rfl | (simp only [List.length_drop, List.length_take]; rfl)) ?_; (with_reducible refine (rank_Key.calls (Flt.fbits a0) t117 _ A3.out).mono ?_); rintro e w' ⟨rfl, ⟨nd, rfl⟩⟩; refine ⟨_, rfl, ?_⟩) | ((with_reducible refine gate_callee (f := 17) rfl ?_); refine goesL_ (some 14) rfl rfl Try.func17 (by kernel_rfl) rfl #[.int .u64 t117] rfl (by (try simp only [List.map_toArray, List.map_cons, List.map_nil]); first | done | rfl | (simp only [List.length_drop, List.length_take]; rfl)) ?_; (with_reducible refine (rank_Of.calls k t117 t118 t119 _ A4.out).mono ?_); rintro e w' ⟨rfl, ⟨nd, rfl⟩⟩; refine ⟨_, rfl, ?_⟩) | ((with_reducible refine gate_callee (f := 19) rfl ?_); refine goesL_ (some 17) rfl rfl Try.func19 (by kernel_rfl) rfl #[] rfl (by (try simp only [List.map_toArray, List.map_cons, List.map_nil]); first | done | rfl | (simp only [List.length_drop, List.length_take]; rfl)) ?_; (with_reducible refine (hornbeamlaw06_fixed.calls  true _ A5.out).mono ?_); rintro e w' ⟨rfl, ⟨nd, rfl⟩⟩; refine ⟨_, rfl, ?_⟩) | (go_at_call 20; (with_reducible refine (rank_Missing.calls (Flt.fbits a0) t121 _ A7.out).mono ?_); rintro e w' ⟨rfl, ⟨nd, rfl⟩⟩) | (go_at_call 21; (with_reducible refine (hornbeamref06_Missing.calls (Flt.fbits a0) t122 _ A8.out).mono ?_); rintro e w' ⟨rfl, ⟨nd, rfl⟩⟩) | (go_at_call 18; (with_reducible refine (rank_Key.calls (Flt.fbits a0) t123 _ A10.out).mono ?_); rintro e w' ⟨rfl, ⟨nd, rfl⟩⟩) | (go_at_call 22; (with_reducible refine (hornbeamref06_Key.calls (Flt.fbits a0) t124 _ A11.out).mono ?_); rintro e w' ⟨rfl, ⟨nd, rfl⟩⟩))
        go_ret
        exact ⟨by first | rfl | (simp; done) | (simp [*]; done), by repeat (first | exact Drawn0.refl _ | apply Drawn0.step)⟩
    · rw [if_neg c9] at H
      have c9b0 : (t121 == t122) = false := by simpa using c9
      (try (have c9b1 : decide (t121 = t122) = false := by simpa using c9))
      (try (have c9b2 : (t121 == t122) = false := by simpa using c9))
      (try (have c9b3 : ¬ (t121 = t122) := by simpa using c9))
      clear c9
      obtain rfl := Option.some.inj H
      go_enter Try.func3, Try.ntmps3
      go_wp2_with (first | ((with_reducible refine gate_callee (f := 16) rfl ?_); refine goesL_ (some 10) rfl rfl Try.func16 (by kernel_rfl) rfl #[.float .f64 (Flt.fbits a0)] rfl (by (try simp only [List.map_toArray, List.map_cons, List.map_nil]); first | done | rfl | (simp only [List.length_drop, List.length_take]; rfl)) ?_; (with_reducible refine (rank_Clean.calls (Flt.fbits a0) t116 _ A2.out).mono ?_); rintro e w' ⟨rfl, ⟨nd, rfl⟩⟩; refine ⟨_, rfl, ?_⟩) | ((with_reducible refine gate_callee (f := 18) rfl ?_); refine goesL_ (some 13) rfl rfl Try.func18 (by kernel_rfl) rfl #[.float .f64 (Flt.fbits a0)] rfl (by (try simp only [List.map_toArray, List.map_cons, List.map_nil]); first | done | rfl | (simp only [List.length_drop, List.length_take]; rfl)) ?_; (with_reducible refine (rank_Key.calls (Flt.fbits a0) t117 _ A3.out).mono ?_); rintro e w' ⟨rfl, ⟨nd, rfl⟩⟩; refine ⟨_, rfl, ?_⟩) | ((with_reducible refine gate_callee (f := 17) rfl ?_); refine goesL_ (some 14) rfl rfl Try.func17 (by kernel_rfl) rfl #[.int .u64 t117] rfl (by (try simp only [List.map_toArray, List.map_cons, List.map_nil]); first | done | rfl | (simp only [List.length_drop, List.length_take]; rfl)) ?_; (with_reducible refine (rank_Of.calls k t117 t118 t119 _ A4.out).mono ?_); rintro e w' ⟨rfl, ⟨nd, rfl⟩⟩; refine ⟨_, rfl, ?_⟩) | ((with_reducible refine gate_callee (f := 19) rfl ?_); refine goesL_ (some 17) rfl rfl Try.func19 (by kernel_rfl) rfl #[] rfl (by (try simp only [List.map_toArray, List.map_cons, List.map_nil]); first | done | rfl | (simp only [List.length_drop, List.length_take]; rfl)) ?_; (with_reducible refine (hornbeamlaw06_fixed.calls  true _ A5.out).mono ?_); rintro e w' ⟨rfl, ⟨nd, rfl⟩⟩; refine ⟨_, rfl, ?_⟩) | (go_at_call 20; (with_reducible refine (rank_Missing.calls (Flt.fbits a0) t121 _ A7.out).mono ?_); rintro e w' ⟨rfl, ⟨nd, rfl⟩⟩) | (go_at_call 21; (with_reducible refine (hornbeamref06_Missing.calls (Flt.fbits a0) t122 _ A8.out).mono ?_); rintro e w' ⟨rfl, ⟨nd, rfl⟩⟩))
      go_ret
      exact ⟨by first | rfl | (simp; done) | (simp [*]; done), by repeat (first | exact Drawn0.refl _ | apply Drawn0.step)⟩
  · replace c6 := Bool.eq_false_iff.mpr c6
    subst c6
    have H1 : (some false) = some r := by rw [if_neg (show ¬ (false = true) by decide)] at H; exact H
    clear H
    have H := H1
    clear H1
    obtain rfl := Option.some.inj H
    go_enter Try.func3, Try.ntmps3
    go_wp2_with (first | ((with_reducible refine gate_callee (f := 16) rfl ?_); refine goesL_ (some 10) rfl rfl Try.func16 (by kernel_rfl) rfl #[.float .f64 (Flt.fbits a0)] rfl (by (try simp only [List.map_toArray, List.map_cons, List.map_nil]); first | done | rfl | (simp only [List.length_drop, List.length_take]; rfl)) ?_; (with_reducible refine (rank_Clean.calls (Flt.fbits a0) t116 _ A2.out).mono ?_); rintro e w' ⟨rfl, ⟨nd, rfl⟩⟩; refine ⟨_, rfl, ?_⟩) | ((with_reducible refine gate_callee (f := 18) rfl ?_); refine goesL_ (some 13) rfl rfl Try.func18 (by kernel_rfl) rfl #[.float .f64 (Flt.fbits a0)] rfl (by (try simp only [List.map_toArray, List.map_cons, List.map_nil]); first | done | rfl | (simp only [List.length_drop, List.length_take]; rfl)) ?_; (with_reducible refine (rank_Key.calls (Flt.fbits a0) t117 _ A3.out).mono ?_); rintro e w' ⟨rfl, ⟨nd, rfl⟩⟩; refine ⟨_, rfl, ?_⟩) | ((with_reducible refine gate_callee (f := 17) rfl ?_); refine goesL_ (some 14) rfl rfl Try.func17 (by kernel_rfl) rfl #[.int .u64 t117] rfl (by (try simp only [List.map_toArray, List.map_cons, List.map_nil]); first | done | rfl | (simp only [List.length_drop, List.length_take]; rfl)) ?_; (with_reducible refine (rank_Of.calls k t117 t118 t119 _ A4.out).mono ?_); rintro e w' ⟨rfl, ⟨nd, rfl⟩⟩; refine ⟨_, rfl, ?_⟩) | ((with_reducible refine gate_callee (f := 19) rfl ?_); refine goesL_ (some 17) rfl rfl Try.func19 (by kernel_rfl) rfl #[] rfl (by (try simp only [List.map_toArray, List.map_cons, List.map_nil]); first | done | rfl | (simp only [List.length_drop, List.length_take]; rfl)) ?_; (with_reducible refine (hornbeamlaw06_fixed.calls  false _ A5.out).mono ?_); rintro e w' ⟨rfl, ⟨nd, rfl⟩⟩; refine ⟨_, rfl, ?_⟩))
    go_ret
    exact ⟨by first | rfl | (simp; done) | (simp [*]; done), by repeat (first | exact Drawn0.refl _ | apply Drawn0.step)⟩

/-- What is left to prove of hornbeamlaw06_RankKeys. -/
def hornbeamlaw06_RankKeys.Pure : Prop := ∀ (a0 : Int), ((Lit.int .u64 a0).wf = true) → ∃ k, hornbeamlaw06_RankKeys.f k a0 = some true

/-! ### hornbeamref06_Is: function 25 -/
def hornbeamref06_Is.f (a0 : Int) : Option (Bool) := if a0 = 0 then (some true) else (if a0 ≥ 4503599627370495 then (if a0 ≤ 18442240474082181120 then (some (a0 != 9223372036854775807)) else (some false)) else (some false))
set_option maxHeartbeats 8000000 in
set_option maxRecDepth 100000 in
theorem hornbeamref06_Is.calls (a0 : Int) (r : Bool) (w : World) (h : hornbeamref06_Is.f a0 = some r) :
    Calls Try.prog 25 #[.int .u64 a0] w fun e w' => e = .returned (.bool r) ∧ Drawn0 w w' := by
  have H : (if a0 = 0 then (some true) else (if a0 ≥ 4503599627370495 then (if a0 ≤ 18442240474082181120 then (some (a0 != 9223372036854775807)) else (some false)) else (some false))) = some r := h
  clear h
  by_cases c2 : a0 = 0
  · rw [if_pos c2] at H
    have c2b0 : (a0 == 0) = true := beq_iff_eq.mpr c2
    have c2b1 : (a0 != 0) = false := bne_eq_false_iff_eq.mpr c2
    clear c2
    obtain rfl := Option.some.inj H
    go_enter Try.func25, Try.ntmps25
    go_wp2
    go_ret
    exact ⟨by first | rfl | (simp; done) | (simp [*]; done), by repeat (first | exact Drawn0.refl _ | apply Drawn0.step)⟩
  · rw [if_neg c2] at H
    have c2b0 : (a0 == 0) = false := beq_eq_false_iff_ne.mpr c2
    have c2b1 : (a0 != 0) = true := bne_iff_ne.mpr c2
    by_cases c3 : a0 ≥ 4503599627370495
    · rw [if_pos c3] at H
      have c3b0 : decide (4503599627370495 ≤ a0) = true := decide_eq_true c3
      clear c3
      by_cases c4 : a0 ≤ 18442240474082181120
      · rw [if_pos c4] at H
        have c4b0 : decide (a0 ≤ 18442240474082181120) = true := decide_eq_true c4
        clear c4
        obtain rfl := Option.some.inj H
        go_enter Try.func25, Try.ntmps25
        go_wp2
        go_ret
        exact ⟨by first | rfl | (simp; done) | (simp [*]; done), by repeat (first | exact Drawn0.refl _ | apply Drawn0.step)⟩
      · rw [if_neg c4] at H
        have c4b0 : decide (a0 ≤ 18442240474082181120) = false := decide_eq_false c4
        clear c4
        obtain rfl := Option.some.inj H
        go_enter Try.func25, Try.ntmps25
        go_wp2
        go_ret
        exact ⟨by first | rfl | (simp; done) | (simp [*]; done), by repeat (first | exact Drawn0.refl _ | apply Drawn0.step)⟩
    · rw [if_neg c3] at H
      have c3b0 : decide (4503599627370495 ≤ a0) = false := decide_eq_false c3
      clear c3
      obtain rfl := Option.some.inj H
      go_enter Try.func25, Try.ntmps25
      go_wp2
      go_ret
      exact ⟨by first | rfl | (simp; done) | (simp [*]; done), by repeat (first | exact Drawn0.refl _ | apply Drawn0.step)⟩

end Go.Proofs.Ytlmmlhljflladaa.PA
