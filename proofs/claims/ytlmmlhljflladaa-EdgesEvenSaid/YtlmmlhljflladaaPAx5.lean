-- Written by a program of this session (wip/hp) out of the translation of seat Ytlmmlhljflladaa.
import Derived.Test.YtlmmlhljflladaaPAx0
import Derived.Test.YtlmmlhljflladaaPAx1
import Derived.Test.YtlmmlhljflladaaPAx2
import Derived.Test.YtlmmlhljflladaaPAx4
namespace Go.Proofs.Ytlmmlhljflladaa.PA
open Go.RowKit Go.Proofs.YtlmmlhljflladaaW.PrintWords Go.Proofs.YtlmmlhljflladaaW.PrintLast Go.Proofs.YtlmmlhljflladaaW.PrintMore
attribute [local go_sem] max2_int min2_int max_two min_two max_three min_three max_four min_four   -- for this text's walks alone
attribute [local go_sem high] Flt.fold_eq Flt.fold_ne Flt.fold_lt Flt.fold_gt Flt.fold_le Flt.fold_ge Flt.run_bits Flt.run_frombits
set_option linter.unusedVariables false
set_option linter.unusedSimpArgs false

/-! ### hornbeamref06_Cmp: function 27 -/
def hornbeamref06_Cmp.j0 : Nat → Nat → Nat → Bool → Option (Int)
  | 0, _, _, _ => none
  | k + 1, x0, x1, x10 => if x10 = true then (some 0) else ((hornbeamref06_Missing.f x0).bind fun t141 => (if t141 = true then (some (-1)) else ((hornbeamref06_Missing.f x1).bind fun t142 => (if t142 = true then (some 1) else (if (Flt.lt x0 x1) = true then (some (-1)) else (if (Flt.gt x0 x1) = true then (some 1) else (some 0)))))))
def hornbeamref06_Cmp.f (k : Nat) (a0 : Nat) (a1 : Nat) : Option (Int) := (hornbeamref06_Missing.f a0).bind fun t139 => (if t139 = true then ((hornbeamref06_Missing.f a1).bind fun t140 => (hornbeamref06_Cmp.j0 k a0 a1 t140)) else (hornbeamref06_Cmp.j0 k a0 a1 false))
theorem hornbeamref06_Cmp.mono_l : ∀ k, (∀ y0 y1 y2, LeO (hornbeamref06_Cmp.j0 k y0 y1 y2) (hornbeamref06_Cmp.j0 (k + 1) y0 y1 y2))
  | 0 => fun _ _ _ r h => by simp [hornbeamref06_Cmp.j0] at h
  | k + 1 => by
    have ih0 := hornbeamref06_Cmp.mono_l k
    · intro y0 y1 y2
      unfold hornbeamref06_Cmp.j0
      repeat' first
      | (with_reducible exact ih0 _ _ _)
      | (with_reducible exact LeO.refl _)
      | (with_reducible exact LeO.none _)
      | (with_reducible refine LeO.ite ?_ ?_)
      | (with_reducible refine LeO.bind ?_ (fun _ => ?_))
      | exact ih0 _ _ _
      | exact LeO.none _
      | refine LeO.ite ?_ ?_
      | refine LeO.bind ?_ (fun _ => ?_)
theorem hornbeamref06_Cmp.mono : ∀ a0 a1 k, LeO (hornbeamref06_Cmp.f k a0 a1) (hornbeamref06_Cmp.f (k + 1) a0 a1) := by
  intro a0 a1 k
  have ih0 := hornbeamref06_Cmp.mono_l k
  unfold hornbeamref06_Cmp.f
  repeat' first
      | (with_reducible exact ih0 _ _ _)
      | (with_reducible exact LeO.refl _)
      | (with_reducible exact LeO.none _)
      | (with_reducible refine LeO.ite ?_ ?_)
      | (with_reducible refine LeO.bind ?_ (fun _ => ?_))
      | exact ih0 _ _ _
      | exact LeO.none _
      | refine LeO.ite ?_ ?_
      | refine LeO.bind ?_ (fun _ => ?_)
set_option maxHeartbeats 8000000 in
set_option maxRecDepth 100000 in
theorem hornbeamref06_Cmp.calls (k : Nat) (a0 : Nat) (a1 : Nat) (r : Int) (w : World) (h : hornbeamref06_Cmp.f k a0 a1 = some r) :
    Calls Try.prog 27 #[.float .f64 a0, .float .f64 a1] w fun e w' => e = .returned (.int .i64 r) ∧ Drawn0 w w' := by
  have H : ((hornbeamref06_Missing.f a0).bind fun t139 => (if t139 = true then ((hornbeamref06_Missing.f a1).bind fun t140 => (hornbeamref06_Cmp.j0 k a0 a1 t140)) else (hornbeamref06_Cmp.j0 k a0 a1 false))) = some r := h
  clear h
  have HC3 := Aside0.mk H
  clear H
  go_enter Try.func27, Try.ntmps27
  go_upto_region 1 with (fail)
  go_cut [10] (fun v10 wc => ∃ (kq : Nat) (x10_2 : Bool), v10 = .bool x10_2 ∧ Aside0 (hornbeamref06_Cmp.j0 kq a0 a1 x10_2 = some r) ∧ Aside0 (kq ≤ k) ∧ Drawn0 w wc)
  case first =>
    have H := HC3.out
    clear HC3
    replace H := Option.bind_eq_some_iff.mp H
    obtain ⟨t139, A40, H⟩ := H
    replace H : (if t139 = true then ((hornbeamref06_Missing.f a1).bind fun t140 => (hornbeamref06_Cmp.j0 k a0 a1 t140)) else (hornbeamref06_Cmp.j0 k a0 a1 false)) = some r := H
    have A4 := Aside0.mk A40
    clear A40
    by_cases c5 : t139 = true
    · subst c5
      have H1 : ((hornbeamref06_Missing.f a1).bind fun t140 => (hornbeamref06_Cmp.j0 k a0 a1 t140)) = some r := by rw [if_pos rfl] at H; exact H
      clear H
      have H := H1
      clear H1
      replace H := Option.bind_eq_some_iff.mp H
      obtain ⟨t140, A60, H⟩ := H
      replace H : (hornbeamref06_Cmp.j0 k a0 a1 t140) = some r := H
      have A6 := Aside0.mk A60
      clear A60
      have H' := Aside0.mk H
      clear H
      go_wp2_with (first | ((with_reducible refine gate_callee (f := 21) rfl ?_); refine goesL_ (some 6) rfl rfl Try.func21 (by kernel_rfl) rfl #[.float .f64 a0] rfl (by (try simp only [List.map_toArray, List.map_cons, List.map_nil]); first | done | rfl | (simp only [List.length_drop, List.length_take]; rfl)) ?_; (with_reducible refine (hornbeamref06_Missing.calls a0 true _ A4.out).mono ?_); rintro e w' ⟨rfl, ⟨nd, rfl⟩⟩; refine ⟨_, rfl, ?_⟩) | (go_at_call 21; (with_reducible refine (hornbeamref06_Missing.calls a1 t140 _ A6.out).mono ?_); rintro e w' ⟨rfl, ⟨nd, rfl⟩⟩))
      go_meet
      case rel => exact ⟨_, (t140), (by first | rfl | (simp; done) | (simp [*]; done)), H', ⟨by first | omega | exact Nat.le_refl _⟩, by repeat (first | exact Drawn0.refl _ | apply Drawn0.step)⟩
    · replace c5 := Bool.eq_false_iff.mpr c5
      subst c5
      have H1 : (hornbeamref06_Cmp.j0 k a0 a1 false) = some r := by rw [if_neg (show ¬ (false = true) by decide)] at H; exact H
      clear H
      have H := H1
      clear H1
      have H' := Aside0.mk H
      clear H
      go_wp2_with (first | ((with_reducible refine gate_callee (f := 21) rfl ?_); refine goesL_ (some 6) rfl rfl Try.func21 (by kernel_rfl) rfl #[.float .f64 a0] rfl (by (try simp only [List.map_toArray, List.map_cons, List.map_nil]); first | done | rfl | (simp only [List.length_drop, List.length_take]; rfl)) ?_; (with_reducible refine (hornbeamref06_Missing.calls a0 false _ A4.out).mono ?_); rintro e w' ⟨rfl, ⟨nd, rfl⟩⟩; refine ⟨_, rfl, ?_⟩))
      go_meet
      case rel => exact ⟨_, (false), (by first | rfl | (simp; done) | (simp [*]; done)), H', ⟨by first | omega | exact Nat.le_refl _⟩, by repeat (first | exact Drawn0.refl _ | apply Drawn0.step)⟩
  case rest =>
    clear HC3
    try clear c2
    try clear p2
    try clear c5
    obtain ⟨kq, x10_2, rfl, HA, HJ2, ⟨mc2, rfl⟩⟩ := hcut
    cases kq with
    | zero => exact absurd HA.out (by simp [hornbeamref06_Cmp.j0])
    | succ kj2 =>
      have H := HA.out
      clear HA
      simp only [hornbeamref06_Cmp.j0] at H
      by_cases c7 : x10_2 = true
      · subst c7
        have H1 : (some 0) = some r := by rw [if_pos rfl] at H; exact H
        clear H
        have H := H1
        clear H1
        obtain rfl := Option.some.inj H
        go_wp2
        go_ret
        exact ⟨by first | rfl | (simp; done) | (simp [*]; done), by repeat (first | exact Drawn0.refl _ | apply Drawn0.step)⟩
      · replace c7 := Bool.eq_false_iff.mpr c7
        subst c7
        have H1 : ((hornbeamref06_Missing.f a0).bind fun t141 => (if t141 = true then (some (-1)) else ((hornbeamref06_Missing.f a1).bind fun t142 => (if t142 = true then (some 1) else (if (Flt.lt a0 a1) = true then (some (-1)) else (if (Flt.gt a0 a1) = true then (some 1) else (some 0))))))) = some r := by rw [if_neg (show ¬ (false = true) by decide)] at H; exact H
        clear H
        have H := H1
        clear H1
        replace H := Option.bind_eq_some_iff.mp H
        obtain ⟨t141, A80, H⟩ := H
        replace H : (if t141 = true then (some (-1)) else ((hornbeamref06_Missing.f a1).bind fun t142 => (if t142 = true then (some 1) else (if (Flt.lt a0 a1) = true then (some (-1)) else (if (Flt.gt a0 a1) = true then (some 1) else (some 0)))))) = some r := H
        have A8 := Aside0.mk A80
        clear A80
        by_cases c9 : t141 = true
        · subst c9
          have H1 : (some (-1)) = some r := by rw [if_pos rfl] at H; exact H
          clear H
          have H := H1
          clear H1
          obtain rfl := Option.some.inj H
          go_wp2_with (first | ((with_reducible refine gate_callee (f := 21) rfl ?_); refine goesL_ (some 12) rfl rfl Try.func21 (by kernel_rfl) rfl #[.float .f64 a0] rfl (by (try simp only [List.map_toArray, List.map_cons, List.map_nil]); first | done | rfl | (simp only [List.length_drop, List.length_take]; rfl)) ?_; (with_reducible refine (hornbeamref06_Missing.calls a0 true _ A8.out).mono ?_); rintro e w' ⟨rfl, ⟨nd, rfl⟩⟩; refine ⟨_, rfl, ?_⟩))
          go_ret
          exact ⟨by first | rfl | (simp; done) | (simp [*]; done), by repeat (first | exact Drawn0.refl _ | apply Drawn0.step)⟩
        · replace c9 := Bool.eq_false_iff.mpr c9
          subst c9
          have H1 : ((hornbeamref06_Missing.f a1).bind fun t142 => (if t142 = true then (some 1) else (if (Flt.lt a0 a1) = true then (some (-1)) else (if (Flt.gt a0 a1) = true then (some 1) else (some 0))))) = some r := by rw [if_neg (show ¬ (false = true) by decide)] at H; exact H
          clear H
          have H := H1
          clear H1
          replace H := Option.bind_eq_some_iff.mp H
          obtain ⟨t142, A100, H⟩ := H
          replace H : (if t142 = true then (some 1) else (if (Flt.lt a0 a1) = true then (some (-1)) else (if (Flt.gt a0 a1) = true then (some 1) else (some 0)))) = some r := H
          have A10 := Aside0.mk A100
          clear A100
          by_cases c11 : t142 = true
          · subst c11
            have H1 : (some 1) = some r := by rw [if_pos rfl] at H; exact H
            clear H
            have H := H1
            clear H1
            obtain rfl := Option.some.inj H
            go_wp2_with (first | ((with_reducible refine gate_callee (f := 21) rfl ?_); refine goesL_ (some 12) rfl rfl Try.func21 (by kernel_rfl) rfl #[.float .f64 a0] rfl (by (try simp only [List.map_toArray, List.map_cons, List.map_nil]); first | done | rfl | (simp only [List.length_drop, List.length_take]; rfl)) ?_; (with_reducible refine (hornbeamref06_Missing.calls a0 false _ A8.out).mono ?_); rintro e w' ⟨rfl, ⟨nd, rfl⟩⟩; refine ⟨_, rfl, ?_⟩) | ((with_reducible refine gate_callee (f := 21) rfl ?_); refine goesL_ (some 14) rfl rfl Try.func21 (by kernel_rfl) rfl #[.float .f64 a1] rfl (by (try simp only [List.map_toArray, List.map_cons, List.map_nil]); first | done | rfl | (simp only [List.length_drop, List.length_take]; rfl)) ?_; (with_reducible refine (hornbeamref06_Missing.calls a1 true _ A10.out).mono ?_); rintro e w' ⟨rfl, ⟨nd, rfl⟩⟩; refine ⟨_, rfl, ?_⟩))
            go_ret
            exact ⟨by first | rfl | (simp; done) | (simp [*]; done), by repeat (first | exact Drawn0.refl _ | apply Drawn0.step)⟩
          · replace c11 := Bool.eq_false_iff.mpr c11
            subst c11
            have H1 : (if (Flt.lt a0 a1) = true then (some (-1)) else (if (Flt.gt a0 a1) = true then (some 1) else (some 0))) = some r := by rw [if_neg (show ¬ (false = true) by decide)] at H; exact H
            clear H
            have H := H1
            clear H1
            by_cases c12 : (Flt.lt a0 a1) = true
            · rw [if_pos c12] at H
              have c12b0 : (Flt.lt a0 a1) = true := c12
              clear c12
              obtain rfl := Option.some.inj H
              go_wp2_with (first | ((with_reducible refine gate_callee (f := 21) rfl ?_); refine goesL_ (some 12) rfl rfl Try.func21 (by kernel_rfl) rfl #[.float .f64 a0] rfl (by (try simp only [List.map_toArray, List.map_cons, List.map_nil]); first | done | rfl | (simp only [List.length_drop, List.length_take]; rfl)) ?_; (with_reducible refine (hornbeamref06_Missing.calls a0 false _ A8.out).mono ?_); rintro e w' ⟨rfl, ⟨nd, rfl⟩⟩; refine ⟨_, rfl, ?_⟩) | ((with_reducible refine gate_callee (f := 21) rfl ?_); refine goesL_ (some 14) rfl rfl Try.func21 (by kernel_rfl) rfl #[.float .f64 a1] rfl (by (try simp only [List.map_toArray, List.map_cons, List.map_nil]); first | done | rfl | (simp only [List.length_drop, List.length_take]; rfl)) ?_; (with_reducible refine (hornbeamref06_Missing.calls a1 false _ A10.out).mono ?_); rintro e w' ⟨rfl, ⟨nd, rfl⟩⟩; refine ⟨_, rfl, ?_⟩))
              go_ret
              exact ⟨by first | rfl | (simp; done) | (simp [*]; done), by repeat (first | exact Drawn0.refl _ | apply Drawn0.step)⟩
            · rw [if_neg c12] at H
              have c12b0 : (Flt.lt a0 a1) = false := by simpa using c12
              clear c12
              by_cases c13 : (Flt.gt a0 a1) = true
              · rw [if_pos c13] at H
                have c13b0 : (Flt.gt a0 a1) = true := c13
                clear c13
                obtain rfl := Option.some.inj H
                go_wp2_with (first | ((with_reducible refine gate_callee (f := 21) rfl ?_); refine goesL_ (some 12) rfl rfl Try.func21 (by kernel_rfl) rfl #[.float .f64 a0] rfl (by (try simp only [List.map_toArray, List.map_cons, List.map_nil]); first | done | rfl | (simp only [List.length_drop, List.length_take]; rfl)) ?_; (with_reducible refine (hornbeamref06_Missing.calls a0 false _ A8.out).mono ?_); rintro e w' ⟨rfl, ⟨nd, rfl⟩⟩; refine ⟨_, rfl, ?_⟩) | ((with_reducible refine gate_callee (f := 21) rfl ?_); refine goesL_ (some 14) rfl rfl Try.func21 (by kernel_rfl) rfl #[.float .f64 a1] rfl (by (try simp only [List.map_toArray, List.map_cons, List.map_nil]); first | done | rfl | (simp only [List.length_drop, List.length_take]; rfl)) ?_; (with_reducible refine (hornbeamref06_Missing.calls a1 false _ A10.out).mono ?_); rintro e w' ⟨rfl, ⟨nd, rfl⟩⟩; refine ⟨_, rfl, ?_⟩))
                go_ret
                exact ⟨by first | rfl | (simp; done) | (simp [*]; done), by repeat (first | exact Drawn0.refl _ | apply Drawn0.step)⟩
              · rw [if_neg c13] at H
                have c13b0 : (Flt.gt a0 a1) = false := by simpa using c13
                clear c13
                obtain rfl := Option.some.inj H
                go_wp2_with (first | ((with_reducible refine gate_callee (f := 21) rfl ?_); refine goesL_ (some 12) rfl rfl Try.func21 (by kernel_rfl) rfl #[.float .f64 a0] rfl (by (try simp only [List.map_toArray, List.map_cons, List.map_nil]); first | done | rfl | (simp only [List.length_drop, List.length_take]; rfl)) ?_; (with_reducible refine (hornbeamref06_Missing.calls a0 false _ A8.out).mono ?_); rintro e w' ⟨rfl, ⟨nd, rfl⟩⟩; refine ⟨_, rfl, ?_⟩) | ((with_reducible refine gate_callee (f := 21) rfl ?_); refine goesL_ (some 14) rfl rfl Try.func21 (by kernel_rfl) rfl #[.float .f64 a1] rfl (by (try simp only [List.map_toArray, List.map_cons, List.map_nil]); first | done | rfl | (simp only [List.length_drop, List.length_take]; rfl)) ?_; (with_reducible refine (hornbeamref06_Missing.calls a1 false _ A10.out).mono ?_); rintro e w' ⟨rfl, ⟨nd, rfl⟩⟩; refine ⟨_, rfl, ?_⟩))
                go_ret
                exact ⟨by first | rfl | (simp; done) | (simp [*]; done), by repeat (first | exact Drawn0.refl _ | apply Drawn0.step)⟩

/-! ### hornbeamlaw06_RankOrder: function 5 -/
def hornbeamlaw06_RankOrder.f (k : Nat) (a0 : Int) (a1 : Int) : Option (Bool) := (rank_Cmp.f (Flt.fbits a0) (Flt.fbits a1)).bind fun t143 => ((hornbeamlaw06_fixed.f).bind fun t144 => (if t144 = true then ((hornbeamref06_Cmp.f k (Flt.fbits a0) (Flt.fbits a1)).bind fun t145 => (if t143 = t145 then ((rank_Key.f (Flt.fbits a0)).bind fun t146 => ((rank_Key.f (Flt.fbits a1)).bind fun t147 => (if ((decide (t143 < 0)) == (decide (t146 < t147))) = true then ((rank_Key.f (Flt.fbits a0)).bind fun t148 => ((rank_Key.f (Flt.fbits a1)).bind fun t149 => (some ((t143 == 0) == (t146 == t147))))) else (some false)))) else (some false))) else (some false)))
theorem hornbeamlaw06_RankOrder.mono : ∀ a0 a1 k, LeO (hornbeamlaw06_RankOrder.f k a0 a1) (hornbeamlaw06_RankOrder.f (k + 1) a0 a1) := by
  intro a0 a1 k
  unfold hornbeamlaw06_RankOrder.f
  repeat' first
      | (with_reducible exact hornbeamref06_Cmp.mono _ _ _)
      | (with_reducible exact LeO.refl _)
      | (with_reducible exact LeO.none _)
      | (with_reducible refine LeO.ite ?_ ?_)
      | (with_reducible refine LeO.bind ?_ (fun _ => ?_))
      | exact hornbeamref06_Cmp.mono _ _ _
      | exact LeO.none _
      | refine LeO.ite ?_ ?_
      | refine LeO.bind ?_ (fun _ => ?_)
set_option maxHeartbeats 8000000 in
set_option maxRecDepth 100000 in
theorem hornbeamlaw06_RankOrder.calls (k : Nat) (a0 : Int) (a1 : Int) (r : Bool) (w : World) (h : hornbeamlaw06_RankOrder.f k a0 a1 = some r) :
    Calls Try.prog 5 #[.int .u64 a0, .int .u64 a1] w fun e w' => e = .returned (.bool r) ∧ Drawn0 w w' := by
  have H : ((rank_Cmp.f (Flt.fbits a0) (Flt.fbits a1)).bind fun t143 => ((hornbeamlaw06_fixed.f).bind fun t144 => (if t144 = true then ((hornbeamref06_Cmp.f k (Flt.fbits a0) (Flt.fbits a1)).bind fun t145 => (if t143 = t145 then ((rank_Key.f (Flt.fbits a0)).bind fun t146 => ((rank_Key.f (Flt.fbits a1)).bind fun t147 => (if ((decide (t143 < 0)) == (decide (t146 < t147))) = true then ((rank_Key.f (Flt.fbits a0)).bind fun t148 => ((rank_Key.f (Flt.fbits a1)).bind fun t149 => (some ((t143 == 0) == (t146 == t147))))) else (some false)))) else (some false))) else (some false)))) = some r := h
  clear h
  replace H := Option.bind_eq_some_iff.mp H
  obtain ⟨t143, A30, H⟩ := H
  replace H : ((hornbeamlaw06_fixed.f).bind fun t144 => (if t144 = true then ((hornbeamref06_Cmp.f k (Flt.fbits a0) (Flt.fbits a1)).bind fun t145 => (if t143 = t145 then ((rank_Key.f (Flt.fbits a0)).bind fun t146 => ((rank_Key.f (Flt.fbits a1)).bind fun t147 => (if ((decide (t143 < 0)) == (decide (t146 < t147))) = true then ((rank_Key.f (Flt.fbits a0)).bind fun t148 => ((rank_Key.f (Flt.fbits a1)).bind fun t149 => (some ((t143 == 0) == (t146 == t147))))) else (some false)))) else (some false))) else (some false))) = some r := H
  have A3 := Aside0.mk A30
  clear A30
  replace H := Option.bind_eq_some_iff.mp H
  obtain ⟨t144, A40, H⟩ := H
  replace H : (if t144 = true then ((hornbeamref06_Cmp.f k (Flt.fbits a0) (Flt.fbits a1)).bind fun t145 => (if t143 = t145 then ((rank_Key.f (Flt.fbits a0)).bind fun t146 => ((rank_Key.f (Flt.fbits a1)).bind fun t147 => (if ((decide (t143 < 0)) == (decide (t146 < t147))) = true then ((rank_Key.f (Flt.fbits a0)).bind fun t148 => ((rank_Key.f (Flt.fbits a1)).bind fun t149 => (some ((t143 == 0) == (t146 == t147))))) else (some false)))) else (some false))) else (some false)) = some r := H
  have A4 := Aside0.mk A40
  clear A40
  by_cases c5 : t144 = true
  · subst c5
    have H1 : ((hornbeamref06_Cmp.f k (Flt.fbits a0) (Flt.fbits a1)).bind fun t145 => (if t143 = t145 then ((rank_Key.f (Flt.fbits a0)).bind fun t146 => ((rank_Key.f (Flt.fbits a1)).bind fun t147 => (if ((decide (t143 < 0)) == (decide (t146 < t147))) = true then ((rank_Key.f (Flt.fbits a0)).bind fun t148 => ((rank_Key.f (Flt.fbits a1)).bind fun t149 => (some ((t143 == 0) == (t146 == t147))))) else (some false)))) else (some false))) = some r := by rw [if_pos rfl] at H; exact H
    clear H
    have H := H1
    clear H1
    replace H := Option.bind_eq_some_iff.mp H
    obtain ⟨t145, A60, H⟩ := H
    replace H : (if t143 = t145 then ((rank_Key.f (Flt.fbits a0)).bind fun t146 => ((rank_Key.f (Flt.fbits a1)).bind fun t147 => (if ((decide (t143 < 0)) == (decide (t146 < t147))) = true then ((rank_Key.f (Flt.fbits a0)).bind fun t148 => ((rank_Key.f (Flt.fbits a1)).bind fun t149 => (some ((t143 == 0) == (t146 == t147))))) else (some false)))) else (some false)) = some r := H
    have A6 := Aside0.mk A60
    clear A60
    by_cases c7 : t143 = t145
    · rw [if_pos c7] at H
      have c7b0 : (t143 == t145) = true := beq_iff_eq.mpr c7
      have c7b1 : (t143 != t145) = false := bne_eq_false_iff_eq.mpr c7
      clear c7
      replace H := Option.bind_eq_some_iff.mp H
      obtain ⟨t146, A80, H⟩ := H
      replace H : ((rank_Key.f (Flt.fbits a1)).bind fun t147 => (if ((decide (t143 < 0)) == (decide (t146 < t147))) = true then ((rank_Key.f (Flt.fbits a0)).bind fun t148 => ((rank_Key.f (Flt.fbits a1)).bind fun t149 => (some ((t143 == 0) == (t146 == t147))))) else (some false))) = some r := H
      have A8 := Aside0.mk A80
      clear A80
      replace H := Option.bind_eq_some_iff.mp H
      obtain ⟨t147, A90, H⟩ := H
      replace H : (if ((decide (t143 < 0)) == (decide (t146 < t147))) = true then ((rank_Key.f (Flt.fbits a0)).bind fun t148 => ((rank_Key.f (Flt.fbits a1)).bind fun t149 => (some ((t143 == 0) == (t146 == t147))))) else (some false)) = some r := H
      have A9 := Aside0.mk A90
      clear A90
      by_cases c10 : ((decide (t143 < 0)) == (decide (t146 < t147))) = true
      · rw [if_pos c10] at H
        have c10b0 : ((decide (t143 < 0)) == (decide (t146 < t147))) = true := c10
        (try (have c10b1 : decide ((decide (t143 < 0)) = (decide (t146 < t147))) = true := by simpa using c10))
        (try (have c10b2 : ((decide (t143 < 0)) == (decide (t146 < t147))) = true := by simpa using c10))
        clear c10
        replace H := Option.bind_eq_some_iff.mp H
        obtain ⟨t148, A110, H⟩ := H
        replace H : ((rank_Key.f (Flt.fbits a1)).bind fun t149 => (some ((t143 == 0) == (t146 == t147)))) = some r := H
        have A11 := Aside0.mk A110
        clear A110
        replace H := Option.bind_eq_some_iff.mp H
        obtain ⟨t149, A120, H⟩ := H
        replace H : (some ((t143 == 0) == (t146 == t147))) = some r := H
        have A12 := Aside0.mk A120
        clear A120
        obtain rfl := Option.some.inj H
        go_enter Try.func5, Try.ntmps5
        go_wp2_with (first | ((with_reducible refine gate_callee (f := 26) rfl ?_); refine goesL_ (some 14) rfl rfl Try.func26 (by kernel_rfl) rfl #[.float .f64 (Flt.fbits a0), .float .f64 (Flt.fbits a1)] rfl (by (try simp only [List.map_toArray, List.map_cons, List.map_nil]); first | done | rfl | (simp only [List.length_drop, List.length_take]; rfl)) ?_; (with_reducible refine (rank_Cmp.calls (Flt.fbits a0) (Flt.fbits a1) t143 _ A3.out).mono ?_); rintro e w' ⟨rfl, ⟨nd, rfl⟩⟩; refine ⟨_, rfl, ?_⟩) | ((with_reducible refine gate_callee (f := 19) rfl ?_); refine goesL_ (some 15) rfl rfl Try.func19 (by kernel_rfl) rfl #[] rfl (by (try simp only [List.map_toArray, List.map_cons, List.map_nil]); first | done | rfl | (simp only [List.length_drop, List.length_take]; rfl)) ?_; (with_reducible refine (hornbeamlaw06_fixed.calls  true _ A4.out).mono ?_); rintro e w' ⟨rfl, ⟨nd, rfl⟩⟩; refine ⟨_, rfl, ?_⟩) | (go_at_call 27; (with_reducible refine (hornbeamref06_Cmp.calls k (Flt.fbits a0) (Flt.fbits a1) t145 _ A6.out).mono ?_); rintro e w' ⟨rfl, ⟨nd, rfl⟩⟩) | (go_at_call 18; (with_reducible refine (rank_Key.calls (Flt.fbits a0) t146 _ A8.out).mono ?_); rintro e w' ⟨rfl, ⟨nd, rfl⟩⟩) | (go_at_call 18; (with_reducible refine (rank_Key.calls (Flt.fbits a1) t147 _ A9.out).mono ?_); rintro e w' ⟨rfl, ⟨nd, rfl⟩⟩) | (go_at_call 18; (with_reducible refine (rank_Key.calls (Flt.fbits a0) t148 _ A11.out).mono ?_); rintro e w' ⟨rfl, ⟨nd, rfl⟩⟩) | (go_at_call 18; (with_reducible refine (rank_Key.calls (Flt.fbits a1) t149 _ A12.out).mono ?_); rintro e w' ⟨rfl, ⟨nd, rfl⟩⟩))
        go_ret
        exact ⟨by first | rfl | (simp; done) | (simp [*]; done), by repeat (first | exact Drawn0.refl _ | apply Drawn0.step)⟩
      · rw [if_neg c10] at H
        have c10b0 : ((decide (t143 < 0)) == (decide (t146 < t147))) = false := by simpa using c10
        (try (have c10b1 : decide ((decide (t143 < 0)) = (decide (t146 < t147))) = false := by simpa using c10))
        (try (have c10b2 : ((decide (t143 < 0)) == (decide (t146 < t147))) = false := by simpa using c10))
        (try (have c10b3 : ¬ ((decide (t143 < 0)) = (decide (t146 < t147))) := by simpa using c10))
        clear c10
        obtain rfl := Option.some.inj H
        go_enter Try.func5, Try.ntmps5
        go_wp2_with (first | ((with_reducible refine gate_callee (f := 26) rfl ?_); refine goesL_ (some 14) rfl rfl Try.func26 (by kernel_rfl) rfl #[.float .f64 (Flt.fbits a0), .float .f64 (Flt.fbits a1)] rfl (by (try simp only [List.map_toArray, List.map_cons, List.map_nil]); first | done | rfl | (simp only [List.length_drop, List.length_take]; rfl)) ?_; (with_reducible refine (rank_Cmp.calls (Flt.fbits a0) (Flt.fbits a1) t143 _ A3.out).mono ?_); rintro e w' ⟨rfl, ⟨nd, rfl⟩⟩; refine ⟨_, rfl, ?_⟩) | ((with_reducible refine gate_callee (f := 19) rfl ?_); refine goesL_ (some 15) rfl rfl Try.func19 (by kernel_rfl) rfl #[] rfl (by (try simp only [List.map_toArray, List.map_cons, List.map_nil]); first | done | rfl | (simp only [List.length_drop, List.length_take]; rfl)) ?_; (with_reducible refine (hornbeamlaw06_fixed.calls  true _ A4.out).mono ?_); rintro e w' ⟨rfl, ⟨nd, rfl⟩⟩; refine ⟨_, rfl, ?_⟩) | (go_at_call 27; (with_reducible refine (hornbeamref06_Cmp.calls k (Flt.fbits a0) (Flt.fbits a1) t145 _ A6.out).mono ?_); rintro e w' ⟨rfl, ⟨nd, rfl⟩⟩) | (go_at_call 18; (with_reducible refine (rank_Key.calls (Flt.fbits a0) t146 _ A8.out).mono ?_); rintro e w' ⟨rfl, ⟨nd, rfl⟩⟩) | (go_at_call 18; (with_reducible refine (rank_Key.calls (Flt.fbits a1) t147 _ A9.out).mono ?_); rintro e w' ⟨rfl, ⟨nd, rfl⟩⟩))
        go_ret
        exact ⟨by first | rfl | (simp; done) | (simp [*]; done), by repeat (first | exact Drawn0.refl _ | apply Drawn0.step)⟩
    · rw [if_neg c7] at H
      have c7b0 : (t143 == t145) = false := beq_eq_false_iff_ne.mpr c7
      have c7b1 : (t143 != t145) = true := bne_iff_ne.mpr c7
      obtain rfl := Option.some.inj H
      go_enter Try.func5, Try.ntmps5
      go_wp2_with (first | ((with_reducible refine gate_callee (f := 26) rfl ?_); refine goesL_ (some 14) rfl rfl Try.func26 (by kernel_rfl) rfl #[.float .f64 (Flt.fbits a0), .float .f64 (Flt.fbits a1)] rfl (by (try simp only [List.map_toArray, List.map_cons, List.map_nil]); first | done | rfl | (simp only [List.length_drop, List.length_take]; rfl)) ?_; (with_reducible refine (rank_Cmp.calls (Flt.fbits a0) (Flt.fbits a1) t143 _ A3.out).mono ?_); rintro e w' ⟨rfl, ⟨nd, rfl⟩⟩; refine ⟨_, rfl, ?_⟩) | ((with_reducible refine gate_callee (f := 19) rfl ?_); refine goesL_ (some 15) rfl rfl Try.func19 (by kernel_rfl) rfl #[] rfl (by (try simp only [List.map_toArray, List.map_cons, List.map_nil]); first | done | rfl | (simp only [List.length_drop, List.length_take]; rfl)) ?_; (with_reducible refine (hornbeamlaw06_fixed.calls  true _ A4.out).mono ?_); rintro e w' ⟨rfl, ⟨nd, rfl⟩⟩; refine ⟨_, rfl, ?_⟩) | (go_at_call 27; (with_reducible refine (hornbeamref06_Cmp.calls k (Flt.fbits a0) (Flt.fbits a1) t145 _ A6.out).mono ?_); rintro e w' ⟨rfl, ⟨nd, rfl⟩⟩))
      go_ret
      exact ⟨by first | rfl | (simp; done) | (simp [*]; done), by repeat (first | exact Drawn0.refl _ | apply Drawn0.step)⟩
  · replace c5 := Bool.eq_false_iff.mpr c5
    subst c5
    have H1 : (some false) = some r := by rw [if_neg (show ¬ (false = true) by decide)] at H; exact H
    clear H
    have H := H1
    clear H1
    obtain rfl := Option.some.inj H
    go_enter Try.func5, Try.ntmps5
    go_wp2_with (first | ((with_reducible refine gate_callee (f := 26) rfl ?_); refine goesL_ (some 14) rfl rfl Try.func26 (by kernel_rfl) rfl #[.float .f64 (Flt.fbits a0), .float .f64 (Flt.fbits a1)] rfl (by (try simp only [List.map_toArray, List.map_cons, List.map_nil]); first | done | rfl | (simp only [List.length_drop, List.length_take]; rfl)) ?_; (with_reducible refine (rank_Cmp.calls (Flt.fbits a0) (Flt.fbits a1) t143 _ A3.out).mono ?_); rintro e w' ⟨rfl, ⟨nd, rfl⟩⟩; refine ⟨_, rfl, ?_⟩) | ((with_reducible refine gate_callee (f := 19) rfl ?_); refine goesL_ (some 15) rfl rfl Try.func19 (by kernel_rfl) rfl #[] rfl (by (try simp only [List.map_toArray, List.map_cons, List.map_nil]); first | done | rfl | (simp only [List.length_drop, List.length_take]; rfl)) ?_; (with_reducible refine (hornbeamlaw06_fixed.calls  false _ A4.out).mono ?_); rintro e w' ⟨rfl, ⟨nd, rfl⟩⟩; refine ⟨_, rfl, ?_⟩))
    go_ret
    exact ⟨by first | rfl | (simp; done) | (simp [*]; done), by repeat (first | exact Drawn0.refl _ | apply Drawn0.step)⟩

/-- What is left to prove of hornbeamlaw06_RankOrder. -/
def hornbeamlaw06_RankOrder.Pure : Prop := ∀ (a0 : Int) (a1 : Int), ((Lit.int .u64 a0).wf = true) → ((Lit.int .u64 a1).wf = true) → ∃ k, hornbeamlaw06_RankOrder.f k a0 a1 = some true

end Go.Proofs.Ytlmmlhljflladaa.PA
