-- Written by a program of this session (wip/hp) out of the translation of seat Ytlmmlhljflladaa.
import Derived.Test.YtlmmlhljflladaaPAx0
import Derived.Test.YtlmmlhljflladaaPAx1
import Derived.Test.YtlmmlhljflladaaPAx4
namespace Go.Proofs.Ytlmmlhljflladaa.PA
open Go.RowKit Go.Proofs.YtlmmlhljflladaaW.PrintWords Go.Proofs.YtlmmlhljflladaaW.PrintLast Go.Proofs.YtlmmlhljflladaaW.PrintMore
attribute [local go_sem] max2_int min2_int max_two min_two max_three min_three max_four min_four   -- for this text's walks alone
attribute [local go_sem high] Flt.fold_eq Flt.fold_ne Flt.fold_lt Flt.fold_gt Flt.fold_le Flt.fold_ge Flt.run_bits Flt.run_frombits
set_option linter.unusedVariables false
set_option linter.unusedSimpArgs false

/-! ### edges_Right: function 36 -/
def edges_Right.l0 : Nat → List Nat → List Nat → Int → Int → Option (Bool)
  | 0, _, _, _, _ => none
  | k + 1, x0, x5, x6, x7 => if x7 < x6 then (if 0 ≤ x7 then (if x7 < (x5.length : Int) then ((rank_Missing.f (rdOf (0 : Nat) x5 x7)).bind fun t349 => (if t349 = true then (some false) else ((rank_Clean.f (rdOf (0 : Nat) x5 x7)).bind fun t350 => (if (Flt.ubits (rdOf (0 : Nat) x5 x7)) = (Flt.ubits t350) then (if x7 > 0 then (if 0 ≤ (wrap64 (x7 - 1)) then (if (wrap64 (x7 - 1)) < (x0.length : Int) then ((rank_Cmp.f (rdOf (0 : Nat) x0 (wrap64 (x7 - 1))) (rdOf (0 : Nat) x5 x7)).bind fun t352 => (if t352 ≥ 0 then (some false) else (edges_Right.l0 k x0 x5 x6 (wrap64 (x7 + 1))))) else (none)) else (none)) else (edges_Right.l0 k x0 x5 x6 (wrap64 (x7 + 1)))) else (some false))))) else (none)) else (none)) else (some (decide ((x0.length : Int) < 256)))
def edges_Right.f (k : Nat) (l0 : List Nat) : Option (Bool) := edges_Right.l0 k l0 l0 (l0.length : Int) 0
theorem edges_Right.mono_l : ∀ k, (∀ y0 y1 y2 y3, LeO (edges_Right.l0 k y0 y1 y2 y3) (edges_Right.l0 (k + 1) y0 y1 y2 y3))
  | 0 => fun _ _ _ _ r h => by simp [edges_Right.l0] at h
  | k + 1 => by
    have ih0 := edges_Right.mono_l k
    · intro y0 y1 y2 y3
      unfold edges_Right.l0
      repeat' first
      | (with_reducible exact ih0 _ _ _ _)
      | (with_reducible exact LeO.refl _)
      | (with_reducible exact LeO.none _)
      | (with_reducible refine LeO.ite ?_ ?_)
      | (with_reducible refine LeO.bind ?_ (fun _ => ?_))
      | exact ih0 _ _ _ _
      | exact LeO.none _
      | refine LeO.ite ?_ ?_
      | refine LeO.bind ?_ (fun _ => ?_)
theorem edges_Right.mono : ∀ a0 k, LeO (edges_Right.f k a0) (edges_Right.f (k + 1) a0) := by
  intro a0 k
  have ih0 := edges_Right.mono_l k
  unfold edges_Right.f
  repeat' first
      | (with_reducible exact ih0 _ _ _ _)
      | (with_reducible exact LeO.refl _)
      | (with_reducible exact LeO.none _)
      | (with_reducible refine LeO.ite ?_ ?_)
      | (with_reducible refine LeO.bind ?_ (fun _ => ?_))
      | exact ih0 _ _ _ _
      | exact LeO.none _
      | refine LeO.ite ?_ ?_
      | refine LeO.bind ?_ (fun _ => ?_)
set_option maxHeartbeats 8000000 in
set_option maxRecDepth 100000 in
theorem edges_Right.calls (k : Nat) (A0 : Option Addr) (c0 : Nat) (l0 : List Nat) (r : Bool) (w : World) (hr0 : Kd.C Flt.kf w A0 l0.length l0) (hc0 : l0.length ≤ c0) (h : edges_Right.f k l0 = some r) :
    Calls Try.prog 36 #[.slice A0 l0.length c0] w fun e w' => e = .returned (.bool r) ∧ Drawn0 w w' := by
  have HR0 := Aside0.mk hr0
  have HC0 := Aside0.mk hc0
  clear hr0 hc0
  have H : (edges_Right.l0 k l0 l0 (l0.length : Int) 0) = some r := h
  clear h
  have H' := Aside0.mk H
  clear H
  go_enter Try.func36, Try.ntmps36
  go_wp2
  go_loopg [7] k (fun kq v7 w' => ∃ (x7_1 : Int), v7 = .int .i64 x7_1 ∧ Aside0 (edges_Right.l0 kq l0 l0 (l0.length : Int) x7_1 = some r) ∧ Aside0 (kq ≤ k) ∧ Drawn0 w w')
  case atStart => exact ⟨(0), (by first | rfl | (simp; done) | (simp [*]; done)), H', ⟨Nat.le_refl _⟩, by repeat (first | exact Drawn0.refl _ | apply Drawn0.step)⟩
  case round =>
    clear H'
    obtain ⟨x7_1, rfl, HA, HK1, ⟨m1, rfl⟩⟩ := hrel
    cases gk with
    | zero => exact absurd HA.out (by simp [edges_Right.l0])
    | succ k1 =>
      have H := HA.out
      clear HA
      simp only [edges_Right.l0] at H
      by_cases c2 : x7_1 < (l0.length : Int)
      · rw [if_pos c2] at H
        have c2b0 : decide (x7_1 < (l0.length : Int)) = true := decide_eq_true c2
        clear c2
        by_cases c3 : 0 ≤ x7_1
        · rw [if_pos c3] at H
          have c3b0 : decide (0 ≤ x7_1) = true := decide_eq_true c3
          clear c3
          by_cases c4 : x7_1 < (l0.length : Int)
          · rw [if_pos c4] at H
            have c4b0 : decide (x7_1 < (l0.length : Int)) = true := decide_eq_true c4
            clear c4
            replace H := Option.bind_eq_some_iff.mp H
            obtain ⟨t349, A50, H⟩ := H
            replace H : (if t349 = true then (some false) else ((rank_Clean.f (rdOf (0 : Nat) l0 x7_1)).bind fun t350 => (if (Flt.ubits (rdOf (0 : Nat) l0 x7_1)) = (Flt.ubits t350) then (if x7_1 > 0 then (if 0 ≤ (wrap64 (x7_1 - 1)) then (if (wrap64 (x7_1 - 1)) < (l0.length : Int) then ((rank_Cmp.f (rdOf (0 : Nat) l0 (wrap64 (x7_1 - 1))) (rdOf (0 : Nat) l0 x7_1)).bind fun t352 => (if t352 ≥ 0 then (some false) else (edges_Right.l0 k1 l0 l0 (l0.length : Int) (wrap64 (x7_1 + 1))))) else (none)) else (none)) else (edges_Right.l0 k1 l0 l0 (l0.length : Int) (wrap64 (x7_1 + 1)))) else (some false)))) = some r := H
            have A5 := Aside0.mk A50
            clear A50
            by_cases c6 : t349 = true
            · subst c6
              have H1 : (some false) = some r := by rw [if_pos rfl] at H; exact H
              clear H
              have H := H1
              clear H1
              obtain rfl := Option.some.inj H
              have p348 : 0 ≤ (x7_1 : Int) := of_decide_eq_true (by first | (with_reducible assumption) | assumption)
              have q348 : x7_1 < (l0.length : Int) := of_decide_eq_true (by first | (with_reducible assumption) | assumption)
              obtain ⟨ad348, e348, hx348_0⟩ := Flt.at_kf HR0.out x7_1 p348 q348
              cases e348
              replace p348 := eq_true p348
              replace q348 := eq_true q348
              go_wp2_with (first | ((with_reducible refine gate_callee (f := 20) rfl ?_); refine goesL_ (some 13) rfl rfl Try.func20 (by kernel_rfl) rfl #[.float .f64 (rdOf (0 : Nat) l0 x7_1)] rfl (by (try simp only [List.map_toArray, List.map_cons, List.map_nil]); first | done | rfl | (simp only [List.length_drop, List.length_take]; rfl)) ?_; (with_reducible refine (rank_Missing.calls (rdOf (0 : Nat) l0 x7_1) true _ A5.out).mono ?_); rintro e w' ⟨rfl, ⟨nd, rfl⟩⟩; refine ⟨_, rfl, ?_⟩))
              go_ret
              exact ⟨by first | rfl | (simp; done) | (simp [*]; done), by repeat (first | exact Drawn0.refl _ | apply Drawn0.step)⟩
            · replace c6 := Bool.eq_false_iff.mpr c6
              subst c6
              have H1 : ((rank_Clean.f (rdOf (0 : Nat) l0 x7_1)).bind fun t350 => (if (Flt.ubits (rdOf (0 : Nat) l0 x7_1)) = (Flt.ubits t350) then (if x7_1 > 0 then (if 0 ≤ (wrap64 (x7_1 - 1)) then (if (wrap64 (x7_1 - 1)) < (l0.length : Int) then ((rank_Cmp.f (rdOf (0 : Nat) l0 (wrap64 (x7_1 - 1))) (rdOf (0 : Nat) l0 x7_1)).bind fun t352 => (if t352 ≥ 0 then (some false) else (edges_Right.l0 k1 l0 l0 (l0.length : Int) (wrap64 (x7_1 + 1))))) else (none)) else (none)) else (edges_Right.l0 k1 l0 l0 (l0.length : Int) (wrap64 (x7_1 + 1)))) else (some false))) = some r := by rw [if_neg (show ¬ (false = true) by decide)] at H; exact H
              clear H
              have H := H1
              clear H1
              replace H := Option.bind_eq_some_iff.mp H
              obtain ⟨t350, A70, H⟩ := H
              replace H : (if (Flt.ubits (rdOf (0 : Nat) l0 x7_1)) = (Flt.ubits t350) then (if x7_1 > 0 then (if 0 ≤ (wrap64 (x7_1 - 1)) then (if (wrap64 (x7_1 - 1)) < (l0.length : Int) then ((rank_Cmp.f (rdOf (0 : Nat) l0 (wrap64 (x7_1 - 1))) (rdOf (0 : Nat) l0 x7_1)).bind fun t352 => (if t352 ≥ 0 then (some false) else (edges_Right.l0 k1 l0 l0 (l0.length : Int) (wrap64 (x7_1 + 1))))) else (none)) else (none)) else (edges_Right.l0 k1 l0 l0 (l0.length : Int) (wrap64 (x7_1 + 1)))) else (some false)) = some r := H
              have A7 := Aside0.mk A70
              clear A70
              by_cases c8 : (Flt.ubits (rdOf (0 : Nat) l0 x7_1)) = (Flt.ubits t350)
              · rw [if_pos c8] at H
                have c8b0 : ((Flt.ubits (rdOf (0 : Nat) l0 x7_1)) == (Flt.ubits t350)) = true := beq_iff_eq.mpr c8
                have c8b1 : ((Flt.ubits (rdOf (0 : Nat) l0 x7_1)) != (Flt.ubits t350)) = false := bne_eq_false_iff_eq.mpr c8
                clear c8
                by_cases c9 : x7_1 > 0
                · rw [if_pos c9] at H
                  have c9b0 : decide (0 < x7_1) = true := decide_eq_true c9
                  clear c9
                  obtain ⟨ji10, hji10⟩ : ∃ j_ : Int, (wrap64 (x7_1 - 1)) = j_ := ⟨_, rfl⟩
                  replace H : (if 0 ≤ (ji10) then (if (ji10) < (l0.length : Int) then ((rank_Cmp.f (rdOf (0 : Nat) l0 (ji10)) (rdOf (0 : Nat) l0 x7_1)).bind fun t352 => (if t352 ≥ 0 then (some false) else (edges_Right.l0 k1 l0 l0 (l0.length : Int) (wrap64 (x7_1 + 1))))) else (none)) else (none)) = some r := by first | (rw [hji10] at H; exact H) | (simp only [hji10] at H ⊢; exact H)
                  (try rw [hji10] at A5)
                  (try rw [hji10] at A7)
                  have hji10w : (IntKind.i64.wrap (x7_1 - 1)) = ji10 := (i64_w _).trans hji10
                  by_cases c11 : 0 ≤ (ji10)
                  · rw [if_pos c11] at H
                    have c11b0 : decide (0 ≤ (ji10)) = true := decide_eq_true c11
                    clear c11
                    by_cases c12 : (ji10) < (l0.length : Int)
                    · rw [if_pos c12] at H
                      have c12b0 : decide ((ji10) < (l0.length : Int)) = true := decide_eq_true c12
                      clear c12
                      replace H := Option.bind_eq_some_iff.mp H
                      obtain ⟨t352, A130, H⟩ := H
                      replace H : (if t352 ≥ 0 then (some false) else (edges_Right.l0 k1 l0 l0 (l0.length : Int) (wrap64 (x7_1 + 1)))) = some r := H
                      have A13 := Aside0.mk A130
                      clear A130
                      by_cases c14 : t352 ≥ 0
                      · rw [if_pos c14] at H
                        have c14b0 : decide (0 ≤ t352) = true := decide_eq_true c14
                        clear c14
                        obtain rfl := Option.some.inj H
                        have p348 : 0 ≤ (x7_1 : Int) := of_decide_eq_true (by first | (with_reducible assumption) | assumption)
                        have q348 : x7_1 < (l0.length : Int) := of_decide_eq_true (by first | (with_reducible assumption) | assumption)
                        obtain ⟨ad348, e348, hx348_0⟩ := Flt.at_kf HR0.out x7_1 p348 q348
                        cases e348
                        replace p348 := eq_true p348
                        replace q348 := eq_true q348
                        go_wp2_with (first | ((with_reducible refine gate_callee (f := 20) rfl ?_); refine goesL_ (some 13) rfl rfl Try.func20 (by kernel_rfl) rfl #[.float .f64 (rdOf (0 : Nat) l0 x7_1)] rfl (by (try simp only [List.map_toArray, List.map_cons, List.map_nil]); first | done | rfl | (simp only [List.length_drop, List.length_take]; rfl)) ?_; (with_reducible refine (rank_Missing.calls (rdOf (0 : Nat) l0 x7_1) false _ A5.out).mono ?_); rintro e w' ⟨rfl, ⟨nd, rfl⟩⟩; refine ⟨_, rfl, ?_⟩) | (go_at_call 16; (with_reducible refine (rank_Clean.calls (rdOf (0 : Nat) l0 x7_1) t350 _ A7.out).mono ?_); rintro e w' ⟨rfl, ⟨nd, rfl⟩⟩; have p351 : 0 ≤ ((ji10) : Int) := of_decide_eq_true (by first | (with_reducible assumption) | assumption); have q351 : (ji10) < (l0.length : Int) := of_decide_eq_true (by first | (with_reducible assumption) | assumption); obtain ⟨ad351, e351, hx351_0⟩ := Flt.at_kf HR0.out (ji10) p351 q351; obtain rfl : ad348 = ad351 := (by injection e351); replace p351 := eq_true p351; replace q351 := eq_true q351) | (go_at_call 26; (with_reducible refine (rank_Cmp.calls (rdOf (0 : Nat) l0 (ji10)) (rdOf (0 : Nat) l0 x7_1) t352 _ A13.out).mono ?_); rintro e w' ⟨rfl, ⟨nd, rfl⟩⟩))
                        go_ret
                        exact ⟨by first | rfl | (simp; done) | (simp only [← hji10] <;> (first | rfl | simp)) | (simp [*]; done), by repeat (first | exact Drawn0.refl _ | apply Drawn0.step)⟩
                      · rw [if_neg c14] at H
                        have c14b0 : decide (0 ≤ t352) = false := decide_eq_false c14
                        clear c14
                        have H' := Aside0.mk H
                        clear H
                        have p348 : 0 ≤ (x7_1 : Int) := of_decide_eq_true (by first | (with_reducible assumption) | assumption)
                        have q348 : x7_1 < (l0.length : Int) := of_decide_eq_true (by first | (with_reducible assumption) | assumption)
                        obtain ⟨ad348, e348, hx348_0⟩ := Flt.at_kf HR0.out x7_1 p348 q348
                        cases e348
                        replace p348 := eq_true p348
                        replace q348 := eq_true q348
                        go_wp2_with (first | ((with_reducible refine gate_callee (f := 20) rfl ?_); refine goesL_ (some 13) rfl rfl Try.func20 (by kernel_rfl) rfl #[.float .f64 (rdOf (0 : Nat) l0 x7_1)] rfl (by (try simp only [List.map_toArray, List.map_cons, List.map_nil]); first | done | rfl | (simp only [List.length_drop, List.length_take]; rfl)) ?_; (with_reducible refine (rank_Missing.calls (rdOf (0 : Nat) l0 x7_1) false _ A5.out).mono ?_); rintro e w' ⟨rfl, ⟨nd, rfl⟩⟩; refine ⟨_, rfl, ?_⟩) | (go_at_call 16; (with_reducible refine (rank_Clean.calls (rdOf (0 : Nat) l0 x7_1) t350 _ A7.out).mono ?_); rintro e w' ⟨rfl, ⟨nd, rfl⟩⟩; have p351 : 0 ≤ ((ji10) : Int) := of_decide_eq_true (by first | (with_reducible assumption) | assumption); have q351 : (ji10) < (l0.length : Int) := of_decide_eq_true (by first | (with_reducible assumption) | assumption); obtain ⟨ad351, e351, hx351_0⟩ := Flt.at_kf HR0.out (ji10) p351 q351; obtain rfl : ad348 = ad351 := (by injection e351); replace p351 := eq_true p351; replace q351 := eq_true q351) | (go_at_call 26; (with_reducible refine (rank_Cmp.calls (rdOf (0 : Nat) l0 (ji10)) (rdOf (0 : Nat) l0 x7_1) t352 _ A13.out).mono ?_); rintro e w' ⟨rfl, ⟨nd, rfl⟩⟩))
                        go_roundg k1
                        case measure => have := HK1.out; omega
                        case rel => exact ⟨(wrap64 (x7_1 + 1)), (by first | rfl | (simp; done) | (simp [*]; done)), H', ⟨by have := HK1.out; omega⟩, by repeat (first | exact Drawn0.refl _ | apply Drawn0.step)⟩
                    · rw [if_neg c12] at H
                      exact absurd H (by simp)
                  · rw [if_neg c11] at H
                    exact absurd H (by simp)
                · rw [if_neg c9] at H
                  have c9b0 : decide (0 < x7_1) = false := decide_eq_false c9
                  clear c9
                  have H' := Aside0.mk H
                  clear H
                  have p348 : 0 ≤ (x7_1 : Int) := of_decide_eq_true (by first | (with_reducible assumption) | assumption)
                  have q348 : x7_1 < (l0.length : Int) := of_decide_eq_true (by first | (with_reducible assumption) | assumption)
                  obtain ⟨ad348, e348, hx348_0⟩ := Flt.at_kf HR0.out x7_1 p348 q348
                  cases e348
                  replace p348 := eq_true p348
                  replace q348 := eq_true q348
                  go_wp2_with (first | ((with_reducible refine gate_callee (f := 20) rfl ?_); refine goesL_ (some 13) rfl rfl Try.func20 (by kernel_rfl) rfl #[.float .f64 (rdOf (0 : Nat) l0 x7_1)] rfl (by (try simp only [List.map_toArray, List.map_cons, List.map_nil]); first | done | rfl | (simp only [List.length_drop, List.length_take]; rfl)) ?_; (with_reducible refine (rank_Missing.calls (rdOf (0 : Nat) l0 x7_1) false _ A5.out).mono ?_); rintro e w' ⟨rfl, ⟨nd, rfl⟩⟩; refine ⟨_, rfl, ?_⟩) | (go_at_call 16; (with_reducible refine (rank_Clean.calls (rdOf (0 : Nat) l0 x7_1) t350 _ A7.out).mono ?_); rintro e w' ⟨rfl, ⟨nd, rfl⟩⟩))
                  go_roundg k1
                  case measure => have := HK1.out; omega
                  case rel => exact ⟨(wrap64 (x7_1 + 1)), (by first | rfl | (simp; done) | (simp [*]; done)), H', ⟨by have := HK1.out; omega⟩, by repeat (first | exact Drawn0.refl _ | apply Drawn0.step)⟩
              · rw [if_neg c8] at H
                have c8b0 : ((Flt.ubits (rdOf (0 : Nat) l0 x7_1)) == (Flt.ubits t350)) = false := beq_eq_false_iff_ne.mpr c8
                have c8b1 : ((Flt.ubits (rdOf (0 : Nat) l0 x7_1)) != (Flt.ubits t350)) = true := bne_iff_ne.mpr c8
                obtain rfl := Option.some.inj H
                have p348 : 0 ≤ (x7_1 : Int) := of_decide_eq_true (by first | (with_reducible assumption) | assumption)
                have q348 : x7_1 < (l0.length : Int) := of_decide_eq_true (by first | (with_reducible assumption) | assumption)
                obtain ⟨ad348, e348, hx348_0⟩ := Flt.at_kf HR0.out x7_1 p348 q348
                cases e348
                replace p348 := eq_true p348
                replace q348 := eq_true q348
                go_wp2_with (first | ((with_reducible refine gate_callee (f := 20) rfl ?_); refine goesL_ (some 13) rfl rfl Try.func20 (by kernel_rfl) rfl #[.float .f64 (rdOf (0 : Nat) l0 x7_1)] rfl (by (try simp only [List.map_toArray, List.map_cons, List.map_nil]); first | done | rfl | (simp only [List.length_drop, List.length_take]; rfl)) ?_; (with_reducible refine (rank_Missing.calls (rdOf (0 : Nat) l0 x7_1) false _ A5.out).mono ?_); rintro e w' ⟨rfl, ⟨nd, rfl⟩⟩; refine ⟨_, rfl, ?_⟩) | (go_at_call 16; (with_reducible refine (rank_Clean.calls (rdOf (0 : Nat) l0 x7_1) t350 _ A7.out).mono ?_); rintro e w' ⟨rfl, ⟨nd, rfl⟩⟩))
                go_ret
                exact ⟨by first | rfl | (simp; done) | (simp [*]; done), by repeat (first | exact Drawn0.refl _ | apply Drawn0.step)⟩
          · rw [if_neg c4] at H
            exact absurd H (by simp)
        · rw [if_neg c3] at H
          exact absurd H (by simp)
      · rw [if_neg c2] at H
        have c2b0 : decide (x7_1 < (l0.length : Int)) = false := decide_eq_false c2
        clear c2
        obtain rfl := Option.some.inj H
        go_wp2
        go_ret
        exact ⟨by first | rfl | (simp; done) | (simp [*]; done), by repeat (first | exact Drawn0.refl _ | apply Drawn0.step)⟩

end Go.Proofs.Ytlmmlhljflladaa.PA
