-- Written by a program of this session (wip/hp) out of the translation of seat Ytlmmlhljflladaa.
import Derived.Test.YtlmmlhljflladaaPAx0
namespace Go.Proofs.Ytlmmlhljflladaa.PA
open Go.RowKit Go.Proofs.YtlmmlhljflladaaW.PrintWords Go.Proofs.YtlmmlhljflladaaW.PrintLast Go.Proofs.YtlmmlhljflladaaW.PrintMore
attribute [local go_sem] max2_int min2_int max_two min_two max_three min_three max_four min_four   -- for this text's walks alone
attribute [local go_sem high] Flt.fold_eq Flt.fold_ne Flt.fold_lt Flt.fold_gt Flt.fold_le Flt.fold_ge Flt.run_bits Flt.run_frombits
set_option linter.unusedVariables false
set_option linter.unusedSimpArgs false

-- NOT PRINTED: function 15 (math_Float64frombits)

/-! ### rank_Missing: function 20 -/
def rank_Missing.f (a0 : Nat) : Option (Bool) := some (!(Flt.eq a0 a0))
set_option maxHeartbeats 8000000 in
set_option maxRecDepth 100000 in
theorem rank_Missing.calls (a0 : Nat) (r : Bool) (w : World) (h : rank_Missing.f a0 = some r) :
    Calls Try.prog 20 #[.float .f64 a0] w fun e w' => e = .returned (.bool r) ∧ Drawn0 w w' := by
  have H : (some (!(Flt.eq a0 a0))) = some r := h
  clear h
  obtain rfl := Option.some.inj H
  go_enter Try.func20, Try.ntmps20
  go_wp2
  go_ret
  exact ⟨by first | rfl | (simp; done) | (simp [*]; done), by repeat (first | exact Drawn0.refl _ | apply Drawn0.step)⟩

/-! ### rank_Clean: function 16 -/
def rank_Clean.f (a0 : Nat) : Option (Nat) := (rank_Missing.f a0).bind fun t101 => (if t101 = true then (some (Flt.fbits 9221120237041090561)) else (if (Flt.eq a0 0) = true then (some 0) else (some a0)))
set_option maxHeartbeats 8000000 in
set_option maxRecDepth 100000 in
theorem rank_Clean.calls (a0 : Nat) (r : Nat) (w : World) (h : rank_Clean.f a0 = some r) :
    Calls Try.prog 16 #[.float .f64 a0] w fun e w' => e = .returned (.float .f64 r) ∧ Drawn0 w w' := by
  have H : ((rank_Missing.f a0).bind fun t101 => (if t101 = true then (some (Flt.fbits 9221120237041090561)) else (if (Flt.eq a0 0) = true then (some 0) else (some a0)))) = some r := h
  clear h
  replace H := Option.bind_eq_some_iff.mp H
  obtain ⟨t101, A20, H⟩ := H
  replace H : (if t101 = true then (some (Flt.fbits 9221120237041090561)) else (if (Flt.eq a0 0) = true then (some 0) else (some a0))) = some r := H
  have A2 := Aside0.mk A20
  clear A20
  by_cases c3 : t101 = true
  · subst c3
    have H1 : (some (Flt.fbits 9221120237041090561)) = some r := by rw [if_pos rfl] at H; exact H
    clear H
    have H := H1
    clear H1
    obtain rfl := Option.some.inj H
    go_enter Try.func16, Try.ntmps16
    go_wp2_with (first | ((with_reducible refine gate_callee (f := 20) rfl ?_); refine goesL_ (some 5) rfl rfl Try.func20 (by kernel_rfl) rfl #[.float .f64 a0] rfl (by (try simp only [List.map_toArray, List.map_cons, List.map_nil]); first | done | rfl | (simp only [List.length_drop, List.length_take]; rfl)) ?_; (with_reducible refine (rank_Missing.calls a0 true _ A2.out).mono ?_); rintro e w' ⟨rfl, ⟨nd, rfl⟩⟩; refine ⟨_, rfl, ?_⟩))
    go_ret
    exact ⟨by first | rfl | (simp; done) | (simp [*]; done), by repeat (first | exact Drawn0.refl _ | apply Drawn0.step)⟩
  · replace c3 := Bool.eq_false_iff.mpr c3
    subst c3
    have H1 : (if (Flt.eq a0 0) = true then (some 0) else (some a0)) = some r := by rw [if_neg (show ¬ (false = true) by decide)] at H; exact H
    clear H
    have H := H1
    clear H1
    by_cases c4 : (Flt.eq a0 0) = true
    · rw [if_pos c4] at H
      have c4b0 : (Flt.eq a0 0) = true := c4
      clear c4
      obtain rfl := Option.some.inj H
      go_enter Try.func16, Try.ntmps16
      go_wp2_with (first | ((with_reducible refine gate_callee (f := 20) rfl ?_); refine goesL_ (some 5) rfl rfl Try.func20 (by kernel_rfl) rfl #[.float .f64 a0] rfl (by (try simp only [List.map_toArray, List.map_cons, List.map_nil]); first | done | rfl | (simp only [List.length_drop, List.length_take]; rfl)) ?_; (with_reducible refine (rank_Missing.calls a0 false _ A2.out).mono ?_); rintro e w' ⟨rfl, ⟨nd, rfl⟩⟩; refine ⟨_, rfl, ?_⟩))
      go_ret
      exact ⟨by first | rfl | (simp; done) | (simp [*]; done), by repeat (first | exact Drawn0.refl _ | apply Drawn0.step)⟩
    · rw [if_neg c4] at H
      have c4b0 : (Flt.eq a0 0) = false := by simpa using c4
      clear c4
      obtain rfl := Option.some.inj H
      go_enter Try.func16, Try.ntmps16
      go_wp2_with (first | ((with_reducible refine gate_callee (f := 20) rfl ?_); refine goesL_ (some 5) rfl rfl Try.func20 (by kernel_rfl) rfl #[.float .f64 a0] rfl (by (try simp only [List.map_toArray, List.map_cons, List.map_nil]); first | done | rfl | (simp only [List.length_drop, List.length_take]; rfl)) ?_; (with_reducible refine (rank_Missing.calls a0 false _ A2.out).mono ?_); rintro e w' ⟨rfl, ⟨nd, rfl⟩⟩; refine ⟨_, rfl, ?_⟩))
      go_ret
      exact ⟨by first | rfl | (simp; done) | (simp [*]; done), by repeat (first | exact Drawn0.refl _ | apply Drawn0.step)⟩

-- NOT PRINTED: function 23 (math_Float64bits)

/-! ### rank_Key: function 18 -/
def rank_Key.f (a0 : Nat) : Option (Int) := (rank_Missing.f a0).bind fun t102 => (if t102 = true then (some 0) else ((rank_Clean.f a0).bind fun t103 => (if (Go.bits .and .u64 (Flt.ubits t103) 9223372036854775808) = 0 then (some (Go.bits .or .u64 (Flt.ubits t103) 9223372036854775808)) else (some (Go.bits .xor .u64 18446744073709551615 (Flt.ubits t103))))))
set_option maxHeartbeats 8000000 in
set_option maxRecDepth 100000 in
theorem rank_Key.calls (a0 : Nat) (r : Int) (w : World) (h : rank_Key.f a0 = some r) :
    Calls Try.prog 18 #[.float .f64 a0] w fun e w' => e = .returned (.int .u64 r) ∧ Drawn0 w w' := by
  have H : ((rank_Missing.f a0).bind fun t102 => (if t102 = true then (some 0) else ((rank_Clean.f a0).bind fun t103 => (if (Go.bits .and .u64 (Flt.ubits t103) 9223372036854775808) = 0 then (some (Go.bits .or .u64 (Flt.ubits t103) 9223372036854775808)) else (some (Go.bits .xor .u64 18446744073709551615 (Flt.ubits t103))))))) = some r := h
  clear h
  replace H := Option.bind_eq_some_iff.mp H
  obtain ⟨t102, A20, H⟩ := H
  replace H : (if t102 = true then (some 0) else ((rank_Clean.f a0).bind fun t103 => (if (Go.bits .and .u64 (Flt.ubits t103) 9223372036854775808) = 0 then (some (Go.bits .or .u64 (Flt.ubits t103) 9223372036854775808)) else (some (Go.bits .xor .u64 18446744073709551615 (Flt.ubits t103)))))) = some r := H
  have A2 := Aside0.mk A20
  clear A20
  by_cases c3 : t102 = true
  · subst c3
    have H1 : (some 0) = some r := by rw [if_pos rfl] at H; exact H
    clear H
    have H := H1
    clear H1
    obtain rfl := Option.some.inj H
    go_enter Try.func18, Try.ntmps18
    go_wp2_with (first | ((with_reducible refine gate_callee (f := 20) rfl ?_); refine goesL_ (some 5) rfl rfl Try.func20 (by kernel_rfl) rfl #[.float .f64 a0] rfl (by (try simp only [List.map_toArray, List.map_cons, List.map_nil]); first | done | rfl | (simp only [List.length_drop, List.length_take]; rfl)) ?_; (with_reducible refine (rank_Missing.calls a0 true _ A2.out).mono ?_); rintro e w' ⟨rfl, ⟨nd, rfl⟩⟩; refine ⟨_, rfl, ?_⟩))
    go_ret
    exact ⟨by first | rfl | (simp; done) | (simp [*]; done), by repeat (first | exact Drawn0.refl _ | apply Drawn0.step)⟩
  · replace c3 := Bool.eq_false_iff.mpr c3
    subst c3
    have H1 : ((rank_Clean.f a0).bind fun t103 => (if (Go.bits .and .u64 (Flt.ubits t103) 9223372036854775808) = 0 then (some (Go.bits .or .u64 (Flt.ubits t103) 9223372036854775808)) else (some (Go.bits .xor .u64 18446744073709551615 (Flt.ubits t103))))) = some r := by rw [if_neg (show ¬ (false = true) by decide)] at H; exact H
    clear H
    have H := H1
    clear H1
    replace H := Option.bind_eq_some_iff.mp H
    obtain ⟨t103, A40, H⟩ := H
    replace H : (if (Go.bits .and .u64 (Flt.ubits t103) 9223372036854775808) = 0 then (some (Go.bits .or .u64 (Flt.ubits t103) 9223372036854775808)) else (some (Go.bits .xor .u64 18446744073709551615 (Flt.ubits t103)))) = some r := H
    have A4 := Aside0.mk A40
    clear A40
    by_cases c5 : (Go.bits .and .u64 (Flt.ubits t103) 9223372036854775808) = 0
    · rw [if_pos c5] at H
      have c5b0 : ((Go.bits .and .u64 (Flt.ubits t103) 9223372036854775808) == 0) = true := beq_iff_eq.mpr c5
      have c5b1 : ((Go.bits .and .u64 (Flt.ubits t103) 9223372036854775808) != 0) = false := bne_eq_false_iff_eq.mpr c5
      clear c5
      obtain rfl := Option.some.inj H
      go_enter Try.func18, Try.ntmps18
      go_wp2_with (first | ((with_reducible refine gate_callee (f := 20) rfl ?_); refine goesL_ (some 5) rfl rfl Try.func20 (by kernel_rfl) rfl #[.float .f64 a0] rfl (by (try simp only [List.map_toArray, List.map_cons, List.map_nil]); first | done | rfl | (simp only [List.length_drop, List.length_take]; rfl)) ?_; (with_reducible refine (rank_Missing.calls a0 false _ A2.out).mono ?_); rintro e w' ⟨rfl, ⟨nd, rfl⟩⟩; refine ⟨_, rfl, ?_⟩) | ((with_reducible refine gate_callee (f := 16) rfl ?_); refine goesL_ (some 7) rfl rfl Try.func16 (by kernel_rfl) rfl #[.float .f64 a0] rfl (by (try simp only [List.map_toArray, List.map_cons, List.map_nil]); first | done | rfl | (simp only [List.length_drop, List.length_take]; rfl)) ?_; (with_reducible refine (rank_Clean.calls a0 t103 _ A4.out).mono ?_); rintro e w' ⟨rfl, ⟨nd, rfl⟩⟩; refine ⟨_, rfl, ?_⟩))
      go_ret
      exact ⟨by first | rfl | (simp; done) | (simp [*]; done), by repeat (first | exact Drawn0.refl _ | apply Drawn0.step)⟩
    · rw [if_neg c5] at H
      have c5b0 : ((Go.bits .and .u64 (Flt.ubits t103) 9223372036854775808) == 0) = false := beq_eq_false_iff_ne.mpr c5
      have c5b1 : ((Go.bits .and .u64 (Flt.ubits t103) 9223372036854775808) != 0) = true := bne_iff_ne.mpr c5
      obtain rfl := Option.some.inj H
      go_enter Try.func18, Try.ntmps18
      go_wp2_with (first | ((with_reducible refine gate_callee (f := 20) rfl ?_); refine goesL_ (some 5) rfl rfl Try.func20 (by kernel_rfl) rfl #[.float .f64 a0] rfl (by (try simp only [List.map_toArray, List.map_cons, List.map_nil]); first | done | rfl | (simp only [List.length_drop, List.length_take]; rfl)) ?_; (with_reducible refine (rank_Missing.calls a0 false _ A2.out).mono ?_); rintro e w' ⟨rfl, ⟨nd, rfl⟩⟩; refine ⟨_, rfl, ?_⟩) | ((with_reducible refine gate_callee (f := 16) rfl ?_); refine goesL_ (some 7) rfl rfl Try.func16 (by kernel_rfl) rfl #[.float .f64 a0] rfl (by (try simp only [List.map_toArray, List.map_cons, List.map_nil]); first | done | rfl | (simp only [List.length_drop, List.length_take]; rfl)) ?_; (with_reducible refine (rank_Clean.calls a0 t103 _ A4.out).mono ?_); rintro e w' ⟨rfl, ⟨nd, rfl⟩⟩; refine ⟨_, rfl, ?_⟩))
      go_ret
      exact ⟨by first | rfl | (simp; done) | (simp [*]; done), by repeat (first | exact Drawn0.refl _ | apply Drawn0.step)⟩

/-! ### math_NaN: function 44 -/
def math_NaN.f  : Option (Nat) := some (Flt.fbits 9221120237041090561)
set_option maxHeartbeats 8000000 in
set_option maxRecDepth 100000 in
theorem math_NaN.calls  (r : Nat) (w : World) (h : math_NaN.f  = some r) :
    Calls Try.prog 44 #[] w fun e w' => e = .returned (.float .f64 r) ∧ Drawn0 w w' := by
  have H : (some (Flt.fbits 9221120237041090561)) = some r := h
  clear h
  obtain rfl := Option.some.inj H
  go_enter Try.func44, Try.ntmps44
  go_wp2
  go_ret
  exact ⟨by first | rfl | (simp; done) | (simp [*]; done), by repeat (first | exact Drawn0.refl _ | apply Drawn0.step)⟩

/-! ### rank_Of: function 17 -/
def rank_Of.j0 : Nat → Int → Int → Option (Nat × Bool)
  | 0, _, _ => none
  | k + 1, x0, x4 => (rank_Key.f (Flt.fbits x4)).bind fun t106 => (if t106 = x0 then (some (Flt.fbits x4, true)) else (some (0, false)))
def rank_Of.f (k : Nat) (a0 : Int) : Option (Nat × Bool) := if a0 = 0 then ((math_NaN.f).bind fun t104 => ((rank_Clean.f t104).bind fun t105 => (some (t105, true)))) else (if (Go.bits .and .u64 a0 9223372036854775808) = 0 then (rank_Of.j0 k a0 (Go.bits .xor .u64 18446744073709551615 a0)) else (rank_Of.j0 k a0 (Go.bits .andNot .u64 a0 9223372036854775808)))
theorem rank_Of.mono_l : ∀ k, (∀ y0 y1, LeO (rank_Of.j0 k y0 y1) (rank_Of.j0 (k + 1) y0 y1))
  | 0 => fun _ _ r h => by simp [rank_Of.j0] at h
  | k + 1 => by
    have ih0 := rank_Of.mono_l k
    · intro y0 y1
      unfold rank_Of.j0
      repeat' first
      | (with_reducible exact ih0 _ _)
      | (with_reducible exact LeO.refl _)
      | (with_reducible exact LeO.none _)
      | (with_reducible refine LeO.ite ?_ ?_)
      | (with_reducible refine LeO.bind ?_ (fun _ => ?_))
      | exact ih0 _ _
      | exact LeO.none _
      | refine LeO.ite ?_ ?_
      | refine LeO.bind ?_ (fun _ => ?_)
theorem rank_Of.mono : ∀ a0 k, LeO (rank_Of.f k a0) (rank_Of.f (k + 1) a0) := by
  intro a0 k
  have ih0 := rank_Of.mono_l k
  unfold rank_Of.f
  repeat' first
      | (with_reducible exact ih0 _ _)
      | (with_reducible exact LeO.refl _)
      | (with_reducible exact LeO.none _)
      | (with_reducible refine LeO.ite ?_ ?_)
      | (with_reducible refine LeO.bind ?_ (fun _ => ?_))
      | exact ih0 _ _
      | exact LeO.none _
      | refine LeO.ite ?_ ?_
      | refine LeO.bind ?_ (fun _ => ?_)
set_option maxHeartbeats 8000000 in
set_option maxRecDepth 100000 in
theorem rank_Of.calls (k : Nat) (a0 : Int) (r1 : Nat) (r2 : Bool) (w : World) (h : rank_Of.f k a0 = some (r1, r2)) :
    Calls Try.prog 17 #[.int .u64 a0] w fun e w' => e = .returned (.tuple #[.float .f64 r1, .bool r2]) ∧ Drawn0 w w' := by
  have H : (if a0 = 0 then ((math_NaN.f).bind fun t104 => ((rank_Clean.f t104).bind fun t105 => (some (t105, true)))) else (if (Go.bits .and .u64 a0 9223372036854775808) = 0 then (rank_Of.j0 k a0 (Go.bits .xor .u64 18446744073709551615 a0)) else (rank_Of.j0 k a0 (Go.bits .andNot .u64 a0 9223372036854775808)))) = some (r1, r2) := h
  clear h
  by_cases c2 : a0 = 0
  · rw [if_pos c2] at H
    have c2b0 : (a0 == 0) = true := beq_iff_eq.mpr c2
    have c2b1 : (a0 != 0) = false := bne_eq_false_iff_eq.mpr c2
    clear c2
    replace H := Option.bind_eq_some_iff.mp H
    obtain ⟨t104, A30, H⟩ := H
    replace H : ((rank_Clean.f t104).bind fun t105 => (some (t105, true))) = some (r1, r2) := H
    have A3 := Aside0.mk A30
    clear A30
    replace H := Option.bind_eq_some_iff.mp H
    obtain ⟨t105, A40, H⟩ := H
    replace H : (some (t105, true)) = some (r1, r2) := H
    have A4 := Aside0.mk A40
    clear A40
    simp only [Option.some.injEq, Prod.mk.injEq] at H
    obtain ⟨rfl, rfl⟩ := H
    go_enter Try.func17, Try.ntmps17
    go_wp2_with (first | ((with_reducible refine gate_callee (f := 44) rfl ?_); refine goesL_ (some 8) rfl rfl Try.func44 (by kernel_rfl) rfl #[] rfl (by (try simp only [List.map_toArray, List.map_cons, List.map_nil]); first | done | rfl | (simp only [List.length_drop, List.length_take]; rfl)) ?_; (with_reducible refine (math_NaN.calls  t104 _ A3.out).mono ?_); rintro e w' ⟨rfl, ⟨nd, rfl⟩⟩; refine ⟨_, rfl, ?_⟩) | ((with_reducible refine gate_callee (f := 16) rfl ?_); refine goesL_ (some 9) rfl rfl Try.func16 (by kernel_rfl) rfl #[.float .f64 t104] rfl (by (try simp only [List.map_toArray, List.map_cons, List.map_nil]); first | done | rfl | (simp only [List.length_drop, List.length_take]; rfl)) ?_; (with_reducible refine (rank_Clean.calls t104 t105 _ A4.out).mono ?_); rintro e w' ⟨rfl, ⟨nd, rfl⟩⟩; refine ⟨_, rfl, ?_⟩))
    go_ret2
    exact ⟨by first | rfl | (simp; done) | (simp [*]; done), by repeat (first | exact Drawn0.refl _ | apply Drawn0.step)⟩
  · rw [if_neg c2] at H
    have c2b0 : (a0 == 0) = false := beq_eq_false_iff_ne.mpr c2
    have c2b1 : (a0 != 0) = true := bne_iff_ne.mpr c2
    have HC5 := Aside0.mk H
    clear H
    go_enter Try.func17, Try.ntmps17
    go_upto_if 14 with (fail)
    go_cut [4] (fun v4 wc => ∃ (kq : Nat) (x4_4 : Int), v4 = .int .u64 x4_4 ∧ Aside0 (rank_Of.j0 kq a0 x4_4 = some (r1, r2)) ∧ Aside0 (kq ≤ k) ∧ Drawn0 w wc)
    case first =>
      have H := HC5.out
      clear HC5
      by_cases c6 : (Go.bits .and .u64 a0 9223372036854775808) = 0
      · rw [if_pos c6] at H
        have c6b0 : ((Go.bits .and .u64 a0 9223372036854775808) == 0) = true := beq_iff_eq.mpr c6
        have c6b1 : ((Go.bits .and .u64 a0 9223372036854775808) != 0) = false := bne_eq_false_iff_eq.mpr c6
        clear c6
        (first | rw [c6b0] | (simp only [i64_w, i32_w]; rw [c6b0]) | skip)
        have H' := Aside0.mk H
        clear H
        go_wp2
        go_meet
        case rel => exact ⟨_, (Go.bits .xor .u64 18446744073709551615 a0), (by first | rfl | (simp; done) | (simp [*]; done)), H', ⟨by first | omega | exact Nat.le_refl _⟩, by repeat (first | exact Drawn0.refl _ | apply Drawn0.step)⟩
      · rw [if_neg c6] at H
        have c6b0 : ((Go.bits .and .u64 a0 9223372036854775808) == 0) = false := beq_eq_false_iff_ne.mpr c6
        have c6b1 : ((Go.bits .and .u64 a0 9223372036854775808) != 0) = true := bne_iff_ne.mpr c6
        (first | rw [c6b0] | (simp only [i64_w, i32_w]; rw [c6b0]) | skip)
        have H' := Aside0.mk H
        clear H
        go_wp2
        go_meet
        case rel => exact ⟨_, (Go.bits .andNot .u64 a0 9223372036854775808), (by first | rfl | (simp; done) | (simp [*]; done)), H', ⟨by first | omega | exact Nat.le_refl _⟩, by repeat (first | exact Drawn0.refl _ | apply Drawn0.step)⟩
    case rest =>
      clear HC5
      try clear c1
      try clear c2
      try clear c2b0
      try clear c2b1
      try clear p2
      try clear c4
      try clear c6
      try clear c6b0
      try clear c6b1
      obtain ⟨kq, x4_4, rfl, HA, HJ4, ⟨mc4, rfl⟩⟩ := hcut
      cases kq with
      | zero => exact absurd HA.out (by simp [rank_Of.j0])
      | succ kj4 =>
        have H := HA.out
        clear HA
        simp only [rank_Of.j0] at H
        replace H := Option.bind_eq_some_iff.mp H
        obtain ⟨t106, A70, H⟩ := H
        replace H : (if t106 = a0 then (some (Flt.fbits x4_4, true)) else (some (0, false))) = some (r1, r2) := H
        have A7 := Aside0.mk A70
        clear A70
        by_cases c8 : t106 = a0
        · rw [if_pos c8] at H
          have c8b0 : (t106 == a0) = true := beq_iff_eq.mpr c8
          have c8b1 : (t106 != a0) = false := bne_eq_false_iff_eq.mpr c8
          clear c8
          simp only [Option.some.injEq, Prod.mk.injEq] at H
          obtain ⟨rfl, rfl⟩ := H
          go_wp2_with (first | ((with_reducible refine gate_callee (f := 18) rfl ?_); refine goesL_ (some 20) rfl rfl Try.func18 (by kernel_rfl) rfl #[.float .f64 (Flt.fbits x4_4)] rfl (by (try simp only [List.map_toArray, List.map_cons, List.map_nil]); first | done | rfl | (simp only [List.length_drop, List.length_take]; rfl)) ?_; (with_reducible refine (rank_Key.calls (Flt.fbits x4_4) t106 _ A7.out).mono ?_); rintro e w' ⟨rfl, ⟨nd, rfl⟩⟩; refine ⟨_, rfl, ?_⟩))
          go_ret2
          exact ⟨by first | rfl | (simp; done) | (simp [*]; done), by repeat (first | exact Drawn0.refl _ | apply Drawn0.step)⟩
        · rw [if_neg c8] at H
          have c8b0 : (t106 == a0) = false := beq_eq_false_iff_ne.mpr c8
          have c8b1 : (t106 != a0) = true := bne_iff_ne.mpr c8
          simp only [Option.some.injEq, Prod.mk.injEq] at H
          obtain ⟨rfl, rfl⟩ := H
          go_wp2_with (first | ((with_reducible refine gate_callee (f := 18) rfl ?_); refine goesL_ (some 20) rfl rfl Try.func18 (by kernel_rfl) rfl #[.float .f64 (Flt.fbits x4_4)] rfl (by (try simp only [List.map_toArray, List.map_cons, List.map_nil]); first | done | rfl | (simp only [List.length_drop, List.length_take]; rfl)) ?_; (with_reducible refine (rank_Key.calls (Flt.fbits x4_4) t106 _ A7.out).mono ?_); rintro e w' ⟨rfl, ⟨nd, rfl⟩⟩; refine ⟨_, rfl, ?_⟩))
          go_ret2
          exact ⟨by first | rfl | (simp; done) | (simp [*]; done), by repeat (first | exact Drawn0.refl _ | apply Drawn0.step)⟩

/-! ### math_Inf: function 45 -/
def math_Inf.f (a0 : Int) : Option (Nat) := if a0 ≥ 0 then (some (Flt.fbits 9218868437227405312)) else (some (Flt.fbits 18442240474082181120))
set_option maxHeartbeats 8000000 in
set_option maxRecDepth 100000 in
theorem math_Inf.calls (a0 : Int) (r : Nat) (w : World) (h : math_Inf.f a0 = some r) :
    Calls Try.prog 45 #[.int .i64 a0] w fun e w' => e = .returned (.float .f64 r) ∧ Drawn0 w w' := by
  have H : (if a0 ≥ 0 then (some (Flt.fbits 9218868437227405312)) else (some (Flt.fbits 18442240474082181120))) = some r := h
  clear h
  by_cases c2 : a0 ≥ 0
  · rw [if_pos c2] at H
    have c2b0 : decide (0 ≤ a0) = true := decide_eq_true c2
    clear c2
    obtain rfl := Option.some.inj H
    go_enter Try.func45, Try.ntmps45
    go_wp2
    go_ret
    exact ⟨by first | rfl | (simp; done) | (simp [*]; done), by repeat (first | exact Drawn0.refl _ | apply Drawn0.step)⟩
  · rw [if_neg c2] at H
    have c2b0 : decide (0 ≤ a0) = false := decide_eq_false c2
    clear c2
    obtain rfl := Option.some.inj H
    go_enter Try.func45, Try.ntmps45
    go_wp2
    go_ret
    exact ⟨by first | rfl | (simp; done) | (simp [*]; done), by repeat (first | exact Drawn0.refl _ | apply Drawn0.step)⟩

/-! ### math_Copysign: function 46 -/
def math_Copysign.f (a0 : Nat) (a1 : Nat) : Option (Nat) := some (Flt.fbits (Go.bits .or .u64 (Go.bits .andNot .u64 (Flt.ubits a0) 9223372036854775808) (Go.bits .and .u64 (Flt.ubits a1) 9223372036854775808)))
set_option maxHeartbeats 8000000 in
set_option maxRecDepth 100000 in
theorem math_Copysign.calls (a0 : Nat) (a1 : Nat) (r : Nat) (w : World) (h : math_Copysign.f a0 a1 = some r) :
    Calls Try.prog 46 #[.float .f64 a0, .float .f64 a1] w fun e w' => e = .returned (.float .f64 r) ∧ Drawn0 w w' := by
  have H : (some (Flt.fbits (Go.bits .or .u64 (Go.bits .andNot .u64 (Flt.ubits a0) 9223372036854775808) (Go.bits .and .u64 (Flt.ubits a1) 9223372036854775808)))) = some r := h
  clear h
  obtain rfl := Option.some.inj H
  go_enter Try.func46, Try.ntmps46
  go_wp2
  go_ret
  exact ⟨by first | rfl | (simp; done) | (simp [*]; done), by repeat (first | exact Drawn0.refl _ | apply Drawn0.step)⟩

end Go.Proofs.Ytlmmlhljflladaa.PA
