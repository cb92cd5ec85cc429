-- Written by a program of this session (wip/hp) out of the translation of seat Ytlmmlhljflladaa.
import Derived.Test.YtlmmlhljflladaaPAx0
import Derived.Test.YtlmmlhljflladaaPAx2
import Derived.Test.YtlmmlhljflladaaPAx5
import Derived.Test.YtlmmlhljflladaaPAx7
import Derived.Test.YtlmmlhljflladaaPAx12
import Derived.Test.YtlmmlhljflladaaPAx13
namespace Go.Proofs.Ytlmmlhljflladaa.PA
open Go.RowKit Go.Proofs.YtlmmlhljflladaaW.PrintWords Go.Proofs.YtlmmlhljflladaaW.PrintLast Go.Proofs.YtlmmlhljflladaaW.PrintMore
attribute [local go_sem] max2_int min2_int max_two min_two max_three min_three max_four min_four   -- for this text's walks alone
attribute [local go_sem high] Flt.fold_eq Flt.fold_ne Flt.fold_lt Flt.fold_gt Flt.fold_le Flt.fold_ge Flt.run_bits Flt.run_frombits
set_option linter.unusedVariables false
set_option linter.unusedSimpArgs false

/-! ### hornbeamlaw10_EdgesEven: function 9 -/
mutual
def hornbeamlaw10_EdgesEven.j0 : Nat → List Int → Int → Bool → Option (Bool)
  | 0, _, _, _ => none
  | k + 1, x0, x1, x24 => if x24 = true then ((hornbeamlaw10_fixed.f k).bind fun t289 => (some t289)) else ((hornbeamref06_Of.f k x0).bind fun t290 => (hornbeamlaw10_EdgesEven.l0 k x1 t290 t290 (t290.length : Int) 0))
def hornbeamlaw10_EdgesEven.l0 : Nat → Int → List Nat → List Nat → Int → Int → Option (Bool)
  | 0, _, _, _, _, _ => none
  | k + 1, x1, x5, x28, x29, x30 => if x30 < x29 then (if 0 ≤ x30 then (if x30 < (x28.length : Int) then (hornbeamlaw10_EdgesEven.l1 k x1 x5 x30 (rdOf (0 : Nat) x28 x30) x28 x29 x30 x5 (x5.length : Int) 0) else (none)) else (none)) else ((edges_Of.f x5 (wrap64 (x1))).bind fun t299 => (if 0 ≤ (wrap64 ((t299.length : Int) + 2)) then (if (wrap64 ((t299.length : Int) + 2) : Int).toNat ≤ 35184372088832 then (hornbeamlaw10_EdgesEven.l2 k x1 x5 t299 (List.replicate (wrap64 ((t299.length : Int) + 2) : Int).toNat 0) x5 (x5.length : Int) 0) else (none)) else (none)))
def hornbeamlaw10_EdgesEven.l1 : Nat → Int → List Nat → Int → Nat → List Nat → Int → Int → List Nat → Int → Int → Option (Bool)
  | 0, _, _, _, _, _, _, _, _, _, _ => none
  | k + 1, x1, x5, x6, x7, x28, x29, x30, x35, x36, x37 => if x37 < x36 then (if 0 ≤ x37 then (if x37 < (x35.length : Int) then ((hornbeamref06_Missing.f x7).bind fun t295 => (if t295 = true then ((hornbeamlaw10_fixed.f k).bind fun t296 => (some t296)) else (if x6 = x37 then (hornbeamlaw10_EdgesEven.l1 k x1 x5 x6 x7 x28 x29 x30 x35 x36 (wrap64 (x37 + 1))) else ((hornbeamref06_Cmp.f k x7 (rdOf (0 : Nat) x35 x37)).bind fun t297 => (if t297 = 0 then ((hornbeamlaw10_fixed.f k).bind fun t298 => (some t298)) else (hornbeamlaw10_EdgesEven.l1 k x1 x5 x6 x7 x28 x29 x30 x35 x36 (wrap64 (x37 + 1)))))))) else (none)) else (none)) else (hornbeamlaw10_EdgesEven.l0 k x1 x5 x28 x29 (wrap64 (x30 + 1)))
def hornbeamlaw10_EdgesEven.l2 : Nat → Int → List Nat → List Nat → List Int → List Nat → Int → Int → Option (Bool)
  | 0, _, _, _, _, _, _, _ => none
  | k + 1, x1, x5, x10, x11, x66, x67, x68 => if x68 < x67 then (if 0 ≤ x68 then (if x68 < (x66.length : Int) then ((edges_Bin.f k x10 (rdOf (0 : Nat) x66 x68)).bind fun t306 => (if t306 < 1 then (some false) else (if t306 ≥ (x11.length : Int) then (some false) else (if 0 ≤ t306 then (if t306 < (x11.length : Int) then (hornbeamlaw10_EdgesEven.l2 k x1 x5 x10 (x11.set (t306 : Int).toNat (wrap64 ((rd x11 t306) + 1))) x66 x67 (wrap64 (x68 + 1))) else (none)) else (none))))) else (none)) else (none)) else (if (wrap64 (x1)) = 0 then (none) else (hornbeamlaw10_EdgesEven.l3 k (wrap64 (Int.tdiv (wrap64 ((wrap64 ((x5.length : Int) + (wrap64 (x1)))) - 1)) (wrap64 (x1)))) x11 (x11.length : Int) 0))
def hornbeamlaw10_EdgesEven.l3 : Nat → Int → List Int → Int → Int → Option (Bool)
  | 0, _, _, _, _ => none
  | k + 1, x15, x99, x100, x101 => if x101 < x100 then (if 0 ≤ x101 then (if x101 < (x99.length : Int) then (if (rd x99 x101) > x15 then (some false) else (hornbeamlaw10_EdgesEven.l3 k x15 x99 x100 (wrap64 (x101 + 1)))) else (none)) else (none)) else ((hornbeamlaw10_fixed.f k).bind fun t310 => (some t310))
end
def hornbeamlaw10_EdgesEven.f (k : Nat) (l0 : List Int) (a1 : Int) : Option (Bool) := if (l0.length : Int) > 200 then (hornbeamlaw10_EdgesEven.j0 k l0 a1 true) else (hornbeamlaw10_EdgesEven.j0 k l0 a1 (decide (a1 < 2)))
theorem hornbeamlaw10_EdgesEven.mono_l : ∀ k, (∀ y0 y1 y2, LeO (hornbeamlaw10_EdgesEven.j0 k y0 y1 y2) (hornbeamlaw10_EdgesEven.j0 (k + 1) y0 y1 y2)) ∧ (∀ y0 y1 y2 y3 y4, LeO (hornbeamlaw10_EdgesEven.l0 k y0 y1 y2 y3 y4) (hornbeamlaw10_EdgesEven.l0 (k + 1) y0 y1 y2 y3 y4)) ∧ (∀ y0 y1 y2 y3 y4 y5 y6 y7 y8 y9, LeO (hornbeamlaw10_EdgesEven.l1 k y0 y1 y2 y3 y4 y5 y6 y7 y8 y9) (hornbeamlaw10_EdgesEven.l1 (k + 1) y0 y1 y2 y3 y4 y5 y6 y7 y8 y9)) ∧ (∀ y0 y1 y2 y3 y4 y5 y6, LeO (hornbeamlaw10_EdgesEven.l2 k y0 y1 y2 y3 y4 y5 y6) (hornbeamlaw10_EdgesEven.l2 (k + 1) y0 y1 y2 y3 y4 y5 y6)) ∧ (∀ y0 y1 y2 y3, LeO (hornbeamlaw10_EdgesEven.l3 k y0 y1 y2 y3) (hornbeamlaw10_EdgesEven.l3 (k + 1) y0 y1 y2 y3))
  | 0 => ⟨fun _ _ _ r h => by simp [hornbeamlaw10_EdgesEven.j0] at h, fun _ _ _ _ _ r h => by simp [hornbeamlaw10_EdgesEven.l0] at h, fun _ _ _ _ _ _ _ _ _ _ r h => by simp [hornbeamlaw10_EdgesEven.l1] at h, fun _ _ _ _ _ _ _ r h => by simp [hornbeamlaw10_EdgesEven.l2] at h, fun _ _ _ _ r h => by simp [hornbeamlaw10_EdgesEven.l3] at h⟩
  | k + 1 => by
    obtain ⟨ih0, ih1, ih2, ih3, ih4⟩ := hornbeamlaw10_EdgesEven.mono_l k
    refine ⟨?_, ?_, ?_, ?_, ?_⟩
    · intro y0 y1 y2
      unfold hornbeamlaw10_EdgesEven.j0
      repeat' first
      | (with_reducible exact ih0 _ _ _)
      | (with_reducible exact ih1 _ _ _ _ _)
      | (with_reducible exact ih2 _ _ _ _ _ _ _ _ _ _)
      | (with_reducible exact ih3 _ _ _ _ _ _ _)
      | (with_reducible exact ih4 _ _ _ _)
      | (with_reducible exact edges_Bin.mono _ _ _)
      | (with_reducible exact hornbeamlaw10_fixed.mono _)
      | (with_reducible exact hornbeamref06_Cmp.mono _ _ _)
      | (with_reducible exact hornbeamref06_Of.mono _ _)
      | (with_reducible exact LeO.refl _)
      | (with_reducible exact LeO.none _)
      | (with_reducible refine LeO.ite ?_ ?_)
      | (with_reducible refine LeO.bind ?_ (fun _ => ?_))
      | exact ih0 _ _ _
      | exact ih1 _ _ _ _ _
      | exact ih2 _ _ _ _ _ _ _ _ _ _
      | exact ih3 _ _ _ _ _ _ _
      | exact ih4 _ _ _ _
      | exact edges_Bin.mono _ _ _
      | exact hornbeamlaw10_fixed.mono _
      | exact hornbeamref06_Cmp.mono _ _ _
      | exact hornbeamref06_Of.mono _ _
      | exact LeO.none _
      | refine LeO.ite ?_ ?_
      | refine LeO.bind ?_ (fun _ => ?_)
    · intro y0 y1 y2 y3 y4
      unfold hornbeamlaw10_EdgesEven.l0
      repeat' first
      | (with_reducible exact ih0 _ _ _)
      | (with_reducible exact ih1 _ _ _ _ _)
      | (with_reducible exact ih2 _ _ _ _ _ _ _ _ _ _)
      | (with_reducible exact ih3 _ _ _ _ _ _ _)
      | (with_reducible exact ih4 _ _ _ _)
      | (with_reducible exact edges_Bin.mono _ _ _)
      | (with_reducible exact hornbeamlaw10_fixed.mono _)
      | (with_reducible exact hornbeamref06_Cmp.mono _ _ _)
      | (with_reducible exact hornbeamref06_Of.mono _ _)
      | (with_reducible exact LeO.refl _)
      | (with_reducible exact LeO.none _)
      | (with_reducible refine LeO.ite ?_ ?_)
      | (with_reducible refine LeO.bind ?_ (fun _ => ?_))
      | exact ih0 _ _ _
      | exact ih1 _ _ _ _ _
      | exact ih2 _ _ _ _ _ _ _ _ _ _
      | exact ih3 _ _ _ _ _ _ _
      | exact ih4 _ _ _ _
      | exact edges_Bin.mono _ _ _
      | exact hornbeamlaw10_fixed.mono _
      | exact hornbeamref06_Cmp.mono _ _ _
      | exact hornbeamref06_Of.mono _ _
      | exact LeO.none _
      | refine LeO.ite ?_ ?_
      | refine LeO.bind ?_ (fun _ => ?_)
    · intro y0 y1 y2 y3 y4 y5 y6 y7 y8 y9
      unfold hornbeamlaw10_EdgesEven.l1
      repeat' first
      | (with_reducible exact ih0 _ _ _)
      | (with_reducible exact ih1 _ _ _ _ _)
      | (with_reducible exact ih2 _ _ _ _ _ _ _ _ _ _)
      | (with_reducible exact ih3 _ _ _ _ _ _ _)
      | (with_reducible exact ih4 _ _ _ _)
      | (with_reducible exact edges_Bin.mono _ _ _)
      | (with_reducible exact hornbeamlaw10_fixed.mono _)
      | (with_reducible exact hornbeamref06_Cmp.mono _ _ _)
      | (with_reducible exact hornbeamref06_Of.mono _ _)
      | (with_reducible exact LeO.refl _)
      | (with_reducible exact LeO.none _)
      | (with_reducible refine LeO.ite ?_ ?_)
      | (with_reducible refine LeO.bind ?_ (fun _ => ?_))
      | exact ih0 _ _ _
      | exact ih1 _ _ _ _ _
      | exact ih2 _ _ _ _ _ _ _ _ _ _
      | exact ih3 _ _ _ _ _ _ _
      | exact ih4 _ _ _ _
      | exact edges_Bin.mono _ _ _
      | exact hornbeamlaw10_fixed.mono _
      | exact hornbeamref06_Cmp.mono _ _ _
      | exact hornbeamref06_Of.mono _ _
      | exact LeO.none _
      | refine LeO.ite ?_ ?_
      | refine LeO.bind ?_ (fun _ => ?_)
    · intro y0 y1 y2 y3 y4 y5 y6
      unfold hornbeamlaw10_EdgesEven.l2
      repeat' first
      | (with_reducible exact ih0 _ _ _)
      | (with_reducible exact ih1 _ _ _ _ _)
      | (with_reducible exact ih2 _ _ _ _ _ _ _ _ _ _)
      | (with_reducible exact ih3 _ _ _ _ _ _ _)
      | (with_reducible exact ih4 _ _ _ _)
      | (with_reducible exact edges_Bin.mono _ _ _)
      | (with_reducible exact hornbeamlaw10_fixed.mono _)
      | (with_reducible exact hornbeamref06_Cmp.mono _ _ _)
      | (with_reducible exact hornbeamref06_Of.mono _ _)
      | (with_reducible exact LeO.refl _)
      | (with_reducible exact LeO.none _)
      | (with_reducible refine LeO.ite ?_ ?_)
      | (with_reducible refine LeO.bind ?_ (fun _ => ?_))
      | exact ih0 _ _ _
      | exact ih1 _ _ _ _ _
      | exact ih2 _ _ _ _ _ _ _ _ _ _
      | exact ih3 _ _ _ _ _ _ _
      | exact ih4 _ _ _ _
      | exact edges_Bin.mono _ _ _
      | exact hornbeamlaw10_fixed.mono _
      | exact hornbeamref06_Cmp.mono _ _ _
      | exact hornbeamref06_Of.mono _ _
      | exact LeO.none _
      | refine LeO.ite ?_ ?_
      | refine LeO.bind ?_ (fun _ => ?_)
    · intro y0 y1 y2 y3
      unfold hornbeamlaw10_EdgesEven.l3
      repeat' first
      | (with_reducible exact ih0 _ _ _)
      | (with_reducible exact ih1 _ _ _ _ _)
      | (with_reducible exact ih2 _ _ _ _ _ _ _ _ _ _)
      | (with_reducible exact ih3 _ _ _ _ _ _ _)
      | (with_reducible exact ih4 _ _ _ _)
      | (with_reducible exact edges_Bin.mono _ _ _)
      | (with_reducible exact hornbeamlaw10_fixed.mono _)
      | (with_reducible exact hornbeamref06_Cmp.mono _ _ _)
      | (with_reducible exact hornbeamref06_Of.mono _ _)
      | (with_reducible exact LeO.refl _)
      | (with_reducible exact LeO.none _)
      | (with_reducible refine LeO.ite ?_ ?_)
      | (with_reducible refine LeO.bind ?_ (fun _ => ?_))
      | exact ih0 _ _ _
      | exact ih1 _ _ _ _ _
      | exact ih2 _ _ _ _ _ _ _ _ _ _
      | exact ih3 _ _ _ _ _ _ _
      | exact ih4 _ _ _ _
      | exact edges_Bin.mono _ _ _
      | exact hornbeamlaw10_fixed.mono _
      | exact hornbeamref06_Cmp.mono _ _ _
      | exact hornbeamref06_Of.mono _ _
      | exact LeO.none _
      | refine LeO.ite ?_ ?_
      | refine LeO.bind ?_ (fun _ => ?_)
theorem hornbeamlaw10_EdgesEven.mono : ∀ a0 a1 k, LeO (hornbeamlaw10_EdgesEven.f k a0 a1) (hornbeamlaw10_EdgesEven.f (k + 1) a0 a1) := by
  intro a0 a1 k
  obtain ⟨ih0, ih1, ih2, ih3, ih4⟩ := hornbeamlaw10_EdgesEven.mono_l k
  unfold hornbeamlaw10_EdgesEven.f
  repeat' first
      | (with_reducible exact ih0 _ _ _)
      | (with_reducible exact ih1 _ _ _ _ _)
      | (with_reducible exact ih2 _ _ _ _ _ _ _ _ _ _)
      | (with_reducible exact ih3 _ _ _ _ _ _ _)
      | (with_reducible exact ih4 _ _ _ _)
      | (with_reducible exact edges_Bin.mono _ _ _)
      | (with_reducible exact hornbeamlaw10_fixed.mono _)
      | (with_reducible exact hornbeamref06_Cmp.mono _ _ _)
      | (with_reducible exact hornbeamref06_Of.mono _ _)
      | (with_reducible exact LeO.refl _)
      | (with_reducible exact LeO.none _)
      | (with_reducible refine LeO.ite ?_ ?_)
      | (with_reducible refine LeO.bind ?_ (fun _ => ?_))
      | exact ih0 _ _ _
      | exact ih1 _ _ _ _ _
      | exact ih2 _ _ _ _ _ _ _ _ _ _
      | exact ih3 _ _ _ _ _ _ _
      | exact ih4 _ _ _ _
      | exact edges_Bin.mono _ _ _
      | exact hornbeamlaw10_fixed.mono _
      | exact hornbeamref06_Cmp.mono _ _ _
      | exact hornbeamref06_Of.mono _ _
      | exact LeO.none _
      | refine LeO.ite ?_ ?_
      | refine LeO.bind ?_ (fun _ => ?_)
set_option maxHeartbeats 8000000 in
set_option maxRecDepth 100000 in
theorem hornbeamlaw10_EdgesEven.calls (k : Nat) (A0 : Option Addr) (c0 : Nat) (l0 : List Int) (a1 : Int) (r : Bool) (w : World) (hr0 : Kd.C (Kd.int .u64) w A0 l0.length l0) (hc0 : l0.length ≤ c0) (h : hornbeamlaw10_EdgesEven.f k l0 a1 = some r) :
    Calls Try.prog 9 #[.slice A0 l0.length c0, .int .u8 a1] w fun e w' => e = .returned (.bool r) ∧ Below w.heap.size w w' := by
  have HR0 := Aside0.mk hr0
  have HC0 := Aside0.mk hc0
  clear hr0 hc0
  have HB := Aside0.mk (Below.refl w.heap.size w)
  have H : (if (l0.length : Int) > 200 then (hornbeamlaw10_EdgesEven.j0 k l0 a1 true) else (hornbeamlaw10_EdgesEven.j0 k l0 a1 (decide (a1 < 2)))) = some r := h
  clear h
  have HC3 := Aside0.mk H
  clear H
  go_enter Try.func9, Try.ntmps9
  go_upto_region 1 with (fail)
  go_cut [24] (fun v24 wc => ∃ (kq : Nat) (x24_2 : Bool), v24 = .bool x24_2 ∧ Aside0 (hornbeamlaw10_EdgesEven.j0 kq l0 a1 x24_2 = some r) ∧ Aside0 (kq ≤ k) ∧ Aside0 (Below w.heap.size w wc))
  case first =>
    have H := HC3.out
    clear HC3
    by_cases c4 : (l0.length : Int) > 200
    · rw [if_pos c4] at H
      have c4b0 : decide (200 < (l0.length : Int)) = true := decide_eq_true c4
      have c4b1 : decide (200 < l0.length) = true := decide_eq_true (by omega)
      clear c4
      (first | rw [c4b0] | (simp only [i64_w, i32_w]; rw [c4b0]) | skip)
      have H' := Aside0.mk H
      clear H
      go_wp2
      go_meet
      case rel => exact ⟨_, (true), (by first | rfl | (simp; done) | (simp [*]; done)), H', ⟨by first | omega | exact Nat.le_refl _⟩, ⟨by repeat (first | (with_reducible first | exact HB.out | apply below_alloc | apply pw_below_drewN | apply below_drew1) | exact HB.out)⟩⟩
    · rw [if_neg c4] at H
      have c4b0 : decide (200 < (l0.length : Int)) = false := decide_eq_false c4
      have c4b1 : decide (200 < l0.length) = false := decide_eq_false (by omega)
      clear c4
      (first | rw [c4b0] | (simp only [i64_w, i32_w]; rw [c4b0]) | skip)
      have H' := Aside0.mk H
      clear H
      go_wp2
      go_meet
      case rel => exact ⟨_, (decide (a1 < 2)), (by first | rfl | (simp; done) | (simp [*]; done)), H', ⟨by first | omega | exact Nat.le_refl _⟩, ⟨by repeat (first | (with_reducible first | exact HB.out | apply below_alloc | apply pw_below_drewN | apply below_drew1) | exact HB.out)⟩⟩
  case rest =>
    clear HC3
    try clear p2
    try clear c4
    try clear c4b0
    try clear c4b1
    obtain ⟨kq, x24_2, rfl, HA, HJ2, HB⟩ := hcut
    cases kq with
    | zero => exact absurd HA.out (by simp [hornbeamlaw10_EdgesEven.j0])
    | succ kj2 =>
      have H := HA.out
      clear HA
      simp only [hornbeamlaw10_EdgesEven.j0] at H
      by_cases c5 : x24_2 = true
      · subst c5
        have H1 : ((hornbeamlaw10_fixed.f kj2).bind fun t289 => (some t289)) = some r := by rw [if_pos rfl] at H; exact H
        clear H
        have H := H1
        clear H1
        replace H := Option.bind_eq_some_iff.mp H
        obtain ⟨t289, A60, H⟩ := H
        replace H : (some t289) = some r := H
        have A6 := Aside0.mk A60
        clear A60
        obtain rfl := Option.some.inj H
        go_wp2_with (first | ((with_reducible refine gate_callee (f := 32) rfl ?_); refine goesL_ (some 25) rfl rfl Try.func32 (by kernel_rfl) rfl #[] rfl (by (try simp only [List.map_toArray, List.map_cons, List.map_nil]); first | done | rfl | (simp only [List.length_drop, List.length_take]; rfl)) ?_; (with_reducible refine (hornbeamlaw10_fixed.calls kj2  t289 _ A6.out).mono ?_); rintro e w7 ⟨rfl, hb⟩; refine ⟨_, rfl, ?_⟩; have n0_ := Aside0.mk (below_step (by repeat (first | (with_reducible first | exact HB.out | apply below_alloc | apply pw_below_drewN | apply below_drew1) | exact HB.out)) hb); clear HB; have HB := n0_; clear n0_; (try clear hb); (try clear hb2); (try clear hk); (try clear hi)))
        go_ret
        exact ⟨by first | rfl | (simp [errW_none, errW_some] <;> rfl) | (simp [*, errW_none, errW_some] <;> rfl), by repeat (first | (with_reducible first | exact HB.out | apply below_alloc | apply pw_below_drewN | apply below_drew1) | exact HB.out)⟩
      · replace c5 := Bool.eq_false_iff.mpr c5
        subst c5
        have H1 : ((hornbeamref06_Of.f kj2 l0).bind fun t290 => (hornbeamlaw10_EdgesEven.l0 kj2 a1 t290 t290 (t290.length : Int) 0)) = some r := by rw [if_neg (show ¬ (false = true) by decide)] at H; exact H
        clear H
        have H := H1
        clear H1
        replace H := Option.bind_eq_some_iff.mp H
        obtain ⟨t290, A80, H⟩ := H
        replace H : (hornbeamlaw10_EdgesEven.l0 kj2 a1 t290 t290 (t290.length : Int) 0) = some r := H
        have A8 := Aside0.mk A80
        clear A80
        have H' := Aside0.mk H
        clear H
        go_wp2_with (first | ((with_reducible refine gate_callee (f := 28) rfl ?_); refine goesL_ (some 27) rfl rfl Try.func28 (by kernel_rfl) rfl #[.slice A0 l0.length c0] rfl (by (try simp only [List.map_toArray, List.map_cons, List.map_nil]); first | done | rfl | (simp only [List.length_drop, List.length_take]; rfl)) ?_; (with_reducible refine (hornbeamref06_Of.calls kj2 _ _ l0 t290 _ ?side1 ?side2 A8.out).mono ?_); (case side1 => repeat (first | exact (Kd.C_below HR0.out HB.out) | (with_reducible refine Kd.C_alloc ?_ _) | (with_reducible refine Kd.C_drewN ?_ _) | (with_reducible refine Kd.C_drew ?_))); (case side2 => exact HC0.out); rintro e w9 ⟨v291, rfl, ho0, hb⟩; refine ⟨_, rfl, ?_⟩; have n0_ := Aside0.mk (Kd.R_lower ho0 (below_size (by repeat (first | (with_reducible first | exact HB.out | apply below_alloc | apply pw_below_drewN | apply below_drew1) | exact HB.out)))); have n1_ := Aside0.mk (below_step (by repeat (first | (with_reducible first | exact HB.out | apply below_alloc | apply pw_below_drewN | apply below_drew1) | exact HB.out)) hb); clear HB; have HO292 := n0_; have HB := n1_; clear n0_ n1_; (try clear hb); (try clear hb2); (try clear hk); (try clear hi); (try clear ho0); obtain ⟨Ao10, co10, eo10⟩ := Kd.R_slice HO292.out; subst eo10))
        go_loopg [30] kj2 (fun kq v30 w' => ∃ (x30_2 : Int), v30 = .int .i64 x30_2 ∧ Aside0 (hornbeamlaw10_EdgesEven.l0 kq a1 t290 t290 (t290.length : Int) x30_2 = some r) ∧ Aside0 (kq ≤ kj2) ∧ Aside0 (Kd.R Flt.kf 23 w' w.heap.size (fun _ => True) (.slice Ao10 t290.length co10) t290) ∧ Aside0 (Kd.R Flt.kf 23 w' w.heap.size (fun _ => True) (.slice Ao10 t290.length co10) t290) ∧ Aside0 (Below w.heap.size w w'))
        case atStart => exact ⟨(0), (by first | rfl | (simp; done) | (simp [*]; done)), H', ⟨Nat.le_refl _⟩, ⟨by (with_reducible repeat (first | apply Kd.R_alloc | apply Kd.R_drewN | apply Kd.R_drew)); exact HO292.out⟩, ⟨by (with_reducible repeat (first | apply Kd.R_alloc | apply Kd.R_drewN | apply Kd.R_drew)); exact HO292.out⟩, ⟨by repeat (first | (with_reducible first | exact HB.out | apply below_alloc | apply pw_below_drewN | apply below_drew1) | exact HB.out)⟩⟩
        case round =>
          clear H'
          try clear c2
          try clear p2
          try clear c3
          try clear c4
          try clear c4b0
          try clear c4b1
          try clear c5
          try clear c9
          try clear p2
          obtain ⟨x30_2, rfl, HA, HK2, HO_5, HO_28, HB⟩ := hrel
          cases gk with
          | zero => exact absurd HA.out (by simp [hornbeamlaw10_EdgesEven.l0])
          | succ k2 =>
            have H := HA.out
            clear HA
            simp only [hornbeamlaw10_EdgesEven.l0] at H
            by_cases c11 : x30_2 < (t290.length : Int)
            · rw [if_pos c11] at H
              have c11b0 : decide (x30_2 < (t290.length : Int)) = true := decide_eq_true c11
              clear c11
              by_cases c12 : 0 ≤ x30_2
              · rw [if_pos c12] at H
                have c12b0 : decide (0 ≤ x30_2) = true := decide_eq_true c12
                clear c12
                by_cases c13 : x30_2 < (t290.length : Int)
                · rw [if_pos c13] at H
                  have c13b0 : decide (x30_2 < (t290.length : Int)) = true := decide_eq_true c13
                  clear c13
                  have H' := Aside0.mk H
                  clear H
                  have p293 : 0 ≤ (x30_2 : Int) := of_decide_eq_true (by first | (with_reducible assumption) | assumption)
                  have q293 : x30_2 < (t290.length : Int) := of_decide_eq_true (by first | (with_reducible assumption) | assumption)
                  obtain ⟨ad293, e293, hx293_0⟩ := Flt.at_kf (Kd.R_reads' HO_28.out).2.2 x30_2 p293 q293
                  cases e293
                  replace p293 := eq_true p293
                  replace q293 := eq_true q293
                  go_wp2
                  go_loopg [37] k2 (fun kq v37 w' => ∃ (x37_3 : Int), v37 = .int .i64 x37_3 ∧ Aside0 (hornbeamlaw10_EdgesEven.l1 kq a1 t290 x30_2 (rdOf (0 : Nat) t290 x30_2) t290 (t290.length : Int) x30_2 t290 (t290.length : Int) x37_3 = some r) ∧ Aside0 (kq ≤ k2) ∧ Aside0 (Kd.R Flt.kf 23 w' w.heap.size (fun _ => True) (.slice (some ad293) t290.length co10) t290) ∧ Aside0 (Kd.R Flt.kf 23 w' w.heap.size (fun _ => True) (.slice (some ad293) t290.length co10) t290) ∧ Aside0 (Kd.R Flt.kf 23 w' w.heap.size (fun _ => True) (.slice (some ad293) t290.length co10) t290) ∧ Aside0 (Below w.heap.size w w'))
                  case atStart => exact ⟨(0), (by first | rfl | (simp; done) | (simp [*]; done)), H', ⟨Nat.le_refl _⟩, ⟨by (with_reducible repeat (first | apply Kd.R_alloc | apply Kd.R_drewN | apply Kd.R_drew)); exact HO_5.out⟩, ⟨by (with_reducible repeat (first | apply Kd.R_alloc | apply Kd.R_drewN | apply Kd.R_drew)); exact HO_28.out⟩, ⟨by (with_reducible repeat (first | apply Kd.R_alloc | apply Kd.R_drewN | apply Kd.R_drew)); exact HO_5.out⟩, ⟨by repeat (first | (with_reducible first | exact HB.out | apply below_alloc | apply pw_below_drewN | apply below_drew1) | exact HB.out)⟩⟩
                  case round =>
                    clear H'
                    try clear c1
                    try clear c2
                    try clear p2
                    try clear q2
                    try clear hx2
                    try clear c3
                    try clear c4
                    try clear c4b0
                    try clear c4b1
                    try clear c5
                    try clear c9
                    try clear c11
                    try clear c11b0
                    try clear c12
                    try clear c12b0
                    try clear c13
                    try clear c13b0
                    try clear hx293_0
                    try clear p2
                    try clear p293
                    try clear q293
                    obtain ⟨x37_3, rfl, HA, HK3, HO_5, HO_28, HO_35, HB⟩ := hrel
                    cases gk with
                    | zero => exact absurd HA.out (by simp [hornbeamlaw10_EdgesEven.l1])
                    | succ k3 =>
                      have H := HA.out
                      clear HA
                      simp only [hornbeamlaw10_EdgesEven.l1] at H
                      by_cases c14 : x37_3 < (t290.length : Int)
                      · rw [if_pos c14] at H
                        have c14b0 : decide (x37_3 < (t290.length : Int)) = true := decide_eq_true c14
                        clear c14
                        by_cases c15 : 0 ≤ x37_3
                        · rw [if_pos c15] at H
                          have c15b0 : decide (0 ≤ x37_3) = true := decide_eq_true c15
                          clear c15
                          by_cases c16 : x37_3 < (t290.length : Int)
                          · rw [if_pos c16] at H
                            have c16b0 : decide (x37_3 < (t290.length : Int)) = true := decide_eq_true c16
                            clear c16
                            replace H := Option.bind_eq_some_iff.mp H
                            obtain ⟨t295, A170, H⟩ := H
                            replace H : (if t295 = true then ((hornbeamlaw10_fixed.f k3).bind fun t296 => (some t296)) else (if x30_2 = x37_3 then (hornbeamlaw10_EdgesEven.l1 k3 a1 t290 x30_2 (rdOf (0 : Nat) t290 x30_2) t290 (t290.length : Int) x30_2 t290 (t290.length : Int) (wrap64 (x37_3 + 1))) else ((hornbeamref06_Cmp.f k3 (rdOf (0 : Nat) t290 x30_2) (rdOf (0 : Nat) t290 x37_3)).bind fun t297 => (if t297 = 0 then ((hornbeamlaw10_fixed.f k3).bind fun t298 => (some t298)) else (hornbeamlaw10_EdgesEven.l1 k3 a1 t290 x30_2 (rdOf (0 : Nat) t290 x30_2) t290 (t290.length : Int) x30_2 t290 (t290.length : Int) (wrap64 (x37_3 + 1))))))) = some r := H
                            have A17 := Aside0.mk A170
                            clear A170
                            by_cases c18 : t295 = true
                            · subst c18
                              have H1 : ((hornbeamlaw10_fixed.f k3).bind fun t296 => (some t296)) = some r := by rw [if_pos rfl] at H; exact H
                              clear H
                              have H := H1
                              clear H1
                              replace H := Option.bind_eq_some_iff.mp H
                              obtain ⟨t296, A190, H⟩ := H
                              replace H : (some t296) = some r := H
                              have A19 := Aside0.mk A190
                              clear A190
                              obtain rfl := Option.some.inj H
                              have p294 : 0 ≤ (x37_3 : Int) := of_decide_eq_true (by first | (with_reducible assumption) | assumption)
                              have q294 : x37_3 < (t290.length : Int) := of_decide_eq_true (by first | (with_reducible assumption) | assumption)
                              obtain ⟨ad294, e294, hx294_0⟩ := Flt.at_kf (Kd.R_reads' HO_35.out).2.2 x37_3 p294 q294
                              obtain rfl : ad293 = ad294 := (by injection e294)
                              replace p294 := eq_true p294
                              replace q294 := eq_true q294
                              go_wp2_with (first | ((with_reducible refine gate_callee (f := 21) rfl ?_); refine goesL_ (some 43) rfl rfl Try.func21 (by kernel_rfl) rfl #[.float .f64 (rdOf (0 : Nat) t290 x30_2)] rfl (by (try simp only [List.map_toArray, List.map_cons, List.map_nil]); first | done | rfl | (simp only [List.length_drop, List.length_take]; rfl)) ?_; (with_reducible refine (hornbeamref06_Missing.calls (rdOf (0 : Nat) t290 x30_2) true _ A17.out).mono ?_); rintro e w' ⟨rfl, ⟨nd, rfl⟩⟩; refine ⟨_, rfl, ?_⟩) | ((with_reducible refine gate_callee (f := 32) rfl ?_); refine goesL_ (some 55) rfl rfl Try.func32 (by kernel_rfl) rfl #[] rfl (by (try simp only [List.map_toArray, List.map_cons, List.map_nil]); first | done | rfl | (simp only [List.length_drop, List.length_take]; rfl)) ?_; (with_reducible refine (hornbeamlaw10_fixed.calls k3  t296 _ A19.out).mono ?_); rintro e w20 ⟨rfl, hb⟩; refine ⟨_, rfl, ?_⟩; have n0_ := Aside0.mk (Kd.R_below (by (with_reducible repeat (first | apply Kd.R_alloc | apply Kd.R_drewN | apply Kd.R_drew)); exact HO_5.out) hb); have n1_ := Aside0.mk (Kd.R_below (by (with_reducible repeat (first | apply Kd.R_alloc | apply Kd.R_drewN | apply Kd.R_drew)); exact HO_28.out) hb); have n2_ := Aside0.mk (Kd.R_below (by (with_reducible repeat (first | apply Kd.R_alloc | apply Kd.R_drewN | apply Kd.R_drew)); exact HO_35.out) hb); have n3_ := Aside0.mk (below_step (by repeat (first | (with_reducible first | exact HB.out | apply below_alloc | apply pw_below_drewN | apply below_drew1) | exact HB.out)) hb); clear HO_5; clear HO_28; clear HO_35; clear HB; have HO_5 := n0_; have HO_28 := n1_; have HO_35 := n2_; have HB := n3_; clear n0_ n1_ n2_ n3_; (try clear hb); (try clear hb2); (try clear hk); (try clear hi)))
                              go_ret
                              exact ⟨by first | rfl | (simp [errW_none, errW_some] <;> rfl) | (simp [*, errW_none, errW_some] <;> rfl), by repeat (first | (with_reducible first | exact HB.out | apply below_alloc | apply pw_below_drewN | apply below_drew1) | exact HB.out)⟩
                            · replace c18 := Bool.eq_false_iff.mpr c18
                              subst c18
                              have H1 : (if x30_2 = x37_3 then (hornbeamlaw10_EdgesEven.l1 k3 a1 t290 x30_2 (rdOf (0 : Nat) t290 x30_2) t290 (t290.length : Int) x30_2 t290 (t290.length : Int) (wrap64 (x37_3 + 1))) else ((hornbeamref06_Cmp.f k3 (rdOf (0 : Nat) t290 x30_2) (rdOf (0 : Nat) t290 x37_3)).bind fun t297 => (if t297 = 0 then ((hornbeamlaw10_fixed.f k3).bind fun t298 => (some t298)) else (hornbeamlaw10_EdgesEven.l1 k3 a1 t290 x30_2 (rdOf (0 : Nat) t290 x30_2) t290 (t290.length : Int) x30_2 t290 (t290.length : Int) (wrap64 (x37_3 + 1)))))) = some r := by rw [if_neg (show ¬ (false = true) by decide)] at H; exact H
                              clear H
                              have H := H1
                              clear H1
                              by_cases c21 : x30_2 = x37_3
                              · rw [if_pos c21] at H
                                have c21b0 : (x30_2 == x37_3) = true := beq_iff_eq.mpr c21
                                have c21b1 : (x30_2 != x37_3) = false := bne_eq_false_iff_eq.mpr c21
                                clear c21
                                have H' := Aside0.mk H
                                clear H
                                have p294 : 0 ≤ (x37_3 : Int) := of_decide_eq_true (by first | (with_reducible assumption) | assumption)
                                have q294 : x37_3 < (t290.length : Int) := of_decide_eq_true (by first | (with_reducible assumption) | assumption)
                                obtain ⟨ad294, e294, hx294_0⟩ := Flt.at_kf (Kd.R_reads' HO_35.out).2.2 x37_3 p294 q294
                                obtain rfl : ad293 = ad294 := (by injection e294)
                                replace p294 := eq_true p294
                                replace q294 := eq_true q294
                                go_wp2_with (first | ((with_reducible refine gate_callee (f := 21) rfl ?_); refine goesL_ (some 43) rfl rfl Try.func21 (by kernel_rfl) rfl #[.float .f64 (rdOf (0 : Nat) t290 x30_2)] rfl (by (try simp only [List.map_toArray, List.map_cons, List.map_nil]); first | done | rfl | (simp only [List.length_drop, List.length_take]; rfl)) ?_; (with_reducible refine (hornbeamref06_Missing.calls (rdOf (0 : Nat) t290 x30_2) false _ A17.out).mono ?_); rintro e w' ⟨rfl, ⟨nd, rfl⟩⟩; refine ⟨_, rfl, ?_⟩))
                                go_roundg k3
                                case measure => have := HJ2.out; have := HK2.out; have := HK3.out; omega
                                case rel => exact ⟨(wrap64 (x37_3 + 1)), (by first | rfl | (simp; done) | (simp [*]; done)), H', ⟨by have := HJ2.out; have := HK2.out; have := HK3.out; omega⟩, ⟨by (with_reducible repeat (first | apply Kd.R_alloc | apply Kd.R_drewN | apply Kd.R_drew)); exact HO_5.out⟩, ⟨by (with_reducible repeat (first | apply Kd.R_alloc | apply Kd.R_drewN | apply Kd.R_drew)); exact HO_28.out⟩, ⟨by (with_reducible repeat (first | apply Kd.R_alloc | apply Kd.R_drewN | apply Kd.R_drew)); exact HO_35.out⟩, ⟨by repeat (first | (with_reducible first | exact HB.out | apply below_alloc | apply pw_below_drewN | apply below_drew1) | exact HB.out)⟩⟩
                              · rw [if_neg c21] at H
                                have c21b0 : (x30_2 == x37_3) = false := beq_eq_false_iff_ne.mpr c21
                                have c21b1 : (x30_2 != x37_3) = true := bne_iff_ne.mpr c21
                                replace H := Option.bind_eq_some_iff.mp H
                                obtain ⟨t297, A220, H⟩ := H
                                replace H : (if t297 = 0 then ((hornbeamlaw10_fixed.f k3).bind fun t298 => (some t298)) else (hornbeamlaw10_EdgesEven.l1 k3 a1 t290 x30_2 (rdOf (0 : Nat) t290 x30_2) t290 (t290.length : Int) x30_2 t290 (t290.length : Int) (wrap64 (x37_3 + 1)))) = some r := H
                                have A22 := Aside0.mk A220
                                clear A220
                                by_cases c23 : t297 = 0
                                · rw [if_pos c23] at H
                                  have c23b0 : (t297 == 0) = true := beq_iff_eq.mpr c23
                                  have c23b1 : (t297 != 0) = false := bne_eq_false_iff_eq.mpr c23
                                  clear c23
                                  replace H := Option.bind_eq_some_iff.mp H
                                  obtain ⟨t298, A240, H⟩ := H
                                  replace H : (some t298) = some r := H
                                  have A24 := Aside0.mk A240
                                  clear A240
                                  obtain rfl := Option.some.inj H
                                  have p294 : 0 ≤ (x37_3 : Int) := of_decide_eq_true (by first | (with_reducible assumption) | assumption)
                                  have q294 : x37_3 < (t290.length : Int) := of_decide_eq_true (by first | (with_reducible assumption) | assumption)
                                  obtain ⟨ad294, e294, hx294_0⟩ := Flt.at_kf (Kd.R_reads' HO_35.out).2.2 x37_3 p294 q294
                                  obtain rfl : ad293 = ad294 := (by injection e294)
                                  replace p294 := eq_true p294
                                  replace q294 := eq_true q294
                                  go_wp2_with (first | ((with_reducible refine gate_callee (f := 21) rfl ?_); refine goesL_ (some 43) rfl rfl Try.func21 (by kernel_rfl) rfl #[.float .f64 (rdOf (0 : Nat) t290 x30_2)] rfl (by (try simp only [List.map_toArray, List.map_cons, List.map_nil]); first | done | rfl | (simp only [List.length_drop, List.length_take]; rfl)) ?_; (with_reducible refine (hornbeamref06_Missing.calls (rdOf (0 : Nat) t290 x30_2) false _ A17.out).mono ?_); rintro e w' ⟨rfl, ⟨nd, rfl⟩⟩; refine ⟨_, rfl, ?_⟩) | (go_at_call 27; (with_reducible refine (hornbeamref06_Cmp.calls k3 (rdOf (0 : Nat) t290 x30_2) (rdOf (0 : Nat) t290 x37_3) t297 _ A22.out).mono ?_); rintro e w' ⟨rfl, ⟨nd, rfl⟩⟩) | ((with_reducible refine gate_callee (f := 32) rfl ?_); refine goesL_ (some 55) rfl rfl Try.func32 (by kernel_rfl) rfl #[] rfl (by (try simp only [List.map_toArray, List.map_cons, List.map_nil]); first | done | rfl | (simp only [List.length_drop, List.length_take]; rfl)) ?_; (with_reducible refine (hornbeamlaw10_fixed.calls k3  t298 _ A24.out).mono ?_); rintro e w25 ⟨rfl, hb⟩; refine ⟨_, rfl, ?_⟩; have n0_ := Aside0.mk (Kd.R_below (by (with_reducible repeat (first | apply Kd.R_alloc | apply Kd.R_drewN | apply Kd.R_drew)); exact HO_5.out) hb); have n1_ := Aside0.mk (Kd.R_below (by (with_reducible repeat (first | apply Kd.R_alloc | apply Kd.R_drewN | apply Kd.R_drew)); exact HO_28.out) hb); have n2_ := Aside0.mk (Kd.R_below (by (with_reducible repeat (first | apply Kd.R_alloc | apply Kd.R_drewN | apply Kd.R_drew)); exact HO_35.out) hb); have n3_ := Aside0.mk (below_step (by repeat (first | (with_reducible first | exact HB.out | apply below_alloc | apply pw_below_drewN | apply below_drew1) | exact HB.out)) hb); clear HO_5; clear HO_28; clear HO_35; clear HB; have HO_5 := n0_; have HO_28 := n1_; have HO_35 := n2_; have HB := n3_; clear n0_ n1_ n2_ n3_; (try clear hb); (try clear hb2); (try clear hk); (try clear hi)))
                                  go_ret
                                  exact ⟨by first | rfl | (simp [errW_none, errW_some] <;> rfl) | (simp [*, errW_none, errW_some] <;> rfl), by repeat (first | (with_reducible first | exact HB.out | apply below_alloc | apply pw_below_drewN | apply below_drew1) | exact HB.out)⟩
                                · rw [if_neg c23] at H
                                  have c23b0 : (t297 == 0) = false := beq_eq_false_iff_ne.mpr c23
                                  have c23b1 : (t297 != 0) = true := bne_iff_ne.mpr c23
                                  have H' := Aside0.mk H
                                  clear H
                                  have p294 : 0 ≤ (x37_3 : Int) := of_decide_eq_true (by first | (with_reducible assumption) | assumption)
                                  have q294 : x37_3 < (t290.length : Int) := of_decide_eq_true (by first | (with_reducible assumption) | assumption)
                                  obtain ⟨ad294, e294, hx294_0⟩ := Flt.at_kf (Kd.R_reads' HO_35.out).2.2 x37_3 p294 q294
                                  obtain rfl : ad293 = ad294 := (by injection e294)
                                  replace p294 := eq_true p294
                                  replace q294 := eq_true q294
                                  go_wp2_with (first | ((with_reducible refine gate_callee (f := 21) rfl ?_); refine goesL_ (some 43) rfl rfl Try.func21 (by kernel_rfl) rfl #[.float .f64 (rdOf (0 : Nat) t290 x30_2)] rfl (by (try simp only [List.map_toArray, List.map_cons, List.map_nil]); first | done | rfl | (simp only [List.length_drop, List.length_take]; rfl)) ?_; (with_reducible refine (hornbeamref06_Missing.calls (rdOf (0 : Nat) t290 x30_2) false _ A17.out).mono ?_); rintro e w' ⟨rfl, ⟨nd, rfl⟩⟩; refine ⟨_, rfl, ?_⟩) | (go_at_call 27; (with_reducible refine (hornbeamref06_Cmp.calls k3 (rdOf (0 : Nat) t290 x30_2) (rdOf (0 : Nat) t290 x37_3) t297 _ A22.out).mono ?_); rintro e w' ⟨rfl, ⟨nd, rfl⟩⟩))
                                  go_roundg k3
                                  case measure => have := HJ2.out; have := HK2.out; have := HK3.out; omega
                                  case rel => exact ⟨(wrap64 (x37_3 + 1)), (by first | rfl | (simp; done) | (simp [*]; done)), H', ⟨by have := HJ2.out; have := HK2.out; have := HK3.out; omega⟩, ⟨by (with_reducible repeat (first | apply Kd.R_alloc | apply Kd.R_drewN | apply Kd.R_drew)); exact HO_5.out⟩, ⟨by (with_reducible repeat (first | apply Kd.R_alloc | apply Kd.R_drewN | apply Kd.R_drew)); exact HO_28.out⟩, ⟨by (with_reducible repeat (first | apply Kd.R_alloc | apply Kd.R_drewN | apply Kd.R_drew)); exact HO_35.out⟩, ⟨by repeat (first | (with_reducible first | exact HB.out | apply below_alloc | apply pw_below_drewN | apply below_drew1) | exact HB.out)⟩⟩
                          · rw [if_neg c16] at H
                            exact absurd H (by simp)
                        · rw [if_neg c15] at H
                          exact absurd H (by simp)
                      · rw [if_neg c14] at H
                        have c14b0 : decide (x37_3 < (t290.length : Int)) = false := decide_eq_false c14
                        clear c14
                        have H' := Aside0.mk H
                        clear H
                        go_wp2
                        go_roundg k3
                        case measure => have := HJ2.out; have := HK2.out; have := HK3.out; omega
                        case rel => exact ⟨(wrap64 (x30_2 + 1)), (by first | rfl | (simp; done) | (simp [*]; done)), H', ⟨by have := HJ2.out; have := HK2.out; have := HK3.out; omega⟩, ⟨by (with_reducible repeat (first | apply Kd.R_alloc | apply Kd.R_drewN | apply Kd.R_drew)); exact HO_5.out⟩, ⟨by (with_reducible repeat (first | apply Kd.R_alloc | apply Kd.R_drewN | apply Kd.R_drew)); exact HO_28.out⟩, ⟨by repeat (first | (with_reducible first | exact HB.out | apply below_alloc | apply pw_below_drewN | apply below_drew1) | exact HB.out)⟩⟩
                · rw [if_neg c13] at H
                  exact absurd H (by simp)
              · rw [if_neg c12] at H
                exact absurd H (by simp)
            · rw [if_neg c11] at H
              have c11b0 : decide (x30_2 < (t290.length : Int)) = false := decide_eq_false c11
              clear c11
              replace H := Option.bind_eq_some_iff.mp H
              obtain ⟨t299, A260, H⟩ := H
              replace H : (if 0 ≤ (wrap64 ((t299.length : Int) + 2)) then (if (wrap64 ((t299.length : Int) + 2) : Int).toNat ≤ 35184372088832 then (hornbeamlaw10_EdgesEven.l2 k2 a1 t290 t299 (List.replicate (wrap64 ((t299.length : Int) + 2) : Int).toNat 0) t290 (t290.length : Int) 0) else (none)) else (none)) = some r := H
              have A26 := Aside0.mk A260
              clear A260
              obtain ⟨ji27, hji27⟩ : ∃ j_ : Int, (wrap64 ((t299.length : Int) + 2)) = j_ := ⟨_, rfl⟩
              replace H : (if 0 ≤ (ji27) then (if (ji27 : Int).toNat ≤ 35184372088832 then (hornbeamlaw10_EdgesEven.l2 k2 a1 t290 t299 (List.replicate (ji27 : Int).toNat 0) t290 (t290.length : Int) 0) else (none)) else (none)) = some r := by first | (rw [hji27] at H; exact H) | (simp only [hji27] at H ⊢; exact H)
              (try rw [hji27] at A26)
              have hji27w : (IntKind.i64.wrap ((t299.length : Int) + 2)) = ji27 := (i64_w _).trans hji27
              by_cases c28 : 0 ≤ (ji27)
              · rw [if_pos c28] at H
                have c28b0 := eq_true c28
                have c28b1 : decide (0 ≤ (ji27)) = true := decide_eq_true c28
                clear c28
                by_cases c29 : (ji27 : Int).toNat ≤ 35184372088832
                · rw [if_pos c29] at H
                  have c29b0 := eq_true c29
                  have c29b1 : decide ((ji27 : Int).toNat ≤ 35184372088832) = true := decide_eq_true c29
                  clear c29
                  obtain ⟨y302, hy302⟩ : ∃ y_ : List Int, y_ = (List.replicate (ji27 : Int).toNat 0) := ⟨_, rfl⟩
                  replace H : (hornbeamlaw10_EdgesEven.l2 k2 a1 t290 t299 y302 t290 (t290.length : Int) 0) = some r := by first | (rw [hy302]; with_reducible exact H) | (have H2_ := (Option.bind_some _ _).symm.trans H; rw [hy302]; with_reducible exact H2_) | (have H2_ := (Option.bind_some _ _).symm.trans H; with_reducible exact H2_) | with_reducible exact H | (rw [hy302]; exact H) | exact H
                  have Ny302 := Aside0.mk hy302
                  clear hy302
                  have H' := Aside0.mk H
                  clear H
                  go_wp2_with (first | ((with_reducible refine gate_callee (f := 33) rfl ?_); refine goesL_ (some 61) rfl rfl Try.func33 (by kernel_rfl) rfl #[.slice Ao10 t290.length co10, .int .i64 (wrap64 (a1))] rfl (by (try simp only [List.map_toArray, List.map_cons, List.map_nil]); first | done | rfl | (simp only [List.length_drop, List.length_take]; rfl)) ?_; (with_reducible refine (edges_Of.calls _ _ t290 (wrap64 (a1)) t299 _ ?side1 ?side2 A26.out).mono ?_); (case side1 => repeat (first | exact (Kd.R_reads' HO_5.out).2.2 | (with_reducible refine Kd.C_alloc ?_ _) | (with_reducible refine Kd.C_drewN ?_ _) | (with_reducible refine Kd.C_drew ?_))); (case side2 => exact (Kd.R_reads' HO_5.out).2.1); rintro e w30 ⟨v300, rfl, ho0, hb⟩; refine ⟨_, rfl, ?_⟩; have n0_ := Aside0.mk (Kd.R_elder' (by (with_reducible repeat (first | apply Kd.R_alloc | apply Kd.R_drewN | apply Kd.R_drew)); exact HO_5.out) (Kd.R_base ho0) hb); have n1_ := Aside0.mk (Kd.R_elder' (by (with_reducible repeat (first | apply Kd.R_alloc | apply Kd.R_drewN | apply Kd.R_drew)); exact HO_28.out) (Kd.R_base ho0) hb); have n2_ := Aside0.mk (Kd.R_lower (Kd.R_new' (Kd.R_new' ho0 (Kd.R_lt (by (with_reducible repeat (first | apply Kd.R_alloc | apply Kd.R_drewN | apply Kd.R_drew)); exact HO_5.out))) (Kd.R_lt (by (with_reducible repeat (first | apply Kd.R_alloc | apply Kd.R_drewN | apply Kd.R_drew)); exact HO_28.out))) (below_size (by repeat (first | (with_reducible first | exact HB.out | apply below_alloc | apply pw_below_drewN | apply below_drew1) | exact HB.out)))); have n3_ := Aside0.mk (below_step (by repeat (first | (with_reducible first | exact HB.out | apply below_alloc | apply pw_below_drewN | apply below_drew1) | exact HB.out)) hb); clear HO_5; clear HO_28; clear HB; have HO_5 := n0_; have HO_28 := n1_; have HO301 := n2_; have HB := n3_; clear n0_ n1_ n2_ n3_; (try clear hb); (try clear hb2); (try clear hk); (try clear hi); (try clear ho0); obtain ⟨Ao31, co31, eo31⟩ := Kd.R_slice HO301.out; subst eo31) | ((with_reducible refine gate_dst (N := 65) rfl ?_); (try (refine gate_guard (by rfl) ?_; dsimp only)); refine Kd.R_make (Kd.int .i64) _ 3 rfl (N := 65) rfl 42 _ _ rfl ji27 rfl rfl Try.underlying42 (.int .i64 0) 8 info3 rfl (by decide) (by omega) 0 (ok := fun _ => True) (okp := fun _ => True) rfl (fun _ hk => hk) trivial (of_decide_eq_true (by first | (with_reducible assumption) | assumption)) (Nat.le_trans (Nat.mul_le_mul_right _ (of_decide_eq_true (by first | (with_reducible assumption) | assumption) : ji27.toNat ≤ 35184372088832)) (by omega)) (Below.refl _ _) (Nat.le_refl _) ?_; intro v303 w32 ho33 hb hg_ hnew_; clear hg_ hnew_; (first | rw [← Ny302.out] at ho33 | (simp only [Int.reduceToNat] at ho33; rw [← Ny302.out] at ho33)); have n0_ := Aside0.mk (Kd.R_below (by (with_reducible repeat (first | apply Kd.R_alloc | apply Kd.R_drewN | apply Kd.R_drew)); exact HO_5.out) hb); have n1_ := Aside0.mk (Kd.R_below (by (with_reducible repeat (first | apply Kd.R_alloc | apply Kd.R_drewN | apply Kd.R_drew)); exact HO_28.out) hb); have n2_ := Aside0.mk (Kd.R_below (by (with_reducible repeat (first | apply Kd.R_alloc | apply Kd.R_drewN | apply Kd.R_drew)); exact HO301.out) hb); have n3_ := Aside0.mk (Kd.R_lower ho33 (below_size (by repeat (first | (with_reducible first | exact HB.out | apply below_alloc | apply pw_below_drewN | apply below_drew1) | exact HB.out)))); have n4_ := Aside0.mk (below_step (by repeat (first | (with_reducible first | exact HB.out | apply below_alloc | apply pw_below_drewN | apply below_drew1) | exact HB.out)) hb); clear HO_5; clear HO_28; clear HO301; clear HB; have HO_5 := n0_; have HO_28 := n1_; have HO301 := n2_; have HO304 := n3_; have HB := n4_; clear n0_ n1_ n2_ n3_ n4_; clear hb ho33))
                  go_loopg [68] k2 (fun kq v68 w' => ∃ (x11_3 : List Int) (x68_3 : Int), v68 = .int .i64 x68_3 ∧ Aside0 (hornbeamlaw10_EdgesEven.l2 kq a1 t290 t299 x11_3 t290 (t290.length : Int) x68_3 = some r) ∧ Aside0 (kq ≤ k2) ∧ Aside0 (Kd.R Flt.kf 23 w' w.heap.size (fun k_ => some k_ ≠ ((.slice Ao31 t299.length co31) : Value).ownBlock) (.slice Ao10 t290.length co10) t290) ∧ Aside0 (Kd.R Flt.kf 23 w' w.heap.size (fun k_ => some k_ ≠ ((.slice Ao10 t290.length co10) : Value).ownBlock ∧ some k_ ≠ ((.slice Ao10 t290.length co10) : Value).ownBlock) (.slice Ao31 t299.length co31) t299) ∧ Aside0 (Kd.R (Kd.int .i64) 3 w' w.heap.size (fun _ => True) v303 x11_3) ∧ Aside0 (Kd.R Flt.kf 23 w' w.heap.size (fun k_ => some k_ ≠ ((.slice Ao31 t299.length co31) : Value).ownBlock) (.slice Ao10 t290.length co10) t290) ∧ Aside0 (Below w.heap.size w w'))
                  case atStart => exact ⟨(y302), (0), (by first | rfl | (simp; done) | (simp [*]; done)), H', ⟨Nat.le_refl _⟩, ⟨by (with_reducible repeat (first | apply Kd.R_alloc | apply Kd.R_drewN | apply Kd.R_drew)); exact Kd.R_mono HO_5.out (fun _ hk => hk.2)⟩, ⟨by (with_reducible repeat (first | apply Kd.R_alloc | apply Kd.R_drewN | apply Kd.R_drew)); exact Kd.R_mono HO301.out (fun _ hk => ⟨hk.1.2, hk.1.2⟩)⟩, ⟨by (with_reducible repeat (first | apply Kd.R_alloc | apply Kd.R_drewN | apply Kd.R_drew)); exact HO304.out⟩, ⟨by (with_reducible repeat (first | apply Kd.R_alloc | apply Kd.R_drewN | apply Kd.R_drew)); exact Kd.R_mono HO_5.out (fun _ hk => hk.2)⟩, ⟨by repeat (first | (with_reducible first | exact HB.out | apply below_alloc | apply pw_below_drewN | apply below_drew1) | exact HB.out)⟩⟩
                  case round =>
                    clear H'
                    try clear c1
                    try clear c2
                    try clear p2
                    try clear q2
                    try clear hx2
                    try clear c3
                    try clear c4
                    try clear c4b0
                    try clear c4b1
                    try clear c5
                    try clear p6
                    try clear c9
                    try clear c11
                    try clear c11b0
                    try clear c12
                    try clear c12b0
                    try clear c13
                    try clear c13b0
                    try clear c14
                    try clear c14b0
                    try clear c15
                    try clear c15b0
                    try clear c16
                    try clear c16b0
                    try clear c18
                    try clear c21
                    try clear c21b0
                    try clear c21b1
                    try clear c23
                    try clear c23b0
                    try clear c23b1
                    try clear c28
                    try clear c28b0
                    try clear c28b1
                    try clear c29
                    try clear c29b0
                    try clear c29b1
                    try clear p29
                    try clear q29
                    try clear hx29
                    try clear c32
                    try clear c33
                    try clear hx293_0
                    try clear hx294_0
                    try clear p2
                    try clear p293
                    try clear p294
                    try clear q2
                    try clear q293
                    try clear q294
                    obtain ⟨x11_3, x68_3, rfl, HA, HK3, HO_5, HO_10, HO_11, HO_66, HB⟩ := hrel
                    cases gk with
                    | zero => exact absurd HA.out (by simp [hornbeamlaw10_EdgesEven.l2])
                    | succ k3 =>
                      have H := HA.out
                      clear HA
                      simp only [hornbeamlaw10_EdgesEven.l2] at H
                      by_cases c34 : x68_3 < (t290.length : Int)
                      · rw [if_pos c34] at H
                        have c34b0 : decide (x68_3 < (t290.length : Int)) = true := decide_eq_true c34
                        clear c34
                        by_cases c35 : 0 ≤ x68_3
                        · rw [if_pos c35] at H
                          have c35b0 : decide (0 ≤ x68_3) = true := decide_eq_true c35
                          clear c35
                          by_cases c36 : x68_3 < (t290.length : Int)
                          · rw [if_pos c36] at H
                            have c36b0 : decide (x68_3 < (t290.length : Int)) = true := decide_eq_true c36
                            clear c36
                            replace H := Option.bind_eq_some_iff.mp H
                            obtain ⟨t306, A370, H⟩ := H
                            replace H : (if t306 < 1 then (some false) else (if t306 ≥ (x11_3.length : Int) then (some false) else (if 0 ≤ t306 then (if t306 < (x11_3.length : Int) then (hornbeamlaw10_EdgesEven.l2 k3 a1 t290 t299 (x11_3.set (t306 : Int).toNat (wrap64 ((rd x11_3 t306) + 1))) t290 (t290.length : Int) (wrap64 (x68_3 + 1))) else (none)) else (none)))) = some r := H
                            have A37 := Aside0.mk A370
                            clear A370
                            by_cases c38 : t306 < 1
                            · rw [if_pos c38] at H
                              have c38b0 : decide (t306 < 1) = true := decide_eq_true c38
                              clear c38
                              obtain rfl := Option.some.inj H
                              have p305 : 0 ≤ (x68_3 : Int) := of_decide_eq_true (by first | (with_reducible assumption) | assumption)
                              have q305 : x68_3 < (t290.length : Int) := of_decide_eq_true (by first | (with_reducible assumption) | assumption)
                              obtain ⟨ad305, e305, hx305_0⟩ := Flt.at_kf (Kd.R_reads' HO_66.out).2.2 x68_3 p305 q305
                              cases e305
                              replace p305 := eq_true p305
                              replace q305 := eq_true q305
                              go_wp2_with (first | ((with_reducible refine gate_callee (f := 34) rfl ?_); refine goesL_ (some 74) rfl rfl Try.func34 (by kernel_rfl) rfl #[.slice Ao31 t299.length co31, .float .f64 (rdOf (0 : Nat) t290 x68_3)] rfl (by (try simp only [List.map_toArray, List.map_cons, List.map_nil]); first | done | rfl | (simp only [List.length_drop, List.length_take]; rfl)) ?_; (with_reducible refine (edges_Bin.calls k3 _ _ t299 (rdOf (0 : Nat) t290 x68_3) t306 _ ?side1 ?side2 A37.out).mono ?_); (case side1 => repeat (first | exact (Kd.R_reads' HO_10.out).2.2 | (with_reducible refine Kd.C_alloc ?_ _) | (with_reducible refine Kd.C_drewN ?_ _) | (with_reducible refine Kd.C_drew ?_))); (case side2 => exact (Kd.R_reads' HO_10.out).2.1); rintro e w' ⟨rfl, ⟨nd, rfl⟩⟩; refine ⟨_, rfl, ?_⟩))
                              go_ret
                              exact ⟨by first | rfl | (simp [errW_none, errW_some] <;> rfl) | (simp only [← hji27]; first | rfl | (simp [errW_none, errW_some] <;> rfl)) | (simp [*, errW_none, errW_some] <;> rfl), by repeat (first | (with_reducible first | exact HB.out | apply below_alloc | apply pw_below_drewN | apply below_drew1) | exact HB.out)⟩
                            · rw [if_neg c38] at H
                              have c38b0 : decide (t306 < 1) = false := decide_eq_false c38
                              clear c38
                              by_cases c39 : t306 ≥ (x11_3.length : Int)
                              · rw [if_pos c39] at H
                                have c39b0 : decide ((x11_3.length : Int) ≤ t306) = true := decide_eq_true c39
                                clear c39
                                obtain rfl := Option.some.inj H
                                have p305 : 0 ≤ (x68_3 : Int) := of_decide_eq_true (by first | (with_reducible assumption) | assumption)
                                have q305 : x68_3 < (t290.length : Int) := of_decide_eq_true (by first | (with_reducible assumption) | assumption)
                                obtain ⟨ad305, e305, hx305_0⟩ := Flt.at_kf (Kd.R_reads' HO_66.out).2.2 x68_3 p305 q305
                                cases e305
                                replace p305 := eq_true p305
                                replace q305 := eq_true q305
                                go_wp2_with (first | ((with_reducible refine gate_callee (f := 34) rfl ?_); refine goesL_ (some 74) rfl rfl Try.func34 (by kernel_rfl) rfl #[.slice Ao31 t299.length co31, .float .f64 (rdOf (0 : Nat) t290 x68_3)] rfl (by (try simp only [List.map_toArray, List.map_cons, List.map_nil]); first | done | rfl | (simp only [List.length_drop, List.length_take]; rfl)) ?_; (with_reducible refine (edges_Bin.calls k3 _ _ t299 (rdOf (0 : Nat) t290 x68_3) t306 _ ?side1 ?side2 A37.out).mono ?_); (case side1 => repeat (first | exact (Kd.R_reads' HO_10.out).2.2 | (with_reducible refine Kd.C_alloc ?_ _) | (with_reducible refine Kd.C_drewN ?_ _) | (with_reducible refine Kd.C_drew ?_))); (case side2 => exact (Kd.R_reads' HO_10.out).2.1); rintro e w' ⟨rfl, ⟨nd, rfl⟩⟩; refine ⟨_, rfl, ?_⟩; obtain ⟨Ao40, co40, eo40⟩ := Kd.R_slice HO_11.out; subst eo40))
                                go_ret
                                exact ⟨by first | rfl | (simp [errW_none, errW_some] <;> rfl) | (simp only [← hji27]; first | rfl | (simp [errW_none, errW_some] <;> rfl)) | (simp [*, errW_none, errW_some] <;> rfl), by repeat (first | (with_reducible first | exact HB.out | apply below_alloc | apply pw_below_drewN | apply below_drew1) | exact HB.out)⟩
                              · rw [if_neg c39] at H
                                have c39b0 : decide ((x11_3.length : Int) ≤ t306) = false := decide_eq_false c39
                                clear c39
                                by_cases c41 : 0 ≤ t306
                                · rw [if_pos c41] at H
                                  have c41b0 : decide (0 ≤ t306) = true := decide_eq_true c41
                                  clear c41
                                  by_cases c42 : t306 < (x11_3.length : Int)
                                  · rw [if_pos c42] at H
                                    have c42b0 : decide (t306 < (x11_3.length : Int)) = true := decide_eq_true c42
                                    clear c42
                                    obtain ⟨y308, hy308⟩ : ∃ y_ : List Int, y_ = (x11_3.set (t306 : Int).toNat (wrap64 ((rd x11_3 t306) + 1))) := ⟨_, rfl⟩
                                    replace H : (hornbeamlaw10_EdgesEven.l2 k3 a1 t290 t299 y308 t290 (t290.length : Int) (wrap64 (x68_3 + 1))) = some r := by first | (rw [hy308]; with_reducible exact H) | (have H2_ := (Option.bind_some _ _).symm.trans H; rw [hy308]; with_reducible exact H2_) | (have H2_ := (Option.bind_some _ _).symm.trans H; with_reducible exact H2_) | with_reducible exact H | (rw [hy308]; exact H) | exact H
                                    have Ny308 := Aside0.mk hy308
                                    clear hy308
                                    have H' := Aside0.mk H
                                    clear H
                                    have p305 : 0 ≤ (x68_3 : Int) := of_decide_eq_true (by first | (with_reducible assumption) | assumption)
                                    have q305 : x68_3 < (t290.length : Int) := of_decide_eq_true (by first | (with_reducible assumption) | assumption)
                                    obtain ⟨ad305, e305, hx305_0⟩ := Flt.at_kf (Kd.R_reads' HO_66.out).2.2 x68_3 p305 q305
                                    cases e305
                                    replace p305 := eq_true p305
                                    replace q305 := eq_true q305
                                    go_wp2_with (first | ((with_reducible refine gate_callee (f := 34) rfl ?_); refine goesL_ (some 74) rfl rfl Try.func34 (by kernel_rfl) rfl #[.slice Ao31 t299.length co31, .float .f64 (rdOf (0 : Nat) t290 x68_3)] rfl (by (try simp only [List.map_toArray, List.map_cons, List.map_nil]); first | done | rfl | (simp only [List.length_drop, List.length_take]; rfl)) ?_; (with_reducible refine (edges_Bin.calls k3 _ _ t299 (rdOf (0 : Nat) t290 x68_3) t306 _ ?side1 ?side2 A37.out).mono ?_); (case side1 => repeat (first | exact (Kd.R_reads' HO_10.out).2.2 | (with_reducible refine Kd.C_alloc ?_ _) | (with_reducible refine Kd.C_drewN ?_ _) | (with_reducible refine Kd.C_drew ?_))); (case side2 => exact (Kd.R_reads' HO_10.out).2.1); rintro e w' ⟨rfl, ⟨nd, rfl⟩⟩; refine ⟨_, rfl, ?_⟩; (try (rw [drewN_self wr]; generalize hq_ : World.drewN wr _ = wr; have n0_ : Aside0 (Kd.R Flt.kf 23 wr w.heap.size (fun k_ => some k_ ≠ (.slice (some ad305) t290.length co10 : Value).ownBlock ∧ some k_ ≠ (.slice (some ad305) t290.length co10 : Value).ownBlock) (.slice Ao31 t299.length co31) t299) := ⟨by rw [← hq_]; exact (by (with_reducible repeat (first | apply Kd.R_alloc | apply Kd.R_drewN | apply Kd.R_drew)); exact HO_10.out)⟩; have n1_ : Aside0 (Kd.R (Kd.int .i64) 3 wr w.heap.size (fun _ => True) v303 x11_3) := ⟨by rw [← hq_]; exact (by (with_reducible repeat (first | apply Kd.R_alloc | apply Kd.R_drewN | apply Kd.R_drew)); exact HO_11.out)⟩; have n2_ : Aside0 (Kd.R Flt.kf 23 wr w.heap.size (fun k_ => some k_ ≠ (.slice Ao31 t299.length co31 : Value).ownBlock) (.slice (some ad305) t290.length co10) t290) := ⟨by rw [← hq_]; exact (by (with_reducible repeat (first | apply Kd.R_alloc | apply Kd.R_drewN | apply Kd.R_drew)); exact HO_5.out)⟩; have n3_ : Aside0 (Kd.R Flt.kf 23 wr w.heap.size (fun k_ => some k_ ≠ (.slice Ao31 t299.length co31 : Value).ownBlock) (.slice (some ad305) t290.length co10) t290) := ⟨by rw [← hq_]; exact (by (with_reducible repeat (first | apply Kd.R_alloc | apply Kd.R_drewN | apply Kd.R_drew)); exact HO_66.out)⟩; have n4_ : Aside0 (Below w.heap.size w wr) := ⟨by rw [← hq_]; exact (by repeat (first | (with_reducible first | exact HB.out | apply below_alloc | apply pw_below_drewN | apply below_drew1) | exact HB.out))⟩; clear HO_10 HO_11 HO_5 HO_66 HB hq_; have HO_10 := n0_; have HO_11 := n1_; have HO_5 := n2_; have HO_66 := n3_; have HB := n4_; clear n0_ n1_ n2_ n3_ n4_)); obtain ⟨Ao44, co44, eo44⟩ := Kd.R_slice HO_11.out; subst eo44; have p307 : 0 ≤ (t306 : Int) := of_decide_eq_true (by first | (with_reducible assumption) | assumption); have q307 : t306 < (x11_3.length : Int) := of_decide_eq_true (by first | (with_reducible assumption) | assumption); obtain ⟨ad307, e307, hx307_0⟩ := Kd.at_int (Kd.R_reads' HO_11.out).2.2 t306 p307 q307; cases e307; replace p307 := eq_true p307; replace q307 := eq_true q307; have p43 : 0 ≤ (t306 : Int) := of_decide_eq_true (by first | (with_reducible assumption) | assumption); have q43 : (t306 : Int) < ((x11_3.length : Int) : Int) := of_decide_eq_true (by first | (with_reducible assumption) | assumption); obtain ⟨go43, co43, eo43, gb43, gl43, cl43, HG43⟩ := Kd.R_form HO_11.out (by omega); (first | cases eo43 | (injection eo43 with ea_ en_ ec_; (first | subst ea_ | (injection ea_ with ea_; subst ea_)); subst ec_; clear en_)); have GB43 := Aside0.mk gb43; have GG43 := Aside0.mk HG43; clear gb43 gl43 HG43; (first | simp only [add_plain] at hx307_0 | skip); obtain ⟨hx43_0, hf43_0⟩ := Kd.R_celln 0 HO_11.out (t306 : Int) p43 q43; replace p43 := eq_true p43; replace q43 := eq_true q43; obtain ⟨hy45_, hz45_⟩ := Kd.R_celln 0 HO_11.out (t306 : Int) (of_decide_eq_true (by first | (with_reducible assumption) | assumption)) (of_decide_eq_true (by first | (with_reducible assumption) | assumption)); have HP45 := Kd.R_putg HO_11.out (t306 : Int) (wrap64 ((rd x11_3 t306) + 1))) | ((with_reducible refine gate_store (t := 3) (p := 88) rfl ?_); refine store_event (t := 3) (p := 88) (v := ?vo_w46) (w1 := (wr.setCell ⟨go43, (t306 : Int).toNat, none⟩ (.int .i64 (wrap64 ((rd x11_3 t306) + 1))))) ?hg ?ho ?hn ?hr ?_; (case ho => rfl); (case hg => rfl); (case hn => rfl); (case hr => first | (go_simp; done) | (go_simp; rfl)); intro w46 hw; have hg : wr.grownBy w46 (some go43) := (by rw [hw]; exact HP45.2); have hp_ : Kd.R (Kd.int .i64) 3 w46 w.heap.size (fun _ => True) (.slice (some ⟨go43, 0, none⟩) x11_3.length co44) y308 := (by rw [hw, Ny308.out]; exact HP45.1); clear HP45; have n0_ := Aside0.mk (Kd.R_over' (v := (.slice (some ⟨go43, 0, none⟩) x11_3.length co44)) (by (with_reducible repeat (first | apply Kd.R_alloc | apply Kd.R_drewN | apply Kd.R_drew)); exact HO_5.out) (Kd.R_typed HO_11.out) (by decide) hg); have n1_ := Aside0.mk (Kd.R_over' (v := (.slice (some ⟨go43, 0, none⟩) x11_3.length co44)) (by (with_reducible repeat (first | apply Kd.R_alloc | apply Kd.R_drewN | apply Kd.R_drew)); exact HO_10.out) (Kd.R_typed HO_11.out) (by decide) hg); have n2_ := Aside0.mk (hp_); have n3_ := Aside0.mk (Kd.R_over' (v := (.slice (some ⟨go43, 0, none⟩) x11_3.length co44)) (by (with_reducible repeat (first | apply Kd.R_alloc | apply Kd.R_drewN | apply Kd.R_drew)); exact HO_66.out) (Kd.R_typed HO_11.out) (by decide) hg); have n4_ := Aside0.mk ((by rw [hw]; exact below_set (HB.out) GB43.out : Below w.heap.size w w46)); clear HO_5; clear HO_10; clear HO_11; clear HO_66; clear HB; have HO_5 := n0_; have HO_10 := n1_; have HO_11 := n2_; have HO_66 := n3_; have HB := n4_; clear n0_ n1_ n2_ n3_ n4_; clear hg hw hp_))
                                    go_roundg k3
                                    case measure => have := HJ2.out; have := HK2.out; have := HK3.out; omega
                                    case rel => exact ⟨(y308), (wrap64 (x68_3 + 1)), (by first | rfl | (simp; done) | (simp [*]; done)), H', ⟨by have := HJ2.out; have := HK2.out; have := HK3.out; omega⟩, ⟨by (with_reducible repeat (first | apply Kd.R_alloc | apply Kd.R_drewN | apply Kd.R_drew)); exact HO_5.out⟩, ⟨by (with_reducible repeat (first | apply Kd.R_alloc | apply Kd.R_drewN | apply Kd.R_drew)); exact HO_10.out⟩, ⟨by (with_reducible repeat (first | apply Kd.R_alloc | apply Kd.R_drewN | apply Kd.R_drew)); exact HO_11.out⟩, ⟨by (with_reducible repeat (first | apply Kd.R_alloc | apply Kd.R_drewN | apply Kd.R_drew)); exact HO_66.out⟩, ⟨by repeat (first | (with_reducible first | exact HB.out | apply below_alloc | apply pw_below_drewN | apply below_drew1) | exact HB.out)⟩⟩
                                  · rw [if_neg c42] at H
                                    exact absurd H (by simp)
                                · rw [if_neg c41] at H
                                  exact absurd H (by simp)
                          · rw [if_neg c36] at H
                            exact absurd H (by simp)
                        · rw [if_neg c35] at H
                          exact absurd H (by simp)
                      · rw [if_neg c34] at H
                        have c34b0 : decide (x68_3 < (t290.length : Int)) = false := decide_eq_false c34
                        clear c34
                        by_cases c47 : (wrap64 (a1)) = 0
                        · rw [if_pos c47] at H
                          exact absurd H (by simp)
                        · rw [if_neg c47] at H
                          have c47b0 : ((wrap64 (a1)) == 0) = false := beq_eq_false_iff_ne.mpr c47
                          have c47b1 : ((wrap64 (a1)) != 0) = true := bne_iff_ne.mpr c47
                          have H' := Aside0.mk H
                          clear H
                          obtain ⟨Ao48, co48, eo48⟩ := Kd.R_slice HO_11.out
                          subst eo48
                          go_wp2
                          go_loopg [101] k3 (fun kq v101 w' => ∃ (x101_4 : Int), v101 = .int .i64 x101_4 ∧ Aside0 (hornbeamlaw10_EdgesEven.l3 kq (wrap64 (Int.tdiv (wrap64 ((wrap64 ((t290.length : Int) + (wrap64 (a1)))) - 1)) (wrap64 (a1)))) x11_3 (x11_3.length : Int) x101_4 = some r) ∧ Aside0 (kq ≤ k3) ∧ Aside0 (Kd.R (Kd.int .i64) 3 w' w.heap.size (fun _ => True) (.slice Ao48 x11_3.length co48) x11_3) ∧ Aside0 (Below w.heap.size w w'))
                          case atStart => exact ⟨(0), (by first | rfl | (simp; done) | (simp [*]; done)), H', ⟨Nat.le_refl _⟩, ⟨by (with_reducible repeat (first | apply Kd.R_alloc | apply Kd.R_drewN | apply Kd.R_drew)); exact HO_11.out⟩, ⟨by repeat (first | (with_reducible first | exact HB.out | apply below_alloc | apply pw_below_drewN | apply below_drew1) | exact HB.out)⟩⟩
                          case round =>
                            clear H'
                            try clear c1
                            try clear c2
                            try clear p2
                            try clear q2
                            try clear hx2
                            try clear c3
                            try clear p3
                            try clear q3
                            try clear hx3
                            try clear c4
                            try clear c4b0
                            try clear c4b1
                            try clear p4
                            try clear q4
                            try clear hx4
                            try clear hf4
                            try clear c5
                            try clear p6
                            try clear c9
                            try clear c11
                            try clear c11b0
                            try clear c12
                            try clear c12b0
                            try clear c13
                            try clear c13b0
                            try clear c14
                            try clear c14b0
                            try clear c15
                            try clear c15b0
                            try clear c16
                            try clear c16b0
                            try clear c18
                            try clear c21
                            try clear c21b0
                            try clear c21b1
                            try clear c23
                            try clear c23b0
                            try clear c23b1
                            try clear c28
                            try clear c28b0
                            try clear c28b1
                            try clear c29
                            try clear c29b0
                            try clear c29b1
                            try clear p29
                            try clear q29
                            try clear hx29
                            try clear p30
                            try clear q30
                            try clear hx30
                            try clear c32
                            try clear c33
                            try clear c34
                            try clear c34b0
                            try clear c35
                            try clear c35b0
                            try clear c36
                            try clear c36b0
                            try clear c38
                            try clear c38b0
                            try clear c39
                            try clear c39b0
                            try clear c41
                            try clear c41b0
                            try clear c42
                            try clear c42b0
                            try clear p43
                            try clear q43
                            try clear hx43
                            try clear hf43
                            try clear c47
                            try clear c47b0
                            try clear c47b1
                            try clear hx293_0
                            try clear hx294_0
                            try clear hx305_0
                            try clear hx307_0
                            try clear hx43_0
                            try clear p2
                            try clear p29
                            try clear p293
                            try clear p294
                            try clear p305
                            try clear p307
                            try clear p43
                            try clear p6
                            try clear q2
                            try clear q29
                            try clear q293
                            try clear q294
                            try clear q305
                            try clear q307
                            try clear q43
                            obtain ⟨x101_4, rfl, HA, HK4, HO_99, HB⟩ := hrel
                            cases gk with
                            | zero => exact absurd HA.out (by simp [hornbeamlaw10_EdgesEven.l3])
                            | succ k4 =>
                              have H := HA.out
                              clear HA
                              simp only [hornbeamlaw10_EdgesEven.l3] at H
                              by_cases c49 : x101_4 < (x11_3.length : Int)
                              · rw [if_pos c49] at H
                                have c49b0 : decide (x101_4 < (x11_3.length : Int)) = true := decide_eq_true c49
                                clear c49
                                by_cases c50 : 0 ≤ x101_4
                                · rw [if_pos c50] at H
                                  have c50b0 : decide (0 ≤ x101_4) = true := decide_eq_true c50
                                  clear c50
                                  by_cases c51 : x101_4 < (x11_3.length : Int)
                                  · rw [if_pos c51] at H
                                    have c51b0 : decide (x101_4 < (x11_3.length : Int)) = true := decide_eq_true c51
                                    clear c51
                                    by_cases c52 : (rd x11_3 x101_4) > (wrap64 (Int.tdiv (wrap64 ((wrap64 ((t290.length : Int) + (wrap64 (a1)))) - 1)) (wrap64 (a1))))
                                    · rw [if_pos c52] at H
                                      have c52b0 : decide ((wrap64 (Int.tdiv (wrap64 ((wrap64 ((t290.length : Int) + (wrap64 (a1)))) - 1)) (wrap64 (a1)))) < (rd x11_3 x101_4)) = true := decide_eq_true c52
                                      clear c52
                                      obtain rfl := Option.some.inj H
                                      have p309 : 0 ≤ (x101_4 : Int) := of_decide_eq_true (by first | (with_reducible assumption) | assumption)
                                      have q309 : x101_4 < (x11_3.length : Int) := of_decide_eq_true (by first | (with_reducible assumption) | assumption)
                                      obtain ⟨ad309, e309, hx309_0⟩ := Kd.at_int (Kd.R_reads' HO_99.out).2.2 x101_4 p309 q309
                                      cases e309
                                      replace p309 := eq_true p309
                                      replace q309 := eq_true q309
                                      go_wp2
                                      go_ret
                                      exact ⟨by first | rfl | (simp [errW_none, errW_some] <;> rfl) | (simp only [← hji27]; first | rfl | (simp [errW_none, errW_some] <;> rfl)) | (simp [*, errW_none, errW_some] <;> rfl), by repeat (first | (with_reducible first | exact HB.out | apply below_alloc | apply pw_below_drewN | apply below_drew1) | exact HB.out)⟩
                                    · rw [if_neg c52] at H
                                      have c52b0 : decide ((wrap64 (Int.tdiv (wrap64 ((wrap64 ((t290.length : Int) + (wrap64 (a1)))) - 1)) (wrap64 (a1)))) < (rd x11_3 x101_4)) = false := decide_eq_false c52
                                      clear c52
                                      have H' := Aside0.mk H
                                      clear H
                                      have p309 : 0 ≤ (x101_4 : Int) := of_decide_eq_true (by first | (with_reducible assumption) | assumption)
                                      have q309 : x101_4 < (x11_3.length : Int) := of_decide_eq_true (by first | (with_reducible assumption) | assumption)
                                      obtain ⟨ad309, e309, hx309_0⟩ := Kd.at_int (Kd.R_reads' HO_99.out).2.2 x101_4 p309 q309
                                      cases e309
                                      replace p309 := eq_true p309
                                      replace q309 := eq_true q309
                                      go_wp2
                                      go_roundg k4
                                      case measure => have := HJ2.out; have := HK2.out; have := HK3.out; have := HK4.out; omega
                                      case rel => exact ⟨(wrap64 (x101_4 + 1)), (by first | rfl | (simp; done) | (simp [*]; done)), H', ⟨by have := HJ2.out; have := HK2.out; have := HK3.out; have := HK4.out; omega⟩, ⟨by (with_reducible repeat (first | apply Kd.R_alloc | apply Kd.R_drewN | apply Kd.R_drew)); exact HO_99.out⟩, ⟨by repeat (first | (with_reducible first | exact HB.out | apply below_alloc | apply pw_below_drewN | apply below_drew1) | exact HB.out)⟩⟩
                                  · rw [if_neg c51] at H
                                    exact absurd H (by simp)
                                · rw [if_neg c50] at H
                                  exact absurd H (by simp)
                              · rw [if_neg c49] at H
                                have c49b0 : decide (x101_4 < (x11_3.length : Int)) = false := decide_eq_false c49
                                clear c49
                                replace H := Option.bind_eq_some_iff.mp H
                                obtain ⟨t310, A530, H⟩ := H
                                replace H : (some t310) = some r := H
                                have A53 := Aside0.mk A530
                                clear A530
                                obtain rfl := Option.some.inj H
                                go_wp2_with (first | ((with_reducible refine gate_callee (f := 32) rfl ?_); refine goesL_ (some 109) rfl rfl Try.func32 (by kernel_rfl) rfl #[] rfl (by (try simp only [List.map_toArray, List.map_cons, List.map_nil]); first | done | rfl | (simp only [List.length_drop, List.length_take]; rfl)) ?_; (with_reducible refine (hornbeamlaw10_fixed.calls k4  t310 _ A53.out).mono ?_); rintro e w54 ⟨rfl, hb⟩; refine ⟨_, rfl, ?_⟩; have n0_ := Aside0.mk (Kd.R_below (by (with_reducible repeat (first | apply Kd.R_alloc | apply Kd.R_drewN | apply Kd.R_drew)); exact HO_99.out) hb); have n1_ := Aside0.mk (below_step (by repeat (first | (with_reducible first | exact HB.out | apply below_alloc | apply pw_below_drewN | apply below_drew1) | exact HB.out)) hb); clear HO_99; clear HB; have HO_99 := n0_; have HB := n1_; clear n0_ n1_; (try clear hb); (try clear hb2); (try clear hk); (try clear hi)))
                                go_ret
                                exact ⟨by first | rfl | (simp [errW_none, errW_some] <;> rfl) | (simp only [← hji27]; first | rfl | (simp [errW_none, errW_some] <;> rfl)) | (simp [*, errW_none, errW_some] <;> rfl), by repeat (first | (with_reducible first | exact HB.out | apply below_alloc | apply pw_below_drewN | apply below_drew1) | exact HB.out)⟩
                · rw [if_neg c29] at H
                  exact absurd H (by simp)
              · rw [if_neg c28] at H
                exact absurd H (by simp)

/-- What is left to prove of hornbeamlaw10_EdgesEven. -/
def hornbeamlaw10_EdgesEven.Pure : Prop := ∀ (l0 : List Int) (a1 : Int), ((l0.length ≤ 9223372036854775807 ∧ l0.length * 8 ≤ 140737488351232 ∧ ∀ x ∈ l0, (Lit.int .u64 x).wf = true)) → ((Lit.int .u8 a1).wf = true) → ∃ k, hornbeamlaw10_EdgesEven.f k l0 a1 = some true

end Go.Proofs.Ytlmmlhljflladaa.PA
