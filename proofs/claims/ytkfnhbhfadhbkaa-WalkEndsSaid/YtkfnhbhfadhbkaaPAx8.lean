-- Written by a program of this session (wip/hp) out of the translation of seat Ytkfnhbhfadhbkaa.
import Derived.Test.YtkfnhbhfadhbkaaPAx0
import Derived.Test.YtkfnhbhfadhbkaaPAx1
import Derived.Test.YtkfnhbhfadhbkaaPAx7
namespace Go.Proofs.Ytkfnhbhfadhbkaa.PA
open Go.RowKit Go.Proofs.YtkfnhbhfadhbkaaW.PrintWords Go.Proofs.YtkfnhbhfadhbkaaW.PrintLast Go.Proofs.YtkfnhbhfadhbkaaW.PrintMore
attribute [local go_sem] max2_int min2_int max_two min_two max_three min_three max_four min_four   -- for this text's walks alone
set_option linter.unusedVariables false
set_option linter.unusedSimpArgs false

/-! ### hornbeamlaw20_WalkEnds: function 4 -/
mutual
def hornbeamlaw20_WalkEnds.j0 : Nat → List (S29) → List Int → Int → Int → Option (Bool)
  | 0, _, _, _, _ => none
  | k + 1, x0, x1, x7, x8 => if (x0.length : Int) > 300 then (hornbeamlaw20_WalkEnds.j1 k x0 x1 true) else (if (x1.length : Int) > 100 then (hornbeamlaw20_WalkEnds.j1 k x0 x1 true) else ((hornbeamref18_Right.f k x0 (x1.length : Int) 256 x7 x8).bind fun t141 => (hornbeamlaw20_WalkEnds.j1 k x0 x1 (!t141))))
def hornbeamlaw20_WalkEnds.j1 : Nat → List (S29) → List Int → Bool → Option (Bool)
  | 0, _, _, _ => none
  | k + 1, x0, x1, x29 => if x29 = true then ((hornbeamlaw20_fixed.f).bind fun t142 => (some t142)) else ((walk_Place.f x0 x1).bind fun t143 => (if t143 < 0 then (hornbeamlaw20_WalkEnds.j2 k x0 x1 t143 true) else (if t143 ≥ (x0.length : Int) then (hornbeamlaw20_WalkEnds.j2 k x0 x1 t143 true) else (if 0 ≤ t143 then (if t143 < (x0.length : Int) then (hornbeamlaw20_WalkEnds.j2 k x0 x1 t143 (((rd_T29 x0 t143).f0) != (-1))) else (none)) else (none)))))
def hornbeamlaw20_WalkEnds.j2 : Nat → List (S29) → List Int → Int → Bool → Option (Bool)
  | 0, _, _, _, _ => none
  | k + 1, x0, x1, x9, x49 => if x49 = true then (some false) else (hornbeamlaw20_WalkEnds.l0 k x0 x1 x9 (wrap64 ((x0.length : Int) - 1)))
def hornbeamlaw20_WalkEnds.l0 : Nat → List (S29) → List Int → Int → Int → Option (Bool)
  | 0, _, _, _, _ => none
  | k + 1, x0, x1, x9, x10 => if x10 ≥ 0 then (if 0 ≤ x10 then (if x10 < (x0.length : Int) then (if ((rd_T29 x0 x10).f0) < 0 then (hornbeamlaw20_WalkEnds.j4 k x0 x1 x9 x10 true ((rd_T29 x0 x10).f0) ((rd_T29 x0 x10).f1) ((rd_T29 x0 x10).f2) ((rd_T29 x0 x10).f3) ((rd_T29 x0 x10).f4) ((rd_T29 x0 x10).f5)) else (if x9 = ((rd_T29 x0 x10).f2) then (hornbeamlaw20_WalkEnds.j4 k x0 x1 x9 x10 false ((rd_T29 x0 x10).f0) ((rd_T29 x0 x10).f1) ((rd_T29 x0 x10).f2) ((rd_T29 x0 x10).f3) ((rd_T29 x0 x10).f4) ((rd_T29 x0 x10).f5)) else (hornbeamlaw20_WalkEnds.j4 k x0 x1 x9 x10 (x9 != (wrap64 (((rd_T29 x0 x10).f2) + 1))) ((rd_T29 x0 x10).f0) ((rd_T29 x0 x10).f1) ((rd_T29 x0 x10).f2) ((rd_T29 x0 x10).f3) ((rd_T29 x0 x10).f4) ((rd_T29 x0 x10).f5)))) else (none)) else (none)) else ((hornbeamlaw20_fixed.f).bind fun t145 => (if t145 = true then (some (x9 == 0)) else (some false)))
def hornbeamlaw20_WalkEnds.j4 : Nat → List (S29) → List Int → Int → Int → Bool → Int → Int → Int → Int → Int → Int → Option (Bool)
  | 0, _, _, _, _, _, _, _, _, _, _, _ => none
  | k + 1, x0, x1, x9, x10, x76, x148000, x148001, x148002, x148003, x148004, x148005 => if x76 = true then (hornbeamlaw20_WalkEnds.l0 k x0 x1 x9 (wrap64 (x10 - 1))) else (if 0 ≤ x148000 then (if x148000 < (x1.length : Int) then (if ((decide ((rd x1 x148000) ≤ x148001)) != (x9 == x148002)) = true then (some false) else (hornbeamlaw20_WalkEnds.l0 k x0 x1 x10 (wrap64 (x10 - 1)))) else (none)) else (none))
end
def hornbeamlaw20_WalkEnds.f (k : Nat) (l0 : List (S29)) (l1 : List Int) (a2 : Bool) : Option (Bool) := if a2 = true then (hornbeamlaw20_WalkEnds.j0 k l0 l1 1 0) else (hornbeamlaw20_WalkEnds.j0 k l0 l1 0 256)
theorem hornbeamlaw20_WalkEnds.mono_l : ∀ k, (∀ y0 y1 y2 y3, LeO (hornbeamlaw20_WalkEnds.j0 k y0 y1 y2 y3) (hornbeamlaw20_WalkEnds.j0 (k + 1) y0 y1 y2 y3)) ∧ (∀ y0 y1 y2, LeO (hornbeamlaw20_WalkEnds.j1 k y0 y1 y2) (hornbeamlaw20_WalkEnds.j1 (k + 1) y0 y1 y2)) ∧ (∀ y0 y1 y2 y3, LeO (hornbeamlaw20_WalkEnds.j2 k y0 y1 y2 y3) (hornbeamlaw20_WalkEnds.j2 (k + 1) y0 y1 y2 y3)) ∧ (∀ y0 y1 y2 y3, LeO (hornbeamlaw20_WalkEnds.l0 k y0 y1 y2 y3) (hornbeamlaw20_WalkEnds.l0 (k + 1) y0 y1 y2 y3)) ∧ (∀ y0 y1 y2 y3 y4 y5 y6 y7 y8 y9 y10, LeO (hornbeamlaw20_WalkEnds.j4 k y0 y1 y2 y3 y4 y5 y6 y7 y8 y9 y10) (hornbeamlaw20_WalkEnds.j4 (k + 1) y0 y1 y2 y3 y4 y5 y6 y7 y8 y9 y10))
  | 0 => ⟨fun _ _ _ _ r h => by simp [hornbeamlaw20_WalkEnds.j0] at h, fun _ _ _ r h => by simp [hornbeamlaw20_WalkEnds.j1] at h, fun _ _ _ _ r h => by simp [hornbeamlaw20_WalkEnds.j2] at h, fun _ _ _ _ r h => by simp [hornbeamlaw20_WalkEnds.l0] at h, fun _ _ _ _ _ _ _ _ _ _ _ r h => by simp [hornbeamlaw20_WalkEnds.j4] at h⟩
  | k + 1 => by
    obtain ⟨ih0, ih1, ih2, ih3, ih4⟩ := hornbeamlaw20_WalkEnds.mono_l k
    refine ⟨?_, ?_, ?_, ?_, ?_⟩
    · intro y0 y1 y2 y3
      unfold hornbeamlaw20_WalkEnds.j0
      repeat' first
      | (with_reducible exact ih0 _ _ _ _)
      | (with_reducible exact ih1 _ _ _)
      | (with_reducible exact ih2 _ _ _ _)
      | (with_reducible exact ih3 _ _ _ _)
      | (with_reducible exact ih4 _ _ _ _ _ _ _ _ _ _ _)
      | (with_reducible exact hornbeamref18_Right.mono _ _ _ _ _ _)
      | (with_reducible exact LeO.refl _)
      | (with_reducible exact LeO.none _)
      | (with_reducible refine LeO.ite ?_ ?_)
      | (with_reducible refine LeO.bind ?_ (fun _ => ?_))
      | exact ih0 _ _ _ _
      | exact ih1 _ _ _
      | exact ih2 _ _ _ _
      | exact ih3 _ _ _ _
      | exact ih4 _ _ _ _ _ _ _ _ _ _ _
      | exact hornbeamref18_Right.mono _ _ _ _ _ _
      | exact LeO.none _
      | refine LeO.ite ?_ ?_
      | refine LeO.bind ?_ (fun _ => ?_)
    · intro y0 y1 y2
      unfold hornbeamlaw20_WalkEnds.j1
      repeat' first
      | (with_reducible exact ih0 _ _ _ _)
      | (with_reducible exact ih1 _ _ _)
      | (with_reducible exact ih2 _ _ _ _)
      | (with_reducible exact ih3 _ _ _ _)
      | (with_reducible exact ih4 _ _ _ _ _ _ _ _ _ _ _)
      | (with_reducible exact hornbeamref18_Right.mono _ _ _ _ _ _)
      | (with_reducible exact LeO.refl _)
      | (with_reducible exact LeO.none _)
      | (with_reducible refine LeO.ite ?_ ?_)
      | (with_reducible refine LeO.bind ?_ (fun _ => ?_))
      | exact ih0 _ _ _ _
      | exact ih1 _ _ _
      | exact ih2 _ _ _ _
      | exact ih3 _ _ _ _
      | exact ih4 _ _ _ _ _ _ _ _ _ _ _
      | exact hornbeamref18_Right.mono _ _ _ _ _ _
      | exact LeO.none _
      | refine LeO.ite ?_ ?_
      | refine LeO.bind ?_ (fun _ => ?_)
    · intro y0 y1 y2 y3
      unfold hornbeamlaw20_WalkEnds.j2
      repeat' first
      | (with_reducible exact ih0 _ _ _ _)
      | (with_reducible exact ih1 _ _ _)
      | (with_reducible exact ih2 _ _ _ _)
      | (with_reducible exact ih3 _ _ _ _)
      | (with_reducible exact ih4 _ _ _ _ _ _ _ _ _ _ _)
      | (with_reducible exact hornbeamref18_Right.mono _ _ _ _ _ _)
      | (with_reducible exact LeO.refl _)
      | (with_reducible exact LeO.none _)
      | (with_reducible refine LeO.ite ?_ ?_)
      | (with_reducible refine LeO.bind ?_ (fun _ => ?_))
      | exact ih0 _ _ _ _
      | exact ih1 _ _ _
      | exact ih2 _ _ _ _
      | exact ih3 _ _ _ _
      | exact ih4 _ _ _ _ _ _ _ _ _ _ _
      | exact hornbeamref18_Right.mono _ _ _ _ _ _
      | exact LeO.none _
      | refine LeO.ite ?_ ?_
      | refine LeO.bind ?_ (fun _ => ?_)
    · intro y0 y1 y2 y3
      unfold hornbeamlaw20_WalkEnds.l0
      repeat' first
      | (with_reducible exact ih0 _ _ _ _)
      | (with_reducible exact ih1 _ _ _)
      | (with_reducible exact ih2 _ _ _ _)
      | (with_reducible exact ih3 _ _ _ _)
      | (with_reducible exact ih4 _ _ _ _ _ _ _ _ _ _ _)
      | (with_reducible exact hornbeamref18_Right.mono _ _ _ _ _ _)
      | (with_reducible exact LeO.refl _)
      | (with_reducible exact LeO.none _)
      | (with_reducible refine LeO.ite ?_ ?_)
      | (with_reducible refine LeO.bind ?_ (fun _ => ?_))
      | exact ih0 _ _ _ _
      | exact ih1 _ _ _
      | exact ih2 _ _ _ _
      | exact ih3 _ _ _ _
      | exact ih4 _ _ _ _ _ _ _ _ _ _ _
      | exact hornbeamref18_Right.mono _ _ _ _ _ _
      | exact LeO.none _
      | refine LeO.ite ?_ ?_
      | refine LeO.bind ?_ (fun _ => ?_)
    · intro y0 y1 y2 y3 y4 y5 y6 y7 y8 y9 y10
      unfold hornbeamlaw20_WalkEnds.j4
      repeat' first
      | (with_reducible exact ih0 _ _ _ _)
      | (with_reducible exact ih1 _ _ _)
      | (with_reducible exact ih2 _ _ _ _)
      | (with_reducible exact ih3 _ _ _ _)
      | (with_reducible exact ih4 _ _ _ _ _ _ _ _ _ _ _)
      | (with_reducible exact hornbeamref18_Right.mono _ _ _ _ _ _)
      | (with_reducible exact LeO.refl _)
      | (with_reducible exact LeO.none _)
      | (with_reducible refine LeO.ite ?_ ?_)
      | (with_reducible refine LeO.bind ?_ (fun _ => ?_))
      | exact ih0 _ _ _ _
      | exact ih1 _ _ _
      | exact ih2 _ _ _ _
      | exact ih3 _ _ _ _
      | exact ih4 _ _ _ _ _ _ _ _ _ _ _
      | exact hornbeamref18_Right.mono _ _ _ _ _ _
      | exact LeO.none _
      | refine LeO.ite ?_ ?_
      | refine LeO.bind ?_ (fun _ => ?_)
theorem hornbeamlaw20_WalkEnds.mono : ∀ a0 a1 a2 k, LeO (hornbeamlaw20_WalkEnds.f k a0 a1 a2) (hornbeamlaw20_WalkEnds.f (k + 1) a0 a1 a2) := by
  intro a0 a1 a2 k
  obtain ⟨ih0, ih1, ih2, ih3, ih4⟩ := hornbeamlaw20_WalkEnds.mono_l k
  unfold hornbeamlaw20_WalkEnds.f
  repeat' first
      | (with_reducible exact ih0 _ _ _ _)
      | (with_reducible exact ih1 _ _ _)
      | (with_reducible exact ih2 _ _ _ _)
      | (with_reducible exact ih3 _ _ _ _)
      | (with_reducible exact ih4 _ _ _ _ _ _ _ _ _ _ _)
      | (with_reducible exact hornbeamref18_Right.mono _ _ _ _ _ _)
      | (with_reducible exact LeO.refl _)
      | (with_reducible exact LeO.none _)
      | (with_reducible refine LeO.ite ?_ ?_)
      | (with_reducible refine LeO.bind ?_ (fun _ => ?_))
      | exact ih0 _ _ _ _
      | exact ih1 _ _ _
      | exact ih2 _ _ _ _
      | exact ih3 _ _ _ _
      | exact ih4 _ _ _ _ _ _ _ _ _ _ _
      | exact hornbeamref18_Right.mono _ _ _ _ _ _
      | exact LeO.none _
      | refine LeO.ite ?_ ?_
      | refine LeO.bind ?_ (fun _ => ?_)
set_option maxHeartbeats 8000000 in
set_option maxRecDepth 100000 in
theorem hornbeamlaw20_WalkEnds.calls (k : Nat) (A0 : Option Addr) (c0 : Nat) (l0 : List (S29)) (A1 : Option Addr) (c1 : Nat) (l1 : List Int) (a2 : Bool) (r : Bool) (w : World) (hr0 : Kd.C k29 w A0 l0.length l0) (hc0 : l0.length ≤ c0) (hr1 : Kd.C (Kd.int .i64) w A1 l1.length l1) (hc1 : l1.length ≤ c1) (h : hornbeamlaw20_WalkEnds.f k l0 l1 a2 = some r) :
    Calls Try.prog 4 #[.slice A0 l0.length c0, .slice A1 l1.length c1, .bool a2] w fun e w' => e = .returned (.bool r) ∧ Below w.heap.size w w' := by
  have hu29 := Try.underlying29
  have HR0 := Aside0.mk hr0
  have HC0 := Aside0.mk hc0
  clear hr0 hc0
  have HR1 := Aside0.mk hr1
  have HC1 := Aside0.mk hc1
  clear hr1 hc1
  have HB := Aside0.mk (Below.refl w.heap.size w)
  have H : (if a2 = true then (hornbeamlaw20_WalkEnds.j0 k l0 l1 1 0) else (hornbeamlaw20_WalkEnds.j0 k l0 l1 0 256)) = some r := h
  clear h
  have HC4 := Aside0.mk H
  clear H
  go_enter Try.func4, Try.ntmps4
  go_upto_if 12 with (fail)
  repeat (go_quiet (fail); go_upto_if 12 with (fail))
  go_cut [7, 8] (fun v7 v8 wc => ∃ (kq : Nat) (x7_3 : Int) (x8_3 : Int), v7 = .int .i64 x7_3 ∧ v8 = .int .i64 x8_3 ∧ Aside0 (hornbeamlaw20_WalkEnds.j0 kq l0 l1 x7_3 x8_3 = some r) ∧ Aside0 (kq ≤ k) ∧ Aside0 (Below w.heap.size w wc))
  case first =>
    have H := HC4.out
    clear HC4
    by_cases c5 : a2 = true
    · subst c5
      have H1 : (hornbeamlaw20_WalkEnds.j0 k l0 l1 1 0) = some r := by rw [if_pos rfl] at H; exact H
      clear H
      have H := H1
      clear H1
      have H' := Aside0.mk H
      clear H
      go_wp2
      repeat (go_quiet (fail); try go_wp2)
      go_meet
      case rel => exact ⟨_, (1), (0), (by first | rfl | (simp; done) | (simp [*]; done)), (by first | rfl | (simp; done) | (simp [*]; done)), H', ⟨by first | omega | exact Nat.le_refl _⟩, ⟨by repeat (first | (with_reducible first | exact HB.out | apply below_alloc | apply pw_below_drewN | apply below_drew1) | exact HB.out)⟩⟩
    · replace c5 := Bool.eq_false_iff.mpr c5
      subst c5
      have H1 : (hornbeamlaw20_WalkEnds.j0 k l0 l1 0 256) = some r := by rw [if_neg (show ¬ (false = true) by decide)] at H; exact H
      clear H
      have H := H1
      clear H1
      have H' := Aside0.mk H
      clear H
      go_wp2
      repeat (go_quiet (fail); try go_wp2)
      go_meet
      case rel => exact ⟨_, (0), (256), (by first | rfl | (simp; done) | (simp [*]; done)), (by first | rfl | (simp; done) | (simp [*]; done)), H', ⟨by first | omega | exact Nat.le_refl _⟩, ⟨by repeat (first | (with_reducible first | exact HB.out | apply below_alloc | apply pw_below_drewN | apply below_drew1) | exact HB.out)⟩⟩
  case rest =>
    clear HC4
    try clear c1
    try clear p2
    try clear c4
    try clear c5
    obtain ⟨kq, x7_3, x8_3, rfl, rfl, HA, HJ3, HB⟩ := hcut
    cases kq with
    | zero => exact absurd HA.out (by simp [hornbeamlaw20_WalkEnds.j0])
    | succ kj3 =>
      have H := HA.out
      clear HA
      simp only [hornbeamlaw20_WalkEnds.j0] at H
      have HC6 := Aside0.mk H
      clear H
      go_upto_region 4 with (fail)
      repeat (go_quiet (fail); go_upto_region 4 with (fail))
      go_cut [29] (fun v29 wc => ∃ (kq : Nat) (x29_5 : Bool), v29 = .bool x29_5 ∧ Aside0 (hornbeamlaw20_WalkEnds.j1 kq l0 l1 x29_5 = some r) ∧ Aside0 (kq ≤ kj3) ∧ Aside0 (Below w.heap.size w wc))
      case first =>
        have H := HC6.out
        clear HC6
        by_cases c7 : (l0.length : Int) > 300
        · rw [if_pos c7] at H
          have c7b0 : decide (300 < (l0.length : Int)) = true := decide_eq_true c7
          have c7b1 : decide (300 < l0.length) = true := decide_eq_true (by omega)
          clear c7
          (first | rw [c7b0] | (simp only [i64_w, i32_w]; rw [c7b0]) | skip)
          have H' := Aside0.mk H
          clear H
          go_wp2
          repeat (go_quiet (fail); try go_wp2)
          go_meet
          case rel => exact ⟨_, (true), (by first | rfl | (simp; done) | (simp [*]; done)), H', ⟨by have := HJ3.out; first | omega | exact Nat.le_refl _⟩, ⟨by repeat (first | (with_reducible first | exact HB.out | apply below_alloc | apply pw_below_drewN | apply below_drew1) | exact HB.out)⟩⟩
        · rw [if_neg c7] at H
          have c7b0 : decide (300 < (l0.length : Int)) = false := decide_eq_false c7
          have c7b1 : decide (300 < l0.length) = false := decide_eq_false (by omega)
          clear c7
          (first | rw [c7b0] | (simp only [i64_w, i32_w]; rw [c7b0]) | skip)
          by_cases c8 : (l1.length : Int) > 100
          · rw [if_pos c8] at H
            have c8b0 : decide (100 < (l1.length : Int)) = true := decide_eq_true c8
            have c8b1 : decide (100 < l1.length) = true := decide_eq_true (by omega)
            clear c8
            have H' := Aside0.mk H
            clear H
            go_wp2
            repeat (go_quiet (fail); try go_wp2)
            go_meet
            case rel => exact ⟨_, (true), (by first | rfl | (simp; done) | (simp [*]; done)), H', ⟨by have := HJ3.out; first | omega | exact Nat.le_refl _⟩, ⟨by repeat (first | (with_reducible first | exact HB.out | apply below_alloc | apply pw_below_drewN | apply below_drew1) | exact HB.out)⟩⟩
          · rw [if_neg c8] at H
            have c8b0 : decide (100 < (l1.length : Int)) = false := decide_eq_false c8
            have c8b1 : decide (100 < l1.length) = false := decide_eq_false (by omega)
            clear c8
            replace H := Option.bind_eq_some_iff.mp H
            obtain ⟨t141, A90, H⟩ := H
            replace H : (hornbeamlaw20_WalkEnds.j1 kj3 l0 l1 (!t141)) = some r := H
            have A9 := Aside0.mk A90
            clear A90
            have H' := Aside0.mk H
            clear H
            go_wp2_with (first | (go_at_call 13; (with_reducible refine (hornbeamref18_Right.calls kj3 _ _ l0 (l1.length : Int) 256 x7_3 x8_3 t141 _ ?side1 ?side2 A9.out).mono ?_); (case side1 => repeat (first | exact (Kd.C_below HR0.out HB.out) | (with_reducible refine Kd.C_alloc ?_ _) | (with_reducible refine Kd.C_drewN ?_ _) | (with_reducible refine Kd.C_drew ?_))); (case side2 => exact HC0.out); rintro e w10 ⟨rfl, hb⟩; have n0_ := Aside0.mk (below_step (by repeat (first | (with_reducible first | exact HB.out | apply below_alloc | apply pw_below_drewN | apply below_drew1) | exact HB.out)) hb); clear HB; have HB := n0_; clear n0_; (try clear hb); (try clear hb2); (try clear hk); (try clear hi)))
            repeat (go_quiet (first | (go_at_call 13; (with_reducible refine (hornbeamref18_Right.calls kj3 _ _ l0 (l1.length : Int) 256 x7_3 x8_3 t141 _ ?side1 ?side2 A9.out).mono ?_); (case side1 => repeat (first | exact (Kd.C_below HR0.out HB.out) | (with_reducible refine Kd.C_alloc ?_ _) | (with_reducible refine Kd.C_drewN ?_ _) | (with_reducible refine Kd.C_drew ?_))); (case side2 => exact HC0.out); rintro e w10 ⟨rfl, hb⟩; have n0_ := Aside0.mk (below_step (by repeat (first | (with_reducible first | exact HB.out | apply below_alloc | apply pw_below_drewN | apply below_drew1) | exact HB.out)) hb); clear HB; have HB := n0_; clear n0_; (try clear hb); (try clear hb2); (try clear hk); (try clear hi))); try go_wp2_with (first | (go_at_call 13; (with_reducible refine (hornbeamref18_Right.calls kj3 _ _ l0 (l1.length : Int) 256 x7_3 x8_3 t141 _ ?side1 ?side2 A9.out).mono ?_); (case side1 => repeat (first | exact (Kd.C_below HR0.out HB.out) | (with_reducible refine Kd.C_alloc ?_ _) | (with_reducible refine Kd.C_drewN ?_ _) | (with_reducible refine Kd.C_drew ?_))); (case side2 => exact HC0.out); rintro e w10 ⟨rfl, hb⟩; have n0_ := Aside0.mk (below_step (by repeat (first | (with_reducible first | exact HB.out | apply below_alloc | apply pw_below_drewN | apply below_drew1) | exact HB.out)) hb); clear HB; have HB := n0_; clear n0_; (try clear hb); (try clear hb2); (try clear hk); (try clear hi))))
            go_meet
            case rel => exact ⟨_, (!t141), (by first | rfl | (simp; done) | (simp [*]; done)), H', ⟨by have := HJ3.out; first | omega | exact Nat.le_refl _⟩, ⟨by repeat (first | (with_reducible first | exact HB.out | apply below_alloc | apply pw_below_drewN | apply below_drew1) | exact HB.out)⟩⟩
      case rest =>
        clear HC6
        try clear c1
        try clear p2
        try clear c4
        try clear c5
        try clear c7
        try clear c7b0
        try clear c7b1
        try clear c8
        try clear c8b0
        try clear c8b1
        try clear p2
        obtain ⟨kq, x29_5, rfl, HA, HJ5, HB⟩ := hcut
        cases kq with
        | zero => exact absurd HA.out (by simp [hornbeamlaw20_WalkEnds.j1])
        | succ kj5 =>
          have H := HA.out
          clear HA
          simp only [hornbeamlaw20_WalkEnds.j1] at H
          by_cases c11 : x29_5 = true
          · subst c11
            have H1 : ((hornbeamlaw20_fixed.f).bind fun t142 => (some t142)) = some r := by rw [if_pos rfl] at H; exact H
            clear H
            have H := H1
            clear H1
            replace H := Option.bind_eq_some_iff.mp H
            obtain ⟨t142, A120, H⟩ := H
            replace H : (some t142) = some r := H
            have A12 := Aside0.mk A120
            clear A120
            obtain rfl := Option.some.inj H
            go_wp2_with (first | (go_at_call 10; (with_reducible refine (hornbeamlaw20_fixed.calls  t142 _ A12.out).mono ?_); rintro e w13 ⟨rfl, hb⟩; have n0_ := Aside0.mk (below_step (by repeat (first | (with_reducible first | exact HB.out | apply below_alloc | apply pw_below_drewN | apply below_drew1) | exact HB.out)) hb); clear HB; have HB := n0_; clear n0_; (try clear hb); (try clear hb2); (try clear hk); (try clear hi)))
            repeat (go_quiet (first | (go_at_call 10; (with_reducible refine (hornbeamlaw20_fixed.calls  t142 _ A12.out).mono ?_); rintro e w13 ⟨rfl, hb⟩; have n0_ := Aside0.mk (below_step (by repeat (first | (with_reducible first | exact HB.out | apply below_alloc | apply pw_below_drewN | apply below_drew1) | exact HB.out)) hb); clear HB; have HB := n0_; clear n0_; (try clear hb); (try clear hb2); (try clear hk); (try clear hi))); try go_wp2_with (first | (go_at_call 10; (with_reducible refine (hornbeamlaw20_fixed.calls  t142 _ A12.out).mono ?_); rintro e w13 ⟨rfl, hb⟩; have n0_ := Aside0.mk (below_step (by repeat (first | (with_reducible first | exact HB.out | apply below_alloc | apply pw_below_drewN | apply below_drew1) | exact HB.out)) hb); clear HB; have HB := n0_; clear n0_; (try clear hb); (try clear hb2); (try clear hk); (try clear hi))))
            go_ret
            exact ⟨by first | rfl | (simp [errW_none, errW_some] <;> rfl) | (simp [*, errW_none, errW_some] <;> rfl), by repeat (first | (with_reducible first | exact HB.out | apply below_alloc | apply pw_below_drewN | apply below_drew1) | exact HB.out)⟩
          · replace c11 := Bool.eq_false_iff.mpr c11
            subst c11
            have H1 : ((walk_Place.f l0 l1).bind fun t143 => (if t143 < 0 then (hornbeamlaw20_WalkEnds.j2 kj5 l0 l1 t143 true) else (if t143 ≥ (l0.length : Int) then (hornbeamlaw20_WalkEnds.j2 kj5 l0 l1 t143 true) else (if 0 ≤ t143 then (if t143 < (l0.length : Int) then (hornbeamlaw20_WalkEnds.j2 kj5 l0 l1 t143 (((rd_T29 l0 t143).f0) != (-1))) else (none)) else (none))))) = some r := by rw [if_neg (show ¬ (false = true) by decide)] at H; exact H
            clear H
            have H := H1
            clear H1
            replace H := Option.bind_eq_some_iff.mp H
            obtain ⟨t143, A140, H⟩ := H
            replace H : (if t143 < 0 then (hornbeamlaw20_WalkEnds.j2 kj5 l0 l1 t143 true) else (if t143 ≥ (l0.length : Int) then (hornbeamlaw20_WalkEnds.j2 kj5 l0 l1 t143 true) else (if 0 ≤ t143 then (if t143 < (l0.length : Int) then (hornbeamlaw20_WalkEnds.j2 kj5 l0 l1 t143 (((rd_T29 l0 t143).f0) != (-1))) else (none)) else (none)))) = some r := H
            have A14 := Aside0.mk A140
            clear A140
            have HC15 := Aside0.mk H
            clear H
            go_upto_region 7 with (first | (go_at_call 11; (with_reducible refine (walk_Place.calls _ _ l0 _ _ l1 t143 _ ?side1 ?side2 ?side3 ?side4 A14.out).mono ?_); (case side1 => repeat (first | exact (Kd.C_below HR0.out HB.out) | (with_reducible refine Kd.C_alloc ?_ _) | (with_reducible refine Kd.C_drewN ?_ _) | (with_reducible refine Kd.C_drew ?_))); (case side2 => exact HC0.out); (case side3 => repeat (first | exact (Kd.C_below HR1.out HB.out) | (with_reducible refine Kd.C_alloc ?_ _) | (with_reducible refine Kd.C_drewN ?_ _) | (with_reducible refine Kd.C_drew ?_))); (case side4 => exact HC1.out); rintro e w16 ⟨rfl, hb⟩; have n0_ := Aside0.mk (below_step (by repeat (first | (with_reducible first | exact HB.out | apply below_alloc | apply pw_below_drewN | apply below_drew1) | exact HB.out)) hb); clear HB; have HB := n0_; clear n0_; (try clear hb); (try clear hb2); (try clear hk); (try clear hi)))
            repeat (go_quiet (first | (go_at_call 11; (with_reducible refine (walk_Place.calls _ _ l0 _ _ l1 t143 _ ?side1 ?side2 ?side3 ?side4 A14.out).mono ?_); (case side1 => repeat (first | exact (Kd.C_below HR0.out HB.out) | (with_reducible refine Kd.C_alloc ?_ _) | (with_reducible refine Kd.C_drewN ?_ _) | (with_reducible refine Kd.C_drew ?_))); (case side2 => exact HC0.out); (case side3 => repeat (first | exact (Kd.C_below HR1.out HB.out) | (with_reducible refine Kd.C_alloc ?_ _) | (with_reducible refine Kd.C_drewN ?_ _) | (with_reducible refine Kd.C_drew ?_))); (case side4 => exact HC1.out); rintro e w16 ⟨rfl, hb⟩; have n0_ := Aside0.mk (below_step (by repeat (first | (with_reducible first | exact HB.out | apply below_alloc | apply pw_below_drewN | apply below_drew1) | exact HB.out)) hb); clear HB; have HB := n0_; clear n0_; (try clear hb); (try clear hb2); (try clear hk); (try clear hi))); go_upto_region 7 with (first | (go_at_call 11; (with_reducible refine (walk_Place.calls _ _ l0 _ _ l1 t143 _ ?side1 ?side2 ?side3 ?side4 A14.out).mono ?_); (case side1 => repeat (first | exact (Kd.C_below HR0.out HB.out) | (with_reducible refine Kd.C_alloc ?_ _) | (with_reducible refine Kd.C_drewN ?_ _) | (with_reducible refine Kd.C_drew ?_))); (case side2 => exact HC0.out); (case side3 => repeat (first | exact (Kd.C_below HR1.out HB.out) | (with_reducible refine Kd.C_alloc ?_ _) | (with_reducible refine Kd.C_drewN ?_ _) | (with_reducible refine Kd.C_drew ?_))); (case side4 => exact HC1.out); rintro e w16 ⟨rfl, hb⟩; have n0_ := Aside0.mk (below_step (by repeat (first | (with_reducible first | exact HB.out | apply below_alloc | apply pw_below_drewN | apply below_drew1) | exact HB.out)) hb); clear HB; have HB := n0_; clear n0_; (try clear hb); (try clear hb2); (try clear hk); (try clear hi))))
            (try simp only [Act.put, List.setIfInBounds_toArray, List.set_cons_zero, List.set_cons_succ])
            go_cut [49] (fun v49 wc => ∃ (kq : Nat) (x49_14 : Bool), v49 = .bool x49_14 ∧ Aside0 (hornbeamlaw20_WalkEnds.j2 kq l0 l1 t143 x49_14 = some r) ∧ Aside0 (kq ≤ kj5) ∧ Aside0 (Below w.heap.size w wc))
            case first =>
              have H := HC15.out
              clear HC15
              by_cases c17 : t143 < 0
              · rw [if_pos c17] at H
                have c17b0 : decide (t143 < 0) = true := decide_eq_true c17
                clear c17
                (first | rw [c17b0] | (simp only [i64_w, i32_w]; rw [c17b0]) | skip)
                have H' := Aside0.mk H
                clear H
                go_wp2
                repeat (go_quiet (fail); try go_wp2)
                go_meet
                case rel => exact ⟨_, (true), (by first | rfl | (simp; done) | (simp [*]; done)), H', ⟨by have := HJ3.out; have := HJ5.out; first | omega | exact Nat.le_refl _⟩, ⟨by repeat (first | (with_reducible first | exact HB.out | apply below_alloc | apply pw_below_drewN | apply below_drew1) | exact HB.out)⟩⟩
              · rw [if_neg c17] at H
                have c17b0 : decide (t143 < 0) = false := decide_eq_false c17
                clear c17
                (first | rw [c17b0] | (simp only [i64_w, i32_w]; rw [c17b0]) | skip)
                by_cases c18 : t143 ≥ (l0.length : Int)
                · rw [if_pos c18] at H
                  have c18b0 : decide ((l0.length : Int) ≤ t143) = true := decide_eq_true c18
                  clear c18
                  have H' := Aside0.mk H
                  clear H
                  go_wp2
                  repeat (go_quiet (fail); try go_wp2)
                  go_meet
                  case rel => exact ⟨_, (true), (by first | rfl | (simp; done) | (simp [*]; done)), H', ⟨by have := HJ3.out; have := HJ5.out; first | omega | exact Nat.le_refl _⟩, ⟨by repeat (first | (with_reducible first | exact HB.out | apply below_alloc | apply pw_below_drewN | apply below_drew1) | exact HB.out)⟩⟩
                · rw [if_neg c18] at H
                  have c18b0 : decide ((l0.length : Int) ≤ t143) = false := decide_eq_false c18
                  clear c18
                  by_cases c19 : 0 ≤ t143
                  · rw [if_pos c19] at H
                    have c19b0 : decide (0 ≤ t143) = true := decide_eq_true c19
                    clear c19
                    by_cases c20 : t143 < (l0.length : Int)
                    · rw [if_pos c20] at H
                      have c20b0 : decide (t143 < (l0.length : Int)) = true := decide_eq_true c20
                      clear c20
                      have H' := Aside0.mk H
                      clear H
                      have p144 : 0 ≤ (t143 : Int) := of_decide_eq_true (by first | (with_reducible assumption) | assumption)
                      have q144 : t143 < (l0.length : Int) := of_decide_eq_true (by first | (with_reducible assumption) | assumption)
                      obtain ⟨ad144, e144, hx144_0, hx144_1, hx144_2, hx144_3, hx144_4, hx144_5⟩ := at_T29 HR0.out t143 p144 q144
                      cases e144
                      replace hx144_0 := (HB.out.cell (World.block_lt_of_cell? w _ hx144_0)).trans hx144_0
                      replace hx144_1 := (HB.out.cell (World.block_lt_of_cell? w _ hx144_1)).trans hx144_1
                      replace hx144_2 := (HB.out.cell (World.block_lt_of_cell? w _ hx144_2)).trans hx144_2
                      replace hx144_3 := (HB.out.cell (World.block_lt_of_cell? w _ hx144_3)).trans hx144_3
                      replace hx144_4 := (HB.out.cell (World.block_lt_of_cell? w _ hx144_4)).trans hx144_4
                      replace hx144_5 := (HB.out.cell (World.block_lt_of_cell? w _ hx144_5)).trans hx144_5
                      replace p144 := eq_true p144
                      replace q144 := eq_true q144
                      go_wp2
                      repeat (go_quiet (fail); try go_wp2)
                      go_meet
                      case rel => exact ⟨_, ((((rd_T29 l0 t143).f0) != (-1))), (by first | rfl | (simp; done) | (simp [*]; done)), H', ⟨by have := HJ3.out; have := HJ5.out; first | omega | exact Nat.le_refl _⟩, ⟨by repeat (first | (with_reducible first | exact HB.out | apply below_alloc | apply pw_below_drewN | apply below_drew1) | exact HB.out)⟩⟩
                    · rw [if_neg c20] at H
                      exact absurd H (by simp)
                  · rw [if_neg c19] at H
                    exact absurd H (by simp)
            case rest =>
              clear HC15
              try clear c1
              try clear p1
              try clear q1
              try clear hx1
              try clear c2
              try clear p2
              try clear c4
              try clear c5
              try clear c7
              try clear c7b0
              try clear c7b1
              try clear c8
              try clear c8b0
              try clear c8b1
              try clear c11
              try clear p14
              try clear q14
              try clear hx14
              try clear c17
              try clear c17b0
              try clear c18
              try clear c18b0
              try clear c19
              try clear c19b0
              try clear c20
              try clear c20b0
              try clear hx144_0
              try clear hx144_1
              try clear hx144_2
              try clear hx144_3
              try clear hx144_4
              try clear hx144_5
              try clear p144
              try clear p2
              try clear q144
              obtain ⟨kq, x49_14, rfl, HA, HJ14, HB⟩ := hcut
              cases kq with
              | zero => exact absurd HA.out (by simp [hornbeamlaw20_WalkEnds.j2])
              | succ kj14 =>
                have H := HA.out
                clear HA
                simp only [hornbeamlaw20_WalkEnds.j2] at H
                by_cases c21 : x49_14 = true
                · subst c21
                  have H1 : (some false) = some r := by rw [if_pos rfl] at H; exact H
                  clear H
                  have H := H1
                  clear H1
                  obtain rfl := Option.some.inj H
                  go_wp2
                  repeat (go_quiet (fail); try go_wp2)
                  go_ret
                  exact ⟨by first | rfl | (simp [errW_none, errW_some] <;> rfl) | (simp [*, errW_none, errW_some] <;> rfl), by repeat (first | (with_reducible first | exact HB.out | apply below_alloc | apply pw_below_drewN | apply below_drew1) | exact HB.out)⟩
                · replace c21 := Bool.eq_false_iff.mpr c21
                  subst c21
                  have H1 : (hornbeamlaw20_WalkEnds.l0 kj14 l0 l1 t143 (wrap64 ((l0.length : Int) - 1))) = some r := by rw [if_neg (show ¬ (false = true) by decide)] at H; exact H
                  clear H
                  have H := H1
                  clear H1
                  have H' := Aside0.mk H
                  clear H
                  go_wp2
                  repeat (go_quiet (fail); try go_wp2)
                  go_loopg [9, 10] kj14 (fun kq v9 v10 w' => ∃ (x9_4 : Int) (x10_4 : Int), v9 = .int .i64 x9_4 ∧ v10 = .int .i64 x10_4 ∧ Aside0 (hornbeamlaw20_WalkEnds.l0 kq l0 l1 x9_4 x10_4 = some r) ∧ Aside0 (kq ≤ kj14) ∧ Aside0 (Below w.heap.size w w'))
                  case atStart => exact ⟨(t143), (wrap64 ((l0.length : Int) - 1)), (by first | rfl | (simp; done) | (simp [*]; done)), (by first | rfl | (simp; done) | (simp [*]; done)), H', ⟨Nat.le_refl _⟩, ⟨by repeat (first | (with_reducible first | exact HB.out | apply below_alloc | apply pw_below_drewN | apply below_drew1) | exact HB.out)⟩⟩
                  case round =>
                    clear H'
                    try clear c1
                    try clear p1
                    try clear q1
                    try clear hx1
                    try clear c2
                    try clear p2
                    try clear c4
                    try clear c5
                    try clear p6
                    try clear c7
                    try clear c7b0
                    try clear c7b1
                    try clear c8
                    try clear c8b0
                    try clear c8b1
                    try clear c11
                    try clear p14
                    try clear q14
                    try clear hx14
                    try clear c17
                    try clear c17b0
                    try clear c18
                    try clear c18b0
                    try clear c19
                    try clear c19b0
                    try clear c20
                    try clear c20b0
                    try clear c21
                    try clear hx144_0
                    try clear hx144_1
                    try clear hx144_2
                    try clear hx144_3
                    try clear hx144_4
                    try clear hx144_5
                    try clear p1
                    try clear p14
                    try clear p144
                    try clear p2
                    try clear q1
                    try clear q14
                    try clear q144
                    obtain ⟨x9_4, x10_4, rfl, rfl, HA, HK4, HB⟩ := hrel
                    cases gk with
                    | zero => exact absurd HA.out (by simp [hornbeamlaw20_WalkEnds.l0])
                    | succ k4 =>
                      have H := HA.out
                      clear HA
                      simp only [hornbeamlaw20_WalkEnds.l0] at H
                      by_cases c22 : x10_4 ≥ 0
                      · rw [if_pos c22] at H
                        have c22b0 : decide (0 ≤ x10_4) = true := decide_eq_true c22
                        clear c22
                        by_cases c23 : 0 ≤ x10_4
                        · rw [if_pos c23] at H
                          have c23b0 : decide (0 ≤ x10_4) = true := decide_eq_true c23
                          clear c23
                          by_cases c24 : x10_4 < (l0.length : Int)
                          · rw [if_pos c24] at H
                            have c24b0 : decide (x10_4 < (l0.length : Int)) = true := decide_eq_true c24
                            clear c24
                            have HC25 := Aside0.mk H
                            clear H
                            have p146 : 0 ≤ (x10_4 : Int) := of_decide_eq_true (by first | (with_reducible assumption) | assumption)
                            have q146 : x10_4 < (l0.length : Int) := of_decide_eq_true (by first | (with_reducible assumption) | assumption)
                            obtain ⟨ad146, e146, hx146_0, hx146_1, hx146_2, hx146_3, hx146_4, hx146_5⟩ := at_T29 HR0.out x10_4 p146 q146
                            cases e146
                            replace hx146_0 := (HB.out.cell (World.block_lt_of_cell? w _ hx146_0)).trans hx146_0
                            replace hx146_1 := (HB.out.cell (World.block_lt_of_cell? w _ hx146_1)).trans hx146_1
                            replace hx146_2 := (HB.out.cell (World.block_lt_of_cell? w _ hx146_2)).trans hx146_2
                            replace hx146_3 := (HB.out.cell (World.block_lt_of_cell? w _ hx146_3)).trans hx146_3
                            replace hx146_4 := (HB.out.cell (World.block_lt_of_cell? w _ hx146_4)).trans hx146_4
                            replace hx146_5 := (HB.out.cell (World.block_lt_of_cell? w _ hx146_5)).trans hx146_5
                            replace p146 := eq_true p146
                            replace q146 := eq_true q146
                            go_upto_region 13 with (first | ((with_reducible refine gate_dst (N := 11) rfl ?_); (try (refine gate_guard (by rfl) ?_; dsimp only)); refine box_event ?hg (N := 11) ?hd (cs := #[.int .i64 0, .int .i64 0, .int .i64 0, .int .i64 0, .int .i64 0, .int .i64 0]) (t := 29) ?hr ?_; (case hd => rfl); (case hg => rfl); (case hr => first | (go_simp; done) | (go_simp; rfl)); intro gb147 hg w26 hbox hb; have n0_ := Aside0.mk (below_step (by repeat (first | (with_reducible first | exact HB.out | apply below_alloc | apply pw_below_drewN | apply below_drew1) | exact HB.out)) hb); have n1_ := Aside0.mk (hbox); have n2_ := Aside0.mk ((by rw [hg]; exact (below_size (by repeat (first | (with_reducible first | exact HB.out | apply below_alloc | apply pw_below_drewN | apply below_drew1) | exact HB.out))) : w.heap.size ≤ gb147)); have n3_ := Aside0.mk ((by rw [hg]; exact (below_size (by repeat (first | (with_reducible first | exact HB.out | apply below_alloc | apply pw_below_drewN | apply below_drew1) | exact HB.out))) : w.heap.size ≤ gb147)); clear HB; have HB := n0_; have BK147 := n1_; have GW147 := n2_; have GE147 := n3_; clear n0_ n1_ n2_ n3_; clear hb hbox hg; have hcz27_0 : w26.cell? ⟨gb147, 0, none⟩ = some (.int .i64 0) := (blk_cell BK147.out 0).trans rfl; have hcz27_1 : w26.cell? ⟨gb147, 1, none⟩ = some (.int .i64 0) := (blk_cell BK147.out 1).trans rfl; have hcz27_2 : w26.cell? ⟨gb147, 2, none⟩ = some (.int .i64 0) := (blk_cell BK147.out 2).trans rfl; have hcz27_3 : w26.cell? ⟨gb147, 3, none⟩ = some (.int .i64 0) := (blk_cell BK147.out 3).trans rfl; have hcz27_4 : w26.cell? ⟨gb147, 4, none⟩ = some (.int .i64 0) := (blk_cell BK147.out 4).trans rfl; have hcz27_5 : w26.cell? ⟨gb147, 5, none⟩ = some (.int .i64 0) := (blk_cell BK147.out 5).trans rfl; have hfz27_0 := blk_frozen BK147.out 0; have hfz27_1 := blk_frozen BK147.out 1; have hfz27_2 := blk_frozen BK147.out 2; have hfz27_3 := blk_frozen BK147.out 3; have hfz27_4 := blk_frozen BK147.out 4; have hfz27_5 := blk_frozen BK147.out 5))
                            repeat (go_quiet (first | ((with_reducible refine gate_dst (N := 11) rfl ?_); (try (refine gate_guard (by rfl) ?_; dsimp only)); refine box_event ?hg (N := 11) ?hd (cs := #[.int .i64 0, .int .i64 0, .int .i64 0, .int .i64 0, .int .i64 0, .int .i64 0]) (t := 29) ?hr ?_; (case hd => rfl); (case hg => rfl); (case hr => first | (go_simp; done) | (go_simp; rfl)); intro gb147 hg w26 hbox hb; have n0_ := Aside0.mk (below_step (by repeat (first | (with_reducible first | exact HB.out | apply below_alloc | apply pw_below_drewN | apply below_drew1) | exact HB.out)) hb); have n1_ := Aside0.mk (hbox); have n2_ := Aside0.mk ((by rw [hg]; exact (below_size (by repeat (first | (with_reducible first | exact HB.out | apply below_alloc | apply pw_below_drewN | apply below_drew1) | exact HB.out))) : w.heap.size ≤ gb147)); have n3_ := Aside0.mk ((by rw [hg]; exact (below_size (by repeat (first | (with_reducible first | exact HB.out | apply below_alloc | apply pw_below_drewN | apply below_drew1) | exact HB.out))) : w.heap.size ≤ gb147)); clear HB; have HB := n0_; have BK147 := n1_; have GW147 := n2_; have GE147 := n3_; clear n0_ n1_ n2_ n3_; clear hb hbox hg; have hcz27_0 : w26.cell? ⟨gb147, 0, none⟩ = some (.int .i64 0) := (blk_cell BK147.out 0).trans rfl; have hcz27_1 : w26.cell? ⟨gb147, 1, none⟩ = some (.int .i64 0) := (blk_cell BK147.out 1).trans rfl; have hcz27_2 : w26.cell? ⟨gb147, 2, none⟩ = some (.int .i64 0) := (blk_cell BK147.out 2).trans rfl; have hcz27_3 : w26.cell? ⟨gb147, 3, none⟩ = some (.int .i64 0) := (blk_cell BK147.out 3).trans rfl; have hcz27_4 : w26.cell? ⟨gb147, 4, none⟩ = some (.int .i64 0) := (blk_cell BK147.out 4).trans rfl; have hcz27_5 : w26.cell? ⟨gb147, 5, none⟩ = some (.int .i64 0) := (blk_cell BK147.out 5).trans rfl; have hfz27_0 := blk_frozen BK147.out 0; have hfz27_1 := blk_frozen BK147.out 1; have hfz27_2 := blk_frozen BK147.out 2; have hfz27_3 := blk_frozen BK147.out 3; have hfz27_4 := blk_frozen BK147.out 4; have hfz27_5 := blk_frozen BK147.out 5)); go_upto_region 13 with (first | ((with_reducible refine gate_dst (N := 11) rfl ?_); (try (refine gate_guard (by rfl) ?_; dsimp only)); refine box_event ?hg (N := 11) ?hd (cs := #[.int .i64 0, .int .i64 0, .int .i64 0, .int .i64 0, .int .i64 0, .int .i64 0]) (t := 29) ?hr ?_; (case hd => rfl); (case hg => rfl); (case hr => first | (go_simp; done) | (go_simp; rfl)); intro gb147 hg w26 hbox hb; have n0_ := Aside0.mk (below_step (by repeat (first | (with_reducible first | exact HB.out | apply below_alloc | apply pw_below_drewN | apply below_drew1) | exact HB.out)) hb); have n1_ := Aside0.mk (hbox); have n2_ := Aside0.mk ((by rw [hg]; exact (below_size (by repeat (first | (with_reducible first | exact HB.out | apply below_alloc | apply pw_below_drewN | apply below_drew1) | exact HB.out))) : w.heap.size ≤ gb147)); have n3_ := Aside0.mk ((by rw [hg]; exact (below_size (by repeat (first | (with_reducible first | exact HB.out | apply below_alloc | apply pw_below_drewN | apply below_drew1) | exact HB.out))) : w.heap.size ≤ gb147)); clear HB; have HB := n0_; have BK147 := n1_; have GW147 := n2_; have GE147 := n3_; clear n0_ n1_ n2_ n3_; clear hb hbox hg; have hcz27_0 : w26.cell? ⟨gb147, 0, none⟩ = some (.int .i64 0) := (blk_cell BK147.out 0).trans rfl; have hcz27_1 : w26.cell? ⟨gb147, 1, none⟩ = some (.int .i64 0) := (blk_cell BK147.out 1).trans rfl; have hcz27_2 : w26.cell? ⟨gb147, 2, none⟩ = some (.int .i64 0) := (blk_cell BK147.out 2).trans rfl; have hcz27_3 : w26.cell? ⟨gb147, 3, none⟩ = some (.int .i64 0) := (blk_cell BK147.out 3).trans rfl; have hcz27_4 : w26.cell? ⟨gb147, 4, none⟩ = some (.int .i64 0) := (blk_cell BK147.out 4).trans rfl; have hcz27_5 : w26.cell? ⟨gb147, 5, none⟩ = some (.int .i64 0) := (blk_cell BK147.out 5).trans rfl; have hfz27_0 := blk_frozen BK147.out 0; have hfz27_1 := blk_frozen BK147.out 1; have hfz27_2 := blk_frozen BK147.out 2; have hfz27_3 := blk_frozen BK147.out 3; have hfz27_4 := blk_frozen BK147.out 4; have hfz27_5 := blk_frozen BK147.out 5)))
                            (try simp only [Act.put, List.setIfInBounds_toArray, List.set_cons_zero, List.set_cons_succ])
                            go_cut [76] (fun v76 wc => ∃ (kq : Nat) (x76_24 : Bool), v76 = .bool x76_24 ∧ Aside0 (hornbeamlaw20_WalkEnds.j4 kq l0 l1 x9_4 x10_4 x76_24 ((rd_T29 l0 x10_4).f0) ((rd_T29 l0 x10_4).f1) ((rd_T29 l0 x10_4).f2) ((rd_T29 l0 x10_4).f3) ((rd_T29 l0 x10_4).f4) ((rd_T29 l0 x10_4).f5) = some r) ∧ Aside0 (kq ≤ k4) ∧ Aside0 (wc.heap[gb147]? = some (.cells #[.int .i64 ((rd_T29 l0 x10_4).f0), .int .i64 ((rd_T29 l0 x10_4).f1), .int .i64 ((rd_T29 l0 x10_4).f2), .int .i64 ((rd_T29 l0 x10_4).f3), .int .i64 ((rd_T29 l0 x10_4).f4), .int .i64 ((rd_T29 l0 x10_4).f5)] 29 (0, 0))) ∧ Aside0 (Below w.heap.size w wc))
                            case first =>
                              have H := HC25.out
                              clear HC25
                              by_cases c28 : ((rd_T29 l0 x10_4).f0) < 0
                              · rw [if_pos c28] at H
                                have c28b0 : decide (((rd_T29 l0 x10_4).f0) < 0) = true := decide_eq_true c28
                                clear c28
                                (first | rw [c28b0] | (simp only [i64_w, i32_w]; rw [c28b0]) | skip)
                                have H' := Aside0.mk H
                                clear H
                                have hcz29_0 : w26.cell? ⟨gb147, 0, none⟩ = some (.int .i64 0) := (blk_cell BK147.out 0).trans rfl
                                have hcz29_1 : w26.cell? ⟨gb147, 1, none⟩ = some (.int .i64 0) := (blk_cell BK147.out 1).trans rfl
                                have hcz29_2 : w26.cell? ⟨gb147, 2, none⟩ = some (.int .i64 0) := (blk_cell BK147.out 2).trans rfl
                                have hcz29_3 : w26.cell? ⟨gb147, 3, none⟩ = some (.int .i64 0) := (blk_cell BK147.out 3).trans rfl
                                have hcz29_4 : w26.cell? ⟨gb147, 4, none⟩ = some (.int .i64 0) := (blk_cell BK147.out 4).trans rfl
                                have hcz29_5 : w26.cell? ⟨gb147, 5, none⟩ = some (.int .i64 0) := (blk_cell BK147.out 5).trans rfl
                                have hfz29_0 := blk_frozen BK147.out 0
                                have hfz29_1 := blk_frozen BK147.out 1
                                have hfz29_2 := blk_frozen BK147.out 2
                                have hfz29_3 := blk_frozen BK147.out 3
                                have hfz29_4 := blk_frozen BK147.out 4
                                have hfz29_5 := blk_frozen BK147.out 5
                                go_wp2
                                repeat (go_quiet (fail); try go_wp2)
                                go_meet
                                case rel => exact ⟨_, (true), (by first | rfl | (simp; done) | (simp [*]; done)), H', ⟨by have := HJ3.out; have := HJ5.out; have := HJ14.out; have := HK4.out; first | omega | exact Nat.le_refl _⟩, ⟨by (with_reducible repeat (first | refine blk_drewN ?_ _ | refine blk_drew ?_ | refine blk_alloc ?_ _)); refine blk_put (cs := #[.int .i64 ((rd_T29 l0 x10_4).f0), .int .i64 ((rd_T29 l0 x10_4).f1), .int .i64 ((rd_T29 l0 x10_4).f2), .int .i64 ((rd_T29 l0 x10_4).f3), .int .i64 ((rd_T29 l0 x10_4).f4), .int .i64 0]) ?_ 5 _ rfl; (with_reducible repeat (first | refine blk_drewN ?_ _ | refine blk_drew ?_ | refine blk_alloc ?_ _)); refine blk_put (cs := #[.int .i64 ((rd_T29 l0 x10_4).f0), .int .i64 ((rd_T29 l0 x10_4).f1), .int .i64 ((rd_T29 l0 x10_4).f2), .int .i64 ((rd_T29 l0 x10_4).f3), .int .i64 0, .int .i64 0]) ?_ 4 _ rfl; (with_reducible repeat (first | refine blk_drewN ?_ _ | refine blk_drew ?_ | refine blk_alloc ?_ _)); refine blk_put (cs := #[.int .i64 ((rd_T29 l0 x10_4).f0), .int .i64 ((rd_T29 l0 x10_4).f1), .int .i64 ((rd_T29 l0 x10_4).f2), .int .i64 0, .int .i64 0, .int .i64 0]) ?_ 3 _ rfl; (with_reducible repeat (first | refine blk_drewN ?_ _ | refine blk_drew ?_ | refine blk_alloc ?_ _)); refine blk_put (cs := #[.int .i64 ((rd_T29 l0 x10_4).f0), .int .i64 ((rd_T29 l0 x10_4).f1), .int .i64 0, .int .i64 0, .int .i64 0, .int .i64 0]) ?_ 2 _ rfl; (with_reducible repeat (first | refine blk_drewN ?_ _ | refine blk_drew ?_ | refine blk_alloc ?_ _)); refine blk_put (cs := #[.int .i64 ((rd_T29 l0 x10_4).f0), .int .i64 0, .int .i64 0, .int .i64 0, .int .i64 0, .int .i64 0]) ?_ 1 _ rfl; (with_reducible repeat (first | refine blk_drewN ?_ _ | refine blk_drew ?_ | refine blk_alloc ?_ _)); refine blk_put (cs := #[.int .i64 0, .int .i64 0, .int .i64 0, .int .i64 0, .int .i64 0, .int .i64 0]) ?_ 0 _ rfl; (with_reducible repeat (first | refine blk_drewN ?_ _ | refine blk_drew ?_ | refine blk_alloc ?_ _)); exact BK147.out⟩, ⟨by repeat (first | (with_reducible first | exact HB.out | apply below_alloc | apply pw_below_drewN | apply below_drew1 | refine below_set ?_ GE147.out) | exact HB.out)⟩⟩
                              · rw [if_neg c28] at H
                                have c28b0 : decide (((rd_T29 l0 x10_4).f0) < 0) = false := decide_eq_false c28
                                clear c28
                                (first | rw [c28b0] | (simp only [i64_w, i32_w]; rw [c28b0]) | skip)
                                by_cases c30 : x9_4 = ((rd_T29 l0 x10_4).f2)
                                · rw [if_pos c30] at H
                                  have c30b0 : (x9_4 == ((rd_T29 l0 x10_4).f2)) = true := beq_iff_eq.mpr c30
                                  have c30b1 : (x9_4 != ((rd_T29 l0 x10_4).f2)) = false := bne_eq_false_iff_eq.mpr c30
                                  clear c30
                                  have H' := Aside0.mk H
                                  clear H
                                  have hcz31_0 : w26.cell? ⟨gb147, 0, none⟩ = some (.int .i64 0) := (blk_cell BK147.out 0).trans rfl
                                  have hcz31_1 : w26.cell? ⟨gb147, 1, none⟩ = some (.int .i64 0) := (blk_cell BK147.out 1).trans rfl
                                  have hcz31_2 : w26.cell? ⟨gb147, 2, none⟩ = some (.int .i64 0) := (blk_cell BK147.out 2).trans rfl
                                  have hcz31_3 : w26.cell? ⟨gb147, 3, none⟩ = some (.int .i64 0) := (blk_cell BK147.out 3).trans rfl
                                  have hcz31_4 : w26.cell? ⟨gb147, 4, none⟩ = some (.int .i64 0) := (blk_cell BK147.out 4).trans rfl
                                  have hcz31_5 : w26.cell? ⟨gb147, 5, none⟩ = some (.int .i64 0) := (blk_cell BK147.out 5).trans rfl
                                  have hfz31_0 := blk_frozen BK147.out 0
                                  have hfz31_1 := blk_frozen BK147.out 1
                                  have hfz31_2 := blk_frozen BK147.out 2
                                  have hfz31_3 := blk_frozen BK147.out 3
                                  have hfz31_4 := blk_frozen BK147.out 4
                                  have hfz31_5 := blk_frozen BK147.out 5
                                  go_wp2
                                  repeat (go_quiet (fail); try go_wp2)
                                  go_meet
                                  case rel => exact ⟨_, (false), (by first | rfl | (simp; done) | (simp [*]; done)), H', ⟨by have := HJ3.out; have := HJ5.out; have := HJ14.out; have := HK4.out; first | omega | exact Nat.le_refl _⟩, ⟨by (with_reducible repeat (first | refine blk_drewN ?_ _ | refine blk_drew ?_ | refine blk_alloc ?_ _)); refine blk_put (cs := #[.int .i64 ((rd_T29 l0 x10_4).f0), .int .i64 ((rd_T29 l0 x10_4).f1), .int .i64 ((rd_T29 l0 x10_4).f2), .int .i64 ((rd_T29 l0 x10_4).f3), .int .i64 ((rd_T29 l0 x10_4).f4), .int .i64 0]) ?_ 5 _ rfl; (with_reducible repeat (first | refine blk_drewN ?_ _ | refine blk_drew ?_ | refine blk_alloc ?_ _)); refine blk_put (cs := #[.int .i64 ((rd_T29 l0 x10_4).f0), .int .i64 ((rd_T29 l0 x10_4).f1), .int .i64 ((rd_T29 l0 x10_4).f2), .int .i64 ((rd_T29 l0 x10_4).f3), .int .i64 0, .int .i64 0]) ?_ 4 _ rfl; (with_reducible repeat (first | refine blk_drewN ?_ _ | refine blk_drew ?_ | refine blk_alloc ?_ _)); refine blk_put (cs := #[.int .i64 ((rd_T29 l0 x10_4).f0), .int .i64 ((rd_T29 l0 x10_4).f1), .int .i64 ((rd_T29 l0 x10_4).f2), .int .i64 0, .int .i64 0, .int .i64 0]) ?_ 3 _ rfl; (with_reducible repeat (first | refine blk_drewN ?_ _ | refine blk_drew ?_ | refine blk_alloc ?_ _)); refine blk_put (cs := #[.int .i64 ((rd_T29 l0 x10_4).f0), .int .i64 ((rd_T29 l0 x10_4).f1), .int .i64 0, .int .i64 0, .int .i64 0, .int .i64 0]) ?_ 2 _ rfl; (with_reducible repeat (first | refine blk_drewN ?_ _ | refine blk_drew ?_ | refine blk_alloc ?_ _)); refine blk_put (cs := #[.int .i64 ((rd_T29 l0 x10_4).f0), .int .i64 0, .int .i64 0, .int .i64 0, .int .i64 0, .int .i64 0]) ?_ 1 _ rfl; (with_reducible repeat (first | refine blk_drewN ?_ _ | refine blk_drew ?_ | refine blk_alloc ?_ _)); refine blk_put (cs := #[.int .i64 0, .int .i64 0, .int .i64 0, .int .i64 0, .int .i64 0, .int .i64 0]) ?_ 0 _ rfl; (with_reducible repeat (first | refine blk_drewN ?_ _ | refine blk_drew ?_ | refine blk_alloc ?_ _)); exact BK147.out⟩, ⟨by repeat (first | (with_reducible first | exact HB.out | apply below_alloc | apply pw_below_drewN | apply below_drew1 | refine below_set ?_ GE147.out) | exact HB.out)⟩⟩
                                · rw [if_neg c30] at H
                                  have c30b0 : (x9_4 == ((rd_T29 l0 x10_4).f2)) = false := beq_eq_false_iff_ne.mpr c30
                                  have c30b1 : (x9_4 != ((rd_T29 l0 x10_4).f2)) = true := bne_iff_ne.mpr c30
                                  have H' := Aside0.mk H
                                  clear H
                                  have hcz32_0 : w26.cell? ⟨gb147, 0, none⟩ = some (.int .i64 0) := (blk_cell BK147.out 0).trans rfl
                                  have hcz32_1 : w26.cell? ⟨gb147, 1, none⟩ = some (.int .i64 0) := (blk_cell BK147.out 1).trans rfl
                                  have hcz32_2 : w26.cell? ⟨gb147, 2, none⟩ = some (.int .i64 0) := (blk_cell BK147.out 2).trans rfl
                                  have hcz32_3 : w26.cell? ⟨gb147, 3, none⟩ = some (.int .i64 0) := (blk_cell BK147.out 3).trans rfl
                                  have hcz32_4 : w26.cell? ⟨gb147, 4, none⟩ = some (.int .i64 0) := (blk_cell BK147.out 4).trans rfl
                                  have hcz32_5 : w26.cell? ⟨gb147, 5, none⟩ = some (.int .i64 0) := (blk_cell BK147.out 5).trans rfl
                                  have hfz32_0 := blk_frozen BK147.out 0
                                  have hfz32_1 := blk_frozen BK147.out 1
                                  have hfz32_2 := blk_frozen BK147.out 2
                                  have hfz32_3 := blk_frozen BK147.out 3
                                  have hfz32_4 := blk_frozen BK147.out 4
                                  have hfz32_5 := blk_frozen BK147.out 5
                                  go_wp2
                                  repeat (go_quiet (fail); try go_wp2)
                                  go_meet
                                  case rel => exact ⟨_, ((x9_4 != (wrap64 (((rd_T29 l0 x10_4).f2) + 1)))), (by first | rfl | (simp; done) | (simp [*]; done)), H', ⟨by have := HJ3.out; have := HJ5.out; have := HJ14.out; have := HK4.out; first | omega | exact Nat.le_refl _⟩, ⟨by (with_reducible repeat (first | refine blk_drewN ?_ _ | refine blk_drew ?_ | refine blk_alloc ?_ _)); refine blk_put (cs := #[.int .i64 ((rd_T29 l0 x10_4).f0), .int .i64 ((rd_T29 l0 x10_4).f1), .int .i64 ((rd_T29 l0 x10_4).f2), .int .i64 ((rd_T29 l0 x10_4).f3), .int .i64 ((rd_T29 l0 x10_4).f4), .int .i64 0]) ?_ 5 _ rfl; (with_reducible repeat (first | refine blk_drewN ?_ _ | refine blk_drew ?_ | refine blk_alloc ?_ _)); refine blk_put (cs := #[.int .i64 ((rd_T29 l0 x10_4).f0), .int .i64 ((rd_T29 l0 x10_4).f1), .int .i64 ((rd_T29 l0 x10_4).f2), .int .i64 ((rd_T29 l0 x10_4).f3), .int .i64 0, .int .i64 0]) ?_ 4 _ rfl; (with_reducible repeat (first | refine blk_drewN ?_ _ | refine blk_drew ?_ | refine blk_alloc ?_ _)); refine blk_put (cs := #[.int .i64 ((rd_T29 l0 x10_4).f0), .int .i64 ((rd_T29 l0 x10_4).f1), .int .i64 ((rd_T29 l0 x10_4).f2), .int .i64 0, .int .i64 0, .int .i64 0]) ?_ 3 _ rfl; (with_reducible repeat (first | refine blk_drewN ?_ _ | refine blk_drew ?_ | refine blk_alloc ?_ _)); refine blk_put (cs := #[.int .i64 ((rd_T29 l0 x10_4).f0), .int .i64 ((rd_T29 l0 x10_4).f1), .int .i64 0, .int .i64 0, .int .i64 0, .int .i64 0]) ?_ 2 _ rfl; (with_reducible repeat (first | refine blk_drewN ?_ _ | refine blk_drew ?_ | refine blk_alloc ?_ _)); refine blk_put (cs := #[.int .i64 ((rd_T29 l0 x10_4).f0), .int .i64 0, .int .i64 0, .int .i64 0, .int .i64 0, .int .i64 0]) ?_ 1 _ rfl; (with_reducible repeat (first | refine blk_drewN ?_ _ | refine blk_drew ?_ | refine blk_alloc ?_ _)); refine blk_put (cs := #[.int .i64 0, .int .i64 0, .int .i64 0, .int .i64 0, .int .i64 0, .int .i64 0]) ?_ 0 _ rfl; (with_reducible repeat (first | refine blk_drewN ?_ _ | refine blk_drew ?_ | refine blk_alloc ?_ _)); exact BK147.out⟩, ⟨by repeat (first | (with_reducible first | exact HB.out | apply below_alloc | apply pw_below_drewN | apply below_drew1 | refine below_set ?_ GE147.out) | exact HB.out)⟩⟩
                            case rest =>
                              clear HC25
                              try clear c1
                              try clear p1
                              try clear q1
                              try clear hx1
                              try clear c2
                              try clear p2
                              try clear c3
                              try clear c4
                              try clear c5
                              try clear p6
                              try clear c7
                              try clear c7b0
                              try clear c7b1
                              try clear c8
                              try clear c8b0
                              try clear c8b1
                              try clear c11
                              try clear p14
                              try clear q14
                              try clear hx14
                              try clear c17
                              try clear c17b0
                              try clear c18
                              try clear c18b0
                              try clear c19
                              try clear c19b0
                              try clear c20
                              try clear c20b0
                              try clear c21
                              try clear c22
                              try clear c22b0
                              try clear c23
                              try clear c23b0
                              try clear c24
                              try clear c24b0
                              try clear c28
                              try clear c28b0
                              try clear c30
                              try clear c30b0
                              try clear c30b1
                              try clear hcz27_0
                              try clear hcz27_1
                              try clear hcz27_2
                              try clear hcz27_3
                              try clear hcz27_4
                              try clear hcz27_5
                              try clear hcz29_0
                              try clear hcz29_1
                              try clear hcz29_2
                              try clear hcz29_3
                              try clear hcz29_4
                              try clear hcz29_5
                              try clear hcz31_0
                              try clear hcz31_1
                              try clear hcz31_2
                              try clear hcz31_3
                              try clear hcz31_4
                              try clear hcz31_5
                              try clear hcz32_0
                              try clear hcz32_1
                              try clear hcz32_2
                              try clear hcz32_3
                              try clear hcz32_4
                              try clear hcz32_5
                              try clear hfz27_0
                              try clear hfz27_1
                              try clear hfz27_2
                              try clear hfz27_3
                              try clear hfz27_4
                              try clear hfz27_5
                              try clear hfz29_0
                              try clear hfz29_1
                              try clear hfz29_2
                              try clear hfz29_3
                              try clear hfz29_4
                              try clear hfz29_5
                              try clear hfz31_0
                              try clear hfz31_1
                              try clear hfz31_2
                              try clear hfz31_3
                              try clear hfz31_4
                              try clear hfz31_5
                              try clear hfz32_0
                              try clear hfz32_1
                              try clear hfz32_2
                              try clear hfz32_3
                              try clear hfz32_4
                              try clear hfz32_5
                              try clear hx144_0
                              try clear hx144_1
                              try clear hx144_2
                              try clear hx144_3
                              try clear hx144_4
                              try clear hx144_5
                              try clear hx146_0
                              try clear hx146_1
                              try clear hx146_2
                              try clear hx146_3
                              try clear hx146_4
                              try clear hx146_5
                              try clear p1
                              try clear p14
                              try clear p144
                              try clear p146
                              try clear p2
                              try clear p6
                              try clear q1
                              try clear q14
                              try clear q144
                              try clear q146
                              obtain ⟨kq, x76_24, rfl, HA, HJ24, BK147, HB⟩ := hcut
                              cases kq with
                              | zero => exact absurd HA.out (by simp [hornbeamlaw20_WalkEnds.j4])
                              | succ kj24 =>
                                have H := HA.out
                                clear HA
                                simp only [hornbeamlaw20_WalkEnds.j4] at H
                                by_cases c33 : x76_24 = true
                                · subst c33
                                  have H1 : (hornbeamlaw20_WalkEnds.l0 kj24 l0 l1 x9_4 (wrap64 (x10_4 - 1))) = some r := by rw [if_pos rfl] at H; exact H
                                  clear H
                                  have H := H1
                                  clear H1
                                  have H' := Aside0.mk H
                                  clear H
                                  go_wp2
                                  repeat (go_quiet (fail); try go_wp2)
                                  go_roundg kj24
                                  case measure => have := HJ3.out; have := HJ5.out; have := HJ14.out; have := HK4.out; have := HJ24.out; omega
                                  case rel => exact ⟨(x9_4), (wrap64 (x10_4 - 1)), (by first | rfl | (simp; done) | (simp [*]; done)), (by first | rfl | (simp; done) | (simp [*]; done)), H', ⟨by have := HJ3.out; have := HJ5.out; have := HJ14.out; have := HK4.out; have := HJ24.out; omega⟩, ⟨by repeat (first | (with_reducible first | exact HB.out | apply below_alloc | apply pw_below_drewN | apply below_drew1 | refine below_set ?_ GE147.out) | exact HB.out)⟩⟩
                                · replace c33 := Bool.eq_false_iff.mpr c33
                                  subst c33
                                  have H1 : (if 0 ≤ ((rd_T29 l0 x10_4).f0) then (if ((rd_T29 l0 x10_4).f0) < (l1.length : Int) then (if ((decide ((rd l1 ((rd_T29 l0 x10_4).f0)) ≤ ((rd_T29 l0 x10_4).f1))) != (x9_4 == ((rd_T29 l0 x10_4).f2))) = true then (some false) else (hornbeamlaw20_WalkEnds.l0 kj24 l0 l1 x10_4 (wrap64 (x10_4 - 1)))) else (none)) else (none)) = some r := by rw [if_neg (show ¬ (false = true) by decide)] at H; exact H
                                  clear H
                                  have H := H1
                                  clear H1
                                  by_cases c34 : 0 ≤ ((rd_T29 l0 x10_4).f0)
                                  · rw [if_pos c34] at H
                                    have c34b0 : decide (0 ≤ ((rd_T29 l0 x10_4).f0)) = true := decide_eq_true c34
                                    clear c34
                                    by_cases c35 : ((rd_T29 l0 x10_4).f0) < (l1.length : Int)
                                    · rw [if_pos c35] at H
                                      have c35b0 : decide (((rd_T29 l0 x10_4).f0) < (l1.length : Int)) = true := decide_eq_true c35
                                      clear c35
                                      by_cases c36 : ((decide ((rd l1 ((rd_T29 l0 x10_4).f0)) ≤ ((rd_T29 l0 x10_4).f1))) != (x9_4 == ((rd_T29 l0 x10_4).f2))) = true
                                      · rw [if_pos c36] at H
                                        have c36b0 : ((decide ((rd l1 ((rd_T29 l0 x10_4).f0)) ≤ ((rd_T29 l0 x10_4).f1))) != (x9_4 == ((rd_T29 l0 x10_4).f2))) = true := c36
                                        (try (have c36b1 : decide ((decide ((rd l1 ((rd_T29 l0 x10_4).f0)) ≤ ((rd_T29 l0 x10_4).f1))) = (x9_4 == ((rd_T29 l0 x10_4).f2))) = false := by simpa using c36))
                                        (try (have c36b2 : ((decide ((rd l1 ((rd_T29 l0 x10_4).f0)) ≤ ((rd_T29 l0 x10_4).f1))) == (x9_4 == ((rd_T29 l0 x10_4).f2))) = false := by simpa using c36))
                                        (try (have c36b3 : ¬ ((decide ((rd l1 ((rd_T29 l0 x10_4).f0)) ≤ ((rd_T29 l0 x10_4).f1))) = (x9_4 == ((rd_T29 l0 x10_4).f2))) := by simpa using c36))
                                        clear c36
                                        obtain rfl := Option.some.inj H
                                        have hcz37_0 : wc.cell? ⟨gb147, 0, none⟩ = some (.int .i64 ((rd_T29 l0 x10_4).f0)) := (blk_cell BK147.out 0).trans rfl
                                        have hcz37_1 : wc.cell? ⟨gb147, 1, none⟩ = some (.int .i64 ((rd_T29 l0 x10_4).f1)) := (blk_cell BK147.out 1).trans rfl
                                        have hcz37_2 : wc.cell? ⟨gb147, 2, none⟩ = some (.int .i64 ((rd_T29 l0 x10_4).f2)) := (blk_cell BK147.out 2).trans rfl
                                        have hcz37_3 : wc.cell? ⟨gb147, 3, none⟩ = some (.int .i64 ((rd_T29 l0 x10_4).f3)) := (blk_cell BK147.out 3).trans rfl
                                        have hcz37_4 : wc.cell? ⟨gb147, 4, none⟩ = some (.int .i64 ((rd_T29 l0 x10_4).f4)) := (blk_cell BK147.out 4).trans rfl
                                        have hcz37_5 : wc.cell? ⟨gb147, 5, none⟩ = some (.int .i64 ((rd_T29 l0 x10_4).f5)) := (blk_cell BK147.out 5).trans rfl
                                        have hfz37_0 := blk_frozen BK147.out 0
                                        have hfz37_1 := blk_frozen BK147.out 1
                                        have hfz37_2 := blk_frozen BK147.out 2
                                        have hfz37_3 := blk_frozen BK147.out 3
                                        have hfz37_4 := blk_frozen BK147.out 4
                                        have hfz37_5 := blk_frozen BK147.out 5
                                        have p148 : 0 ≤ (((rd_T29 l0 x10_4).f0) : Int) := of_decide_eq_true (by first | (with_reducible assumption) | assumption)
                                        have q148 : ((rd_T29 l0 x10_4).f0) < (l1.length : Int) := of_decide_eq_true (by first | (with_reducible assumption) | assumption)
                                        obtain ⟨ad148, e148, hx148_0⟩ := Kd.at_int HR1.out ((rd_T29 l0 x10_4).f0) p148 q148
                                        cases e148
                                        replace hx148_0 := (HB.out.cell (World.block_lt_of_cell? w _ hx148_0)).trans hx148_0
                                        replace p148 := eq_true p148
                                        replace q148 := eq_true q148
                                        go_wp2
                                        repeat (go_quiet (fail); try go_wp2)
                                        go_ret
                                        exact ⟨by first | rfl | (simp [errW_none, errW_some] <;> rfl) | (simp [*, errW_none, errW_some] <;> rfl), by repeat (first | (with_reducible first | exact HB.out | apply below_alloc | apply pw_below_drewN | apply below_drew1 | refine below_set ?_ GE147.out) | exact HB.out)⟩
                                      · rw [if_neg c36] at H
                                        have c36b0 : ((decide ((rd l1 ((rd_T29 l0 x10_4).f0)) ≤ ((rd_T29 l0 x10_4).f1))) != (x9_4 == ((rd_T29 l0 x10_4).f2))) = false := by simpa using c36
                                        (try (have c36b1 : decide ((decide ((rd l1 ((rd_T29 l0 x10_4).f0)) ≤ ((rd_T29 l0 x10_4).f1))) = (x9_4 == ((rd_T29 l0 x10_4).f2))) = true := by simpa using c36))
                                        (try (have c36b2 : ((decide ((rd l1 ((rd_T29 l0 x10_4).f0)) ≤ ((rd_T29 l0 x10_4).f1))) == (x9_4 == ((rd_T29 l0 x10_4).f2))) = true := by simpa using c36))
                                        clear c36
                                        have H' := Aside0.mk H
                                        clear H
                                        have hcz38_0 : wc.cell? ⟨gb147, 0, none⟩ = some (.int .i64 ((rd_T29 l0 x10_4).f0)) := (blk_cell BK147.out 0).trans rfl
                                        have hcz38_1 : wc.cell? ⟨gb147, 1, none⟩ = some (.int .i64 ((rd_T29 l0 x10_4).f1)) := (blk_cell BK147.out 1).trans rfl
                                        have hcz38_2 : wc.cell? ⟨gb147, 2, none⟩ = some (.int .i64 ((rd_T29 l0 x10_4).f2)) := (blk_cell BK147.out 2).trans rfl
                                        have hcz38_3 : wc.cell? ⟨gb147, 3, none⟩ = some (.int .i64 ((rd_T29 l0 x10_4).f3)) := (blk_cell BK147.out 3).trans rfl
                                        have hcz38_4 : wc.cell? ⟨gb147, 4, none⟩ = some (.int .i64 ((rd_T29 l0 x10_4).f4)) := (blk_cell BK147.out 4).trans rfl
                                        have hcz38_5 : wc.cell? ⟨gb147, 5, none⟩ = some (.int .i64 ((rd_T29 l0 x10_4).f5)) := (blk_cell BK147.out 5).trans rfl
                                        have hfz38_0 := blk_frozen BK147.out 0
                                        have hfz38_1 := blk_frozen BK147.out 1
                                        have hfz38_2 := blk_frozen BK147.out 2
                                        have hfz38_3 := blk_frozen BK147.out 3
                                        have hfz38_4 := blk_frozen BK147.out 4
                                        have hfz38_5 := blk_frozen BK147.out 5
                                        have p148 : 0 ≤ (((rd_T29 l0 x10_4).f0) : Int) := of_decide_eq_true (by first | (with_reducible assumption) | assumption)
                                        have q148 : ((rd_T29 l0 x10_4).f0) < (l1.length : Int) := of_decide_eq_true (by first | (with_reducible assumption) | assumption)
                                        obtain ⟨ad148, e148, hx148_0⟩ := Kd.at_int HR1.out ((rd_T29 l0 x10_4).f0) p148 q148
                                        cases e148
                                        replace hx148_0 := (HB.out.cell (World.block_lt_of_cell? w _ hx148_0)).trans hx148_0
                                        replace p148 := eq_true p148
                                        replace q148 := eq_true q148
                                        go_wp2
                                        repeat (go_quiet (fail); try go_wp2)
                                        go_roundg kj24
                                        case measure => have := HJ3.out; have := HJ5.out; have := HJ14.out; have := HK4.out; have := HJ24.out; omega
                                        case rel => exact ⟨(x10_4), (wrap64 (x10_4 - 1)), (by first | rfl | (simp; done) | (simp [*]; done)), (by first | rfl | (simp; done) | (simp [*]; done)), H', ⟨by have := HJ3.out; have := HJ5.out; have := HJ14.out; have := HK4.out; have := HJ24.out; omega⟩, ⟨by repeat (first | (with_reducible first | exact HB.out | apply below_alloc | apply pw_below_drewN | apply below_drew1 | refine below_set ?_ GE147.out) | exact HB.out)⟩⟩
                                    · rw [if_neg c35] at H
                                      exact absurd H (by simp)
                                  · rw [if_neg c34] at H
                                    exact absurd H (by simp)
                          · rw [if_neg c24] at H
                            exact absurd H (by simp)
                        · rw [if_neg c23] at H
                          exact absurd H (by simp)
                      · rw [if_neg c22] at H
                        have c22b0 : decide (0 ≤ x10_4) = false := decide_eq_false c22
                        clear c22
                        replace H := Option.bind_eq_some_iff.mp H
                        obtain ⟨t145, A390, H⟩ := H
                        replace H : (if t145 = true then (some (x9_4 == 0)) else (some false)) = some r := H
                        have A39 := Aside0.mk A390
                        clear A390
                        by_cases c40 : t145 = true
                        · subst c40
                          have H1 : (some (x9_4 == 0)) = some r := by rw [if_pos rfl] at H; exact H
                          clear H
                          have H := H1
                          clear H1
                          obtain rfl := Option.some.inj H
                          go_wp2_with (first | (go_at_call 10; (with_reducible refine (hornbeamlaw20_fixed.calls  true _ A39.out).mono ?_); rintro e w41 ⟨rfl, hb⟩; have n0_ := Aside0.mk (below_step (by repeat (first | (with_reducible first | exact HB.out | apply below_alloc | apply pw_below_drewN | apply below_drew1) | exact HB.out)) hb); clear HB; have HB := n0_; clear n0_; (try clear hb); (try clear hb2); (try clear hk); (try clear hi)))
                          repeat (go_quiet (first | (go_at_call 10; (with_reducible refine (hornbeamlaw20_fixed.calls  true _ A39.out).mono ?_); rintro e w41 ⟨rfl, hb⟩; have n0_ := Aside0.mk (below_step (by repeat (first | (with_reducible first | exact HB.out | apply below_alloc | apply pw_below_drewN | apply below_drew1) | exact HB.out)) hb); clear HB; have HB := n0_; clear n0_; (try clear hb); (try clear hb2); (try clear hk); (try clear hi))); try go_wp2_with (first | (go_at_call 10; (with_reducible refine (hornbeamlaw20_fixed.calls  true _ A39.out).mono ?_); rintro e w41 ⟨rfl, hb⟩; have n0_ := Aside0.mk (below_step (by repeat (first | (with_reducible first | exact HB.out | apply below_alloc | apply pw_below_drewN | apply below_drew1) | exact HB.out)) hb); clear HB; have HB := n0_; clear n0_; (try clear hb); (try clear hb2); (try clear hk); (try clear hi))))
                          go_ret
                          exact ⟨by first | rfl | (simp [errW_none, errW_some] <;> rfl) | (simp [*, errW_none, errW_some] <;> rfl), by repeat (first | (with_reducible first | exact HB.out | apply below_alloc | apply pw_below_drewN | apply below_drew1) | exact HB.out)⟩
                        · replace c40 := Bool.eq_false_iff.mpr c40
                          subst c40
                          have H1 : (some false) = some r := by rw [if_neg (show ¬ (false = true) by decide)] at H; exact H
                          clear H
                          have H := H1
                          clear H1
                          obtain rfl := Option.some.inj H
                          go_wp2_with (first | (go_at_call 10; (with_reducible refine (hornbeamlaw20_fixed.calls  false _ A39.out).mono ?_); rintro e w42 ⟨rfl, hb⟩; have n0_ := Aside0.mk (below_step (by repeat (first | (with_reducible first | exact HB.out | apply below_alloc | apply pw_below_drewN | apply below_drew1) | exact HB.out)) hb); clear HB; have HB := n0_; clear n0_; (try clear hb); (try clear hb2); (try clear hk); (try clear hi)))
                          repeat (go_quiet (first | (go_at_call 10; (with_reducible refine (hornbeamlaw20_fixed.calls  false _ A39.out).mono ?_); rintro e w42 ⟨rfl, hb⟩; have n0_ := Aside0.mk (below_step (by repeat (first | (with_reducible first | exact HB.out | apply below_alloc | apply pw_below_drewN | apply below_drew1) | exact HB.out)) hb); clear HB; have HB := n0_; clear n0_; (try clear hb); (try clear hb2); (try clear hk); (try clear hi))); try go_wp2_with (first | (go_at_call 10; (with_reducible refine (hornbeamlaw20_fixed.calls  false _ A39.out).mono ?_); rintro e w42 ⟨rfl, hb⟩; have n0_ := Aside0.mk (below_step (by repeat (first | (with_reducible first | exact HB.out | apply below_alloc | apply pw_below_drewN | apply below_drew1) | exact HB.out)) hb); clear HB; have HB := n0_; clear n0_; (try clear hb); (try clear hb2); (try clear hk); (try clear hi))))
                          go_ret
                          exact ⟨by first | rfl | (simp [errW_none, errW_some] <;> rfl) | (simp [*, errW_none, errW_some] <;> rfl), by repeat (first | (with_reducible first | exact HB.out | apply below_alloc | apply pw_below_drewN | apply below_drew1) | exact HB.out)⟩

/-- What is left to prove of hornbeamlaw20_WalkEnds. -/
def hornbeamlaw20_WalkEnds.Pure : Prop := ∀ (l0 : List (S29)) (l1 : List Int) (a2 : Bool), ((l0.length ≤ 9223372036854775807 ∧ l0.length * 48 ≤ 140737488351232 ∧ ∀ x ∈ l0, (((Lit.int .i64 x.f0).wf = true) ∧ (((Lit.int .i64 x.f1).wf = true) ∧ (((Lit.int .i64 x.f2).wf = true) ∧ (((Lit.int .i64 x.f3).wf = true) ∧ (((Lit.int .i64 x.f4).wf = true) ∧ ((Lit.int .i64 x.f5).wf = true)))))))) → ((l1.length ≤ 9223372036854775807 ∧ l1.length * 8 ≤ 140737488351232 ∧ ∀ x ∈ l1, (Lit.int .i64 x).wf = true)) → (True) → ∃ k, hornbeamlaw20_WalkEnds.f k l0 l1 a2 = some true

end Go.Proofs.Ytkfnhbhfadhbkaa.PA
